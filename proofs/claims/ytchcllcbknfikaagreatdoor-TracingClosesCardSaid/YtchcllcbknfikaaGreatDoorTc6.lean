/- Contracts and lemmas: LinJ, LinK, LinO, LinP, LinQ, LinS, LinW, LcC, TrI, TrJ, LcD, LinX, LcE, LcG, LcF. -/
import Derived.Test.YtchcllcbknfikaaGreatDoorTc5
set_option linter.unusedVariables false
set_option linter.unusedSimpArgs false
set_option maxRecDepth 100000
set_option maxHeartbeats 25600000
namespace Go.Proofs.YtchcllcbknfikaaGreatDoor
open Go.RowKit sH
theorem VH (P Q G:Int)(Y:Option Addr)(ys:List Int)(yn yc:Nat)(B:Option Addr)(rows:List Row)(bn bc:Nat)(HG:Hid (a_ P Q G=false))(hyn:Hid (ys.length=yn))(hbn:Hid (rows.length=bn))(hQ:Q<9223372036854775808)(w:World)(hY:Hid (Sl w Y ys))(hB:Hid (Rw w B rows)) :
  Calls Tryz.prog 225 #[gv P Q G,iY Y yn yc B bn bc] w (Rt w (.bool false)):=by
 obtain⟨w0,hW⟩:∃W,(w.alloc (bg P Q G)).alloc (lK Y yn yc B bn bc)=W:=⟨_,rfl⟩;have ai:Hid (Below w.heap.size w w0):=aa (by rw[←hW];exact aO (Below.refl _ _));have HX0:Hid (qz w0 w.heap.size P Q G):=aa (by rw[←hW];exact(bD w P Q G).below (af _ _));have fH:Hid (rX w0 (w.heap.size+1) (.slice Y yn yc) (.slice B bn bc)):=aa (by rw[←hW];exact ek _ _ _ _ _);have zL:Hid (Sl w0 Y ys):=aa (hY.out.below ai.out);have qU:Hid (Rw w0 B rows):=aa (hB.out.below ai.out);have HW:=aa hW;clear hW hY hB;go_in
 go_wp2_with fail
 rw[HW.out]
 go_wp2_with fail
 refine(di P Q G false HG hQ _).mono ?_;rintro e w1 ⟨rfl,hb0⟩;have hb1:=ag (ai.out) hb0;have tq:=aa (HX0.out.below hb0);have HR1:=aa (fH.out.below hb0);have zK:=aa (zL.out.below hb0);have qy:=aa (qU.out.below hb0);clear hb0;obtain⟨c0,c1,c2⟩:=tq.out;obtain⟨d0,d1⟩:=HR1.out;go_wp2;go_ret;exact⟨rfl,hb1⟩
theorem VM (P Q G:Int)(Y:Option Addr)(ys:List Int)(yn yc:Nat)(B:Option Addr)(rows:List Row)(bn bc:Nat)(HG:Hid (a_ P Q G=true))(h1:yn<1)(hyn:Hid (ys.length=yn))(hbn:Hid (rows.length=bn))(hQ:Q<9223372036854775808)(w:World)(hY:Hid (Sl w Y ys))(hB:Hid (Rw w B rows)) :
  Calls Tryz.prog 225 #[gv P Q G,iY Y yn yc B bn bc] w (Rt w (.bool false)):=by
 obtain⟨w0,hW⟩:∃W,(w.alloc (bg P Q G)).alloc (lK Y yn yc B bn bc)=W:=⟨_,rfl⟩;have ai:Hid (Below w.heap.size w w0):=aa (by rw[←hW];exact aO (Below.refl _ _));have HX0:Hid (qz w0 w.heap.size P Q G):=aa (by rw[←hW];exact(bD w P Q G).below (af _ _));have fH:Hid (rX w0 (w.heap.size+1) (.slice Y yn yc) (.slice B bn bc)):=aa (by rw[←hW];exact ek _ _ _ _ _);have zL:Hid (Sl w0 Y ys):=aa (hY.out.below ai.out);have qU:Hid (Rw w0 B rows):=aa (hB.out.below ai.out);have HW:=aa hW;clear hW hY hB;have d1:decide ((yn:Int)<1)=true:=by simp;omega
 go_in
 go_wp2_with fail
 rw[HW.out]
 go_wp2_with fail
 refine(di P Q G true HG hQ _).mono ?_;rintro e w1 ⟨rfl,hb0⟩;have hb1:=ag (ai.out) hb0;have tq:=aa (HX0.out.below hb0);have HR1:=aa (fH.out.below hb0);have zK:=aa (zL.out.below hb0);have qy:=aa (qU.out.below hb0);clear hb0;obtain⟨c0,c1,c2⟩:=tq.out;obtain⟨d0,d1⟩:=HR1.out;go_wp2;go_ret;exact⟨rfl,hb1⟩
theorem VL (P Q G:Int)(Y:Option Addr)(ys:List Int)(yn yc:Nat)(B:Option Addr)(rows:List Row)(bn bc:Nat)(HG:Hid (a_ P Q G=true))(h1:1≤yn)(h2:8<yn)(hyn:Hid (ys.length=yn))(hbn:Hid (rows.length=bn))(hQ:Q<9223372036854775808)(w:World)(hY:Hid (Sl w Y ys))(hB:Hid (Rw w B rows)) :
  Calls Tryz.prog 225 #[gv P Q G,iY Y yn yc B bn bc] w (Rt w (.bool false)):=by
 obtain⟨w0,hW⟩:∃W,(w.alloc (bg P Q G)).alloc (lK Y yn yc B bn bc)=W:=⟨_,rfl⟩;have ai:Hid (Below w.heap.size w w0):=aa (by rw[←hW];exact aO (Below.refl _ _));have HX0:Hid (qz w0 w.heap.size P Q G):=aa (by rw[←hW];exact(bD w P Q G).below (af _ _));have fH:Hid (rX w0 (w.heap.size+1) (.slice Y yn yc) (.slice B bn bc)):=aa (by rw[←hW];exact ek _ _ _ _ _);have zL:Hid (Sl w0 Y ys):=aa (hY.out.below ai.out);have qU:Hid (Rw w0 B rows):=aa (hB.out.below ai.out);have HW:=aa hW;clear hW hY hB;have d1:decide ((yn:Int)<1)=false:=by simp;omega
 have d2:decide ((8:Int)<(yn:Int))=true:=by simp;omega
 go_in
 go_wp2_with fail
 rw[HW.out]
 go_wp2_with fail
 refine(di P Q G true HG hQ _).mono ?_;rintro e w1 ⟨rfl,hb0⟩;have hb1:=ag (ai.out) hb0;have tq:=aa (HX0.out.below hb0);have HR1:=aa (fH.out.below hb0);have zK:=aa (zL.out.below hb0);have qy:=aa (qU.out.below hb0);clear hb0;obtain⟨c0,c1,c2⟩:=tq.out;obtain⟨d0,d1⟩:=HR1.out;go_wp2;go_ret;exact⟨rfl,hb1⟩
theorem VK (P Q G:Int)(Y:Option Addr)(ys:List Int)(yn yc:Nat)(B:Option Addr)(rows:List Row)(bn bc:Nat)(HG:Hid (a_ P Q G=true))(h1:1≤yn)(h2:yn≤8)(h3:bn≠yn)(hyn:Hid (ys.length=yn))(hbn:Hid (rows.length=bn))(hQ:Q<9223372036854775808)(w:World)(hY:Hid (Sl w Y ys))(hB:Hid (Rw w B rows)) :
  Calls Tryz.prog 225 #[gv P Q G,iY Y yn yc B bn bc] w (Rt w (.bool false)):=by
 obtain⟨w0,hW⟩:∃W,(w.alloc (bg P Q G)).alloc (lK Y yn yc B bn bc)=W:=⟨_,rfl⟩;have ai:Hid (Below w.heap.size w w0):=aa (by rw[←hW];exact aO (Below.refl _ _));have HX0:Hid (qz w0 w.heap.size P Q G):=aa (by rw[←hW];exact(bD w P Q G).below (af _ _));have fH:Hid (rX w0 (w.heap.size+1) (.slice Y yn yc) (.slice B bn bc)):=aa (by rw[←hW];exact ek _ _ _ _ _);have zL:Hid (Sl w0 Y ys):=aa (hY.out.below ai.out);have qU:Hid (Rw w0 B rows):=aa (hB.out.below ai.out);have HW:=aa hW;clear hW hY hB;have d1:decide ((yn:Int)<1)=false:=by simp;omega
 have d2:decide ((8:Int)<(yn:Int))=false:=by simp;omega
 have d3:((bn:Int) != (yn:Int))=true:=by simp;omega
 go_in
 go_wp2_with fail
 rw[HW.out]
 go_wp2_with fail
 refine(di P Q G true HG hQ _).mono ?_;rintro e w1 ⟨rfl,hb0⟩;have hb1:=ag (ai.out) hb0;have tq:=aa (HX0.out.below hb0);have HR1:=aa (fH.out.below hb0);have zK:=aa (zL.out.below hb0);have qy:=aa (qU.out.below hb0);clear hb0;obtain⟨c0,c1,c2⟩:=tq.out;obtain⟨d0,d1⟩:=HR1.out;go_wp2;go_ret;exact⟨rfl,hb1⟩
theorem VJ (P Q G:Int)(Y:Option Addr)(ys:List Int)(yc:Nat)(B:Option Addr)(rows:List Row)(bn bc:Nat)(n0:Nat)(hN:Hid (iG rows=n0))(HG:Hid (a_ P Q G=true))(h1:1≤bn)(h2:bn≤8)(h4:n0<1)(hyn:Hid (ys.length=bn))(hbn:Hid (rows.length=bn))(hQ:Q<9223372036854775808)(w:World)(hY:Hid (Sl w Y ys))(hB:Hid (Rw w B rows)) :
  Calls Tryz.prog 225 #[gv P Q G,iY Y bn yc B bn bc] w (Rt w (.bool false)):=by
 obtain⟨w0,hW⟩:∃W,(w.alloc (bg P Q G)).alloc (lK Y bn yc B bn bc)=W:=⟨_,rfl⟩;have ai:Hid (Below w.heap.size w w0):=aa (by rw[←hW];exact aO (Below.refl _ _));have HX0:Hid (qz w0 w.heap.size P Q G):=aa (by rw[←hW];exact(bD w P Q G).below (af _ _));have fH:Hid (rX w0 (w.heap.size+1) (.slice Y bn yc) (.slice B bn bc)):=aa (by rw[←hW];exact ek _ _ _ _ _);have zL:Hid (Sl w0 Y ys):=aa (hY.out.below ai.out);have qU:Hid (Rw w0 B rows):=aa (hB.out.below ai.out);have HW:=aa hW;clear hW hY hB;have d1:decide ((bn:Int)<1)=false:=by simp;omega
 have d2:decide ((8:Int)<(bn:Int))=false:=by simp;omega
 have d4:decide ((n0:Int)<1)=true:=by simp;omega
 go_in
 go_wp2_with fail
 rw[HW.out]
 go_wp2_with fail
 refine(di P Q G true HG hQ _).mono ?_;rintro e w1 ⟨rfl,hb0⟩;have hb1:=ag (ai.out) hb0;have tq:=aa (HX0.out.below hb0);have HR1:=aa (fH.out.below hb0);have zK:=aa (zL.out.below hb0);have qy:=aa (qU.out.below hb0);clear hb0;obtain⟨c0,c1,c2⟩:=tq.out;obtain⟨d0,d1⟩:=HR1.out
 go_wp2_with fail
 refine(iB Y bn yc B rows bn bc n0 hbn (by omega) hN _ qy).mono ?_;rintro e w2 ⟨rfl,hb0⟩;have hb2:=ag hb1 hb0;have Cn:=aa (tq.out.below hb0);have HR2:=aa (HR1.out.below hb0);have QA:=aa (zK.out.below hb0);have ES:=aa (qy.out.below hb0);clear c0 c1 c2 d0 d1 hb0;obtain⟨c0,c1,c2⟩:=Cn.out;obtain⟨d0,d1⟩:=HR2.out;go_wp2;go_ret;exact⟨rfl,hb2⟩
theorem VI (P Q G:Int)(Y:Option Addr)(ys:List Int)(yc:Nat)(B:Option Addr)(rows:List Row)(bn bc:Nat)(n0:Nat)(hN:Hid (iG rows=n0))(HG:Hid (a_ P Q G=true))(h1:1≤bn)(h2:bn≤8)(h4:1≤n0)(h5:12<n0)(hyn:Hid (ys.length=bn))(hbn:Hid (rows.length=bn))(hQ:Q<9223372036854775808)(w:World)(hY:Hid (Sl w Y ys))(hB:Hid (Rw w B rows)) :
  Calls Tryz.prog 225 #[gv P Q G,iY Y bn yc B bn bc] w (Rt w (.bool false)):=by
 obtain⟨w0,hW⟩:∃W,(w.alloc (bg P Q G)).alloc (lK Y bn yc B bn bc)=W:=⟨_,rfl⟩;have ai:Hid (Below w.heap.size w w0):=aa (by rw[←hW];exact aO (Below.refl _ _));have HX0:Hid (qz w0 w.heap.size P Q G):=aa (by rw[←hW];exact(bD w P Q G).below (af _ _));have fH:Hid (rX w0 (w.heap.size+1) (.slice Y bn yc) (.slice B bn bc)):=aa (by rw[←hW];exact ek _ _ _ _ _);have zL:Hid (Sl w0 Y ys):=aa (hY.out.below ai.out);have qU:Hid (Rw w0 B rows):=aa (hB.out.below ai.out);have HW:=aa hW;clear hW hY hB;have d1:decide ((bn:Int)<1)=false:=by simp;omega
 have d2:decide ((8:Int)<(bn:Int))=false:=by simp;omega
 have d4:decide ((n0:Int)<1)=false:=by simp;omega
 have d5:decide ((12:Int)<(n0:Int))=true:=by simp;omega
 go_in
 go_wp2_with fail
 rw[HW.out]
 go_wp2_with fail
 refine(di P Q G true HG hQ _).mono ?_;rintro e w1 ⟨rfl,hb0⟩;have hb1:=ag (ai.out) hb0;have tq:=aa (HX0.out.below hb0);have HR1:=aa (fH.out.below hb0);have zK:=aa (zL.out.below hb0);have qy:=aa (qU.out.below hb0);clear hb0;obtain⟨c0,c1,c2⟩:=tq.out;obtain⟨d0,d1⟩:=HR1.out
 go_wp2_with fail
 refine(iB Y bn yc B rows bn bc n0 hbn (by omega) hN _ qy).mono ?_;rintro e w2 ⟨rfl,hb0⟩;have hb2:=ag hb1 hb0;have Cn:=aa (tq.out.below hb0);have HR2:=aa (HR1.out.below hb0);have QA:=aa (zK.out.below hb0);have ES:=aa (qy.out.below hb0);clear c0 c1 c2 d0 d1 hb0;obtain⟨c0,c1,c2⟩:=Cn.out;obtain⟨d0,d1⟩:=HR2.out;go_wp2;go_ret;exact⟨rfl,hb2⟩
theorem jK (P Q G:Int)(Y:Option Addr)(ys:List Int)(yn yc:Nat)(B:Option Addr)(rows:List Row)(bn bc:Nat)(r:Bool)(hr:Hid (fM P Q G ys rows=r))(hyn:Hid (ys.length=yn))(hbn:Hid (rows.length=bn))(hQ:Q<9223372036854775808)(w:World)(hY:Hid (Sl w Y ys))(hB:Hid (Rw w B rows)) :
  Calls Tryz.prog 225 #[gv P Q G,iY Y yn yc B bn bc] w (Rt w (.bool r)):=by
 have hr':=hr.out;rw[fM,hyn.out,hbn.out]at hr'
 cases hg:a_ P Q G with
 | false=>
  obtain rfl:r=false:=by rw[←hr',hg,Bool.false_and]
  exact VH P Q G Y ys yn yc B rows bn bc (aa hg) hyn hbn hQ w hY hB
 | true=>
  rw[hg,Bool.true_and]at hr'
  by_cases h1:yn<1
  ·
   obtain rfl:r=false:=by rw[←hr',decide_eq_false (show ¬1≤yn by omega)];rfl
   exact VM P Q G Y ys yn yc B rows bn bc (aa hg) h1 hyn hbn hQ w hY hB
  ·
   rw[decide_eq_true (show 1≤yn by omega),Bool.true_and]at hr'
   by_cases h2:8<yn
   ·
    obtain rfl:r=false:=by rw[←hr',decide_eq_false (show ¬yn≤8 by omega)];rfl
    exact VL P Q G Y ys yn yc B rows bn bc (aa hg) (by omega) h2 hyn hbn hQ w hY hB
   ·
    rw[decide_eq_true (show yn≤8 by omega),Bool.true_and]at hr'
    by_cases h3:bn=yn
    ·
     subst h3;rw[decide_eq_true rfl,Bool.true_and]at hr';obtain⟨n0,hn0⟩:∃n,iG rows=n:=⟨_,rfl⟩;rw[hn0]at hr'
     by_cases h4:n0<1
     ·
      obtain rfl:r=false:=by rw[←hr',decide_eq_false (show ¬1≤n0 by omega),Bool.false_and,Bool.and_false]
      exact VJ P Q G Y ys yc B rows bn bc n0 (aa hn0) (aa hg) (by omega) (by omega) h4 hyn hbn hQ w hY hB
     ·
      rw[decide_eq_true (show 1≤n0 by omega),Bool.true_and]at hr'
      by_cases h5:12<n0
      ·
       obtain rfl:r=false:=by rw[←hr',decide_eq_false (show ¬n0≤12 by omega),Bool.false_and,Bool.and_false]
       exact VI P Q G Y ys yc B rows bn bc n0 (aa hn0) (aa hg) (by omega) (by omega) (by omega) h5 hyn hbn hQ w hY hB
      ·
       rw[decide_eq_true (show n0≤12 by omega),Bool.true_and]at hr';exact NJ P Q G Y ys bn yc B rows bc n0 r (aa hg) (aa (by rw[leftV,List.drop_zero,List.drop_zero];exact hr')) (aa hn0) hyn hbn (by omega) (by omega) (by omega) (by omega) hQ w hY hB
    ·
     obtain rfl:r=false:=by rw[←hr',decide_eq_false h3];rfl
     exact VK P Q G Y ys yn yc B rows bn bc (aa hg) (by omega) (by omega) h3 hyn hbn hQ w hY hB
theorem Xt (g n cap:Nat)(zs:List Int)(Y:Option Addr)(ys:List Int)(m yc:Nat)(hn:zs.length=n)(hm:Hid (ys.length=m))(hpos:0<m)(hbig:n<1000)(hbig2:m<1000)(w:World)(h1:Hid (Cells w g zs))(h2:Hid (Sl w Y ys)) :
  Calls Tryz.prog 241 #[.slice (some ⟨g,0,none⟩) n cap, .slice Y m yc] w (Rt w (.bool (zs == ys))):=by
 obtain⟨b,o,rfl,_⟩:=h2.out 0 (by rw[hm.out];exact hpos);have hm':=hm.out;refine(Tryz.slices_Equal_int g 0 n cap b o m yc zs ys w (by omega) (by omega) (by omega) (by omega) (fun j hj=>?_) (fun j hj=>?_)).mono ?_
 · rw[Nat.zero_add];exact h1.out j hj
 ·
  obtain⟨b',o',e1,e2⟩:=h2.out j hj
  cases e1
  exact e2
 ·
  rintro e w' ⟨rfl,q,rfl⟩;refine⟨?_,aI (Below.refl _ _) _⟩;rw[List.take_of_length_le (by omega),List.take_of_length_le (by omega)]
def Ip (zs:List Int)(n:Nat)(w:World)(e:Ending)(w':World):Prop:=∃g cap,e = .returned (.slice (some ⟨g,0,none⟩) n cap)∧Hid (Cells w' g zs)∧Below w.heap.size w w'
theorem EP.cells {zs:List Int} {n:Nat} {w w':World} {e:Ending} (h:EP zs w e w')(hn:zs.length=n)(hpos:0<n):Ip zs n w e w':=by
 obtain⟨v,he,ho,hb⟩:=h;obtain⟨g,cap,rfl,_,hc⟩:=iD.cells ho (by omega);rw[hn]at he;exact⟨g,cap,he,aa hc,hb⟩
theorem iD.rowF {w:World} {B:Nat} {v:Value} {xs:List Int} (h:iD w B v xs)(hne:0<xs.length):∃g cap,v = .slice (some ⟨g,0,none⟩) xs.length cap∧B≤g∧CK w g xs.length (fun j=>xs.getD j 0):=by
 obtain⟨g,cap,hv,hg,hc⟩:=iD.cells h hne;obtain⟨_,h2⟩:=h;rcases h2 with⟨_,h0⟩ | ⟨g',cap',cur,hv',_,hh,_⟩
 · omega
 ·
  rw[hv]at hv'
  cases hv'
  exact⟨g,cap,hv,hg,fun j hj=>hc j hj,fun j=>ay hh j⟩
theorem CK.below {w w':World} {g n:Nat} {f:Nat→Int} (h:CK w g n f)(hn:0<n)(hb:Below w.heap.size w w'):CK w' g n f:=by
 have hg:g<w.heap.size:=World.block_lt_of_cell? _ _ (h.1 0 hn);exact⟨fun j hj=>(hb.cell (p:=⟨g,j,none⟩) hg).trans (h.1 j hj),fun j=>(hb.frozen (p:=⟨g,j,none⟩) hg).trans (h.2 j)⟩
def A_ (P Q c:Int)(ys:List Int)(rows:List Row)(zs:List Int)(i:Nat):Int:=dU P 1 (rows.getD i dI).xs zs*pw (ys.getD i 0) ((Q-c)%Q) P%P
def yB (P Q c:Int)(ys:List Int)(rows:List Row)(zs:List Int):List Int:=(List.range rows.length).map (A_ P Q c ys rows zs)
theorem iO (P Q c:Int)(ys:List Int)(rows:List Row)(zs:List Int):(yB P Q c ys rows zs).length=rows.length:=by simp[yB]
theorem A8 {P Q c:Int} {ys:List Int} {rows:List Row} {zs:List Int} {i:Nat} (h:i<rows.length):(yB P Q c ys rows zs).getD i 0=A_ P Q c ys rows zs i:=by
 rw[List.getD_eq_getElem?_getD,List.getElem?_eq_getElem (by rw[iO];exact h)]
 simp[yB]
theorem OH {f:Row→Int} {rows:List Row} {i:Nat} (h:i<rows.length):(rows.map f).getD i 0=f (rows.getD i dI):=by
 rw[List.getD_eq_getElem?_getD,List.getElem?_eq_getElem (by simpa using h),List.getD_eq_getElem?_getD,List.getElem?_eq_getElem h]
 simp
theorem Gf {P:Int} (hp:2≤P):∀(xs es:List Int) (acc:Int),0≤acc→acc<P→0≤dU P acc xs es∧dU P acc xs es<P
 | [],es,acc,h0,h1=>by cases es <;> exact⟨h0,h1⟩
 | x::xs, [],acc,h0,h1=>⟨h0,h1⟩
 | x::xs,e::es,acc,h0,h1=>by
  rw[dU];exact Gf hp xs es _ (Int.emod_nonneg _ (by omega)) (Int.emod_lt_of_pos _ (by omega))
theorem Sz (P Q G:Int)(Y:Option Addr)(ys:List Int)(yc:Nat)(B:Option Addr)(rows:List Row)(n bc:Nat)(c:Int)(L:Option Addr)(zs:List Int)(ln lc:Nat)(mR:Hid (fM P Q G ys rows=true))(hyn:Hid (ys.length=n))(hbn:Hid (rows.length=n))(hln:Hid (zs.length=ln))(hlen:zs.length=iG rows)
  (Hl:Hid (zs.all (jc Q)=true)) (hc0:0≤c) (hc1:c<Q) (hQ:Q<9223372036854775808) (w:World) (hY:Hid (Sl w Y ys)) (hB:Hid (Rw w B rows)) (hL:Hid (Sl w L zs)) :
  Calls Tryz.prog 242 #[gv P Q G,iY Y n yc B n bc, .int .i64 c, .slice L ln lc] w (Ip (yB P Q c ys rows zs) n w):=by
 obtain⟨v1,v2,v3,v4,v5,v6,v7,v8⟩:=bY mR.out;obtain⟨hp2,hp,hq3,Dl⟩:=bW v1;rw[←hlen,hln.out]at v8;have Fq:=aa v8;have hnp:0<n:=by rw[←hyn.out];omega
 have hn8:n≤8:=by rw[←hyn.out];omega
 have agy:ln≤12:=by rw[←hln.out];omega
 have HYM:=aa v5;have hzl:(rows.map fun r=>dU P 1 r.xs zs).length=n:=by rw[List.length_map];exact hbn.out
 clear v1 v2 v3 v4 v5 v6 v7 v8;obtain⟨b1,o1,rfl,_⟩:=hY.out 0 (by rw[hyn.out];exact hnp);obtain⟨w0,hW⟩:∃W,(w.alloc (bg P Q G)).alloc (lK (some ⟨b1,o1,none⟩) n yc B n bc)=W:=⟨_,rfl⟩;have ai:Hid (Below w.heap.size w w0):=aa (by rw[←hW];exact aO (Below.refl _ _));have HX0:Hid (qz w0 w.heap.size P Q G):=aa (by rw[←hW];exact(bD w P Q G).below (af _ _));have fH:Hid (rX w0 (w.heap.size+1) (.slice (some ⟨b1,o1,none⟩) n yc) (.slice B n bc)):=aa (by rw[←hW];exact ek _ _ _ _ _);have zL:=aa (hY.out.below ai.out);have Ay:=aa (hB.out.below ai.out);have IG:=aa (hL.out.below ai.out);have HW:=aa hW;clear hW hY hB hL;obtain⟨d0,d1⟩:=fH.out;obtain⟨c0,c1,c2⟩:=HX0.out;go_in
 go_wp2_with fail
 rw[HW.out];refine(Cy P Q G B rows n bc L zs ln lc hbn hln (by omega) (by omega) Fq Hl hp2 hp hQ _ Ay IG).mono ?_;rintro e W ⟨v,rfl,ho,hb0⟩;obtain⟨g,cap,rfl,hg,hrf⟩:=ho.rowF (by rw[hzl];exact hnp);rw[hzl]at hrf;have hvl:(Value.slice (some ⟨g,0,none⟩) ((rows.map fun r=>dU P 1 r.xs zs).length) cap) = .slice (some ⟨g,0,none⟩) n cap:=by rw[hzl]
 rw[hvl];have TW:=aa (HX0.out.below hb0);have HRW:=aa (fH.out.below hb0);have HYW:=aa (zL.out.below hb0);have u_:=aa (ag ai.out hb0);have hgw:w.heap.size+1<g:=by have h1:w.heap.size+1<w0.heap.size:=World.block_lt_of_cell? _ _ fH.out.1;omega
 have hyg:b1<g:=by
  obtain⟨bb,oo,e1,e2⟩:=zL.out 0 (by rw[hyn.out];exact hnp)
  cases e1
  have h1:b1<w0.heap.size:=World.block_lt_of_cell? _ _ e2
  omega
 have jU:Hid (CK W g n (fun j=>if j<0 then A_ P Q c ys rows zs j else dU P 1 (rows.getD j dI).xs zs)):=aa ⟨fun j hj=>by
  have h1:=hrf.1 j hj
  dsimp only at h1
  rw[OH (by rw[hbn.out];exact hj)]at h1
  dsimp only
  rw[if_neg (by omega)]
  exact h1,hrf.2⟩
 have HG_:=aa (Nat.le_trans ai.out.size hg);clear ho hb0 hrf hvl hg c0 c1 c2 d0 d1;obtain⟨d0,d1⟩:=HRW.out;go_wp2
 go_loopw [22] (fun i wr=>∃k:Nat,k≤n∧i = .int .i64 k∧Hid (CK wr g n (fun j=>if j<k then A_ P Q c ys rows zs j else dU P 1 (rows.getD j dI).xs zs))∧Hid (Below g W wr)) (fun i _=>n-(intOf i).toNat)
 case atStart=>exact⟨0,by omega,rfl,jU,aa (Below.refl _ _)⟩
 case round=>
  obtain⟨k,hk,rfl,Yf,aD⟩:=hrel
  by_cases hlt:k<n
  ·
   have hkl:k<ys.length:=by rw[hyn.out];exact hlt
   have hkr:k<rows.length:=by rw[hbn.out];exact hlt
   obtain⟨bb,oo,e1,hi0⟩:=HYW.out k hkl
   cases e1
   have hi1:=(aD.out.cell (p:=⟨b1,o1+k,none⟩) hyg).trans hi0;have c0:=(aD.out.cell (p:=⟨w.heap.size,0,none⟩) (by show w.heap.size<g;omega)).trans TW.out.1;have c1:=(aD.out.cell (p:=⟨w.heap.size,1,none⟩) (by show w.heap.size<g;omega)).trans TW.out.2.1
   have hcell:wr.cell? ⟨g,k,none⟩=some (.int .i64 (dU P 1 (rows.getD k dI).xs zs)):=by
    have h3:=Yf.out.1 k hlt
    simp only[Nat.lt_irrefl,if_false]at h3
    exact h3
   have hfz:=Yf.out.2 k;have Jr:=ji HYM.out hkl;obtain⟨q0,q1⟩:=Gf hp2 (rows.getD k dI).xs zs 1 (by omega) (by omega);have UL:A_ P Q c ys rows zs k=dU P 1 (rows.getD k dI).xs zs*pw (ys.getD k 0) ((Q-c)%Q) P%P:=rfl;obtain⟨a,ha⟩:∃a,dU P 1 (rows.getD k dI).xs zs=a:=⟨_,rfl⟩;obtain⟨y,hy⟩:∃x,ys.getD k 0=x:=⟨_,rfl⟩;rw[ha]at hcell q0 q1 UL;rw[hy]at hi1 Jr UL;have y0:=gD Jr;have y1:=gF Jr;obtain⟨ex,hex⟩:∃e,(Q-c)%Q=e:=⟨_,rfl⟩;have ex0:0≤ex:=by rw[←hex];exact Int.emod_nonneg _ (by omega)
   have ex1:ex<Q:=by rw[←hex];exact Int.emod_lt_of_pos _ (by omega)
   rw[hex]at UL;obtain⟨p,hpw⟩:∃p,pw y ex P=p:=⟨_,rfl⟩;obtain⟨p0,p1⟩:0≤p∧p<P:=by rw[←hpw];exact zg _ _ _ (by omega)
   rw[hpw]at UL;obtain⟨t,ht⟩:∃t,a*p%P=t:=⟨_,rfl⟩;rw[ht]at UL
   have HN:∀q,Hid (CK ((wr.drewN q).setCell ⟨g,k,none⟩ (.int .i64 t)) g n (fun j=>if j<k+1 then A_ P Q c ys rows zs j else dU P 1 (rows.getD j dI).xs zs)):=fun q=>by
    have h3:=N_ (CK.below Yf.out hnp (aI (Below.refl _ _) q)) hlt t
    have e:(fun j=>if j=k then t else if j<k then A_ P Q c ys rows zs j else dU P 1 (rows.getD j dI).xs zs)=(fun j=>if j<k+1 then A_ P Q c ys rows zs j else dU P 1 (rows.getD j dI).xs zs):=by
     funext j
     by_cases hj:j=k
     · subst hj;rw[if_pos rfl,if_pos (by omega),UL]
     ·
      rw[if_neg hj]
      by_cases hj2:j<k
      · rw[if_pos hj2,if_pos (by omega)]
      · rw[if_neg hj2,if_neg (by omega)]
    rw[e]at h3;exact aa h3
   have HNH:=aa HN;have HB2:=aa (show ∀q,Hid (Below g W ((wr.drewN q).setCell ⟨g,k,none⟩ (.int .i64 t)))from fun q=>aa ((aI aD.out q).setCell (Nat.le_refl _) _));have hdf:IntKind.i64.wrap (Q-c)=Q-c:=IntWalk.i64_in _ (by omega);have htm:(Q-c).tmod Q=ex:=by rw[Int.tmod_eq_emod_of_nonneg (by omega),hex]
   have hwx:IntKind.i64.wrap ex=ex:=IntWalk.i64_in _ (by omega);have hQn:¬(Q=0):=by omega
   have Yj:=aa hpw;have HAC:=aa ht;have HSF:=aa UL;clear hkl hkr hi0 Jr UL ha hy hex hpw ht HN;go_wp2
   go_quiet ((go_at_call 105;exact Calls.quiet_of (pow_eq y ex P p Yj (by omega) hp (by omega) y1 ex0 (by omega) _)))
   go_wp2_with fail
   go_region_with ((go_at_call 35;refine(zU a p P t HAC hp q0 q1 p0 p1 _).mono ?_;rintro e w' ⟨rfl,n3,rfl⟩))
   all_goals
    go_wp2
    go_roundw
    case rel=>exact⟨k+1,by omega,by go_num,HNH.out _,HB2.out _⟩
    case measure=>simp[intOf];omega
  ·
   obtain rfl:k=n:=by omega
   have HF:Hid (Cells wr g (yB P Q c ys rows zs)):=aa (fun j hj=>by
    rw[iO,hbn.out]at hj;rw[A8 (by rw[hbn.out];exact hj),Yf.out.1 j hj]
    dsimp only
    rw[if_pos hj])
   have bT:Below w.heap.size w wr:=u_.out.trans (aD.out.mono HG_.out);clear Yf hlt;go_wp2;go_ret;exact⟨g,cap,rfl,HF,bT⟩
abbrev jL (pa:Option Addr)(na ca:Nat)(C:Int)(pz:Option Addr)(nz cz:Nat):Value:= .agg #[.slice pa na ca, .int .i64 C, .slice pz nz cz]
abbrev fU (pa:Option Addr)(na ca:Nat)(C:Int)(pz:Option Addr)(nz cz:Nat):Obj:= .cells #[.slice pa na ca, .int .i64 C, .slice pz nz cz] 54
def DK (w:World)(a:Nat)(x y z:Value):Prop:=w.cell? ⟨a,0,none⟩=some x∧w.cell? ⟨a,1,none⟩=some y∧w.cell? ⟨a,2,none⟩=some z
theorem DK.below {w w':World} {a:Nat} {x y z:Value} (h:DK w a x y z)(hb:Below w.heap.size w w'):DK w' a x y z:=
 ⟨cell_below h.1 hb,cell_below h.2.1 hb,cell_below h.2.2 hb⟩
theorem Ee (w:World)(T:TypeId)(x y z:Value):DK (w.alloc (.cells #[x,y,z] T)) w.heap.size x y z:=⟨World.cell?_alloc_at _ _ _ _ rfl,World.cell?_alloc_at _ _ _ _ rfl,World.cell?_alloc_at _ _ _ _ rfl⟩
theorem XG (w:World)(o1 o2:Obj)(T:TypeId)(x y z:Value):DK (((w.alloc o1).alloc o2).alloc (.cells #[x,y,z] T)) (w.heap.size+2) x y z:=by
 have e:((w.alloc o1).alloc o2).heap.size=w.heap.size+2:=by simp
 rw[←e];exact Ee _ _ _ _ _
theorem EJ {w:World} {o1 o2 o3:Obj} :Below w.heap.size w (((w.alloc o1).alloc o2).alloc o3):=
 (((Below.refl _ _).alloc (Nat.le_refl _) _).alloc (by simp) _).alloc (by simp;omega) _
theorem Jj (P Q G:Int)(Y:Option Addr)(ys:List Int)(n yc:Nat)(B:Option Addr)(rows:List Row)(bc:Nat)(A:Option Addr)(al:List Int)(ca:Nat)(C:Int)(Z:Option Addr)(zs:List Int)(nz cz:Nat)
  (mR:Hid (fM P Q G ys rows=true)) (hyn:Hid (ys.length=n)) (hbn:Hid (rows.length=n)) (gy:Hid (al.length=n)) (hzn:Hid (zs.length=nz)) (hlen:zs.length=iG rows) (Hl:Hid (zs.all (jc Q)=true)) (hc0:0≤C) (hc1:C<Q) (r:Bool) (hr:Hid ((yB P Q C ys rows zs == al)=r))
  (hQ:Q<9223372036854775808) (w:World) (hv:Hid (Vars w)) (hY:Hid (Sl w Y ys)) (hB:Hid (Rw w B rows)) (hA:Hid (Sl w A al)) (hZ:Hid (Sl w Z zs)) :
  Calls Tryz.prog 222 #[gv P Q G,iY Y n yc B n bc,jL A n ca C Z nz cz] w (Rt w (.bool r)):=by
 obtain⟨v1,v2,v3,v4,v5,v6,v7,v8⟩:=bY mR.out;have hnp:0<n:=by rw[←hyn.out];omega
 have hn8:n≤8:=by rw[←hyn.out];omega
 have ah4:nz≤12:=by rw[←hzn.out];omega
 have HN:Hid (iG rows=nz):=aa (hlen.symm.trans hzn.out);have hnn:((n:Int) != (n:Int))=false:=by simp
 have hzz:((nz:Int) != (nz:Int))=false:=by simp
 have Uc:=aa (Ko hc0 hc1);have hsl:(yB P Q C ys rows zs).length=n:=by rw[iO];exact hbn.out
 clear v1 v2 v3 v4 v5 v6 v7 v8;obtain⟨W,hW⟩:∃W,((w.alloc (bg P Q G)).alloc (lK Y n yc B n bc)).alloc (fU A n ca C Z nz cz)=W:=⟨_,rfl⟩;have ai:Hid (Below w.heap.size w W):=aa (by rw[←hW];exact EJ);have HX0:Hid (qz W w.heap.size P Q G):=aa (by rw[←hW];exact((bD w P Q G).below (af _ _)).below (af _ _));have fH:Hid (rX W (w.heap.size+1) (.slice Y n yc) (.slice B n bc)):=aa (by rw[←hW];exact(ek _ _ _ _ _).below (af _ _));have HP0:Hid (DK W (w.heap.size+2) (.slice A n ca) (.int .i64 C) (.slice Z nz cz)):=aa (by rw[←hW];exact XG w _ _ _ _ _ _);have hOV:=aa (show ∀u1:World,Hid (Below W.heap.size W u1)→Hid (Vars u1)from fun u1 h1=>aa (hv.out.below (ag ai.out h1.out)));have hOY:=aa (show ∀u1:World,Hid (Below W.heap.size W u1)→Hid (Sl u1 Y ys)from fun u1 h1=>aa (hY.out.below (ag ai.out h1.out)));have Y4:=aa (show ∀u1:World,Hid (Below W.heap.size W u1)→Hid (Rw u1 B rows)from fun u1 h1=>aa (hB.out.below (ag ai.out h1.out)));have hOA:=aa (show ∀u1:World,Hid (Below W.heap.size W u1)→Hid (Sl u1 A al)from fun u1 h1=>aa (hA.out.below (ag ai.out h1.out)));have hOZ:=aa (show ∀u1:World,Hid (Below W.heap.size W u1)→Hid (Sl u1 Z zs)from fun u1 h1=>aa (hZ.out.below (ag ai.out h1.out)));have hS:=aa (show ∀u1 u2:World,Hid (Below W.heap.size W u1)→Below u1.heap.size u1 u2→(u2.cell? ⟨w.heap.size,0,none⟩=some (.int .i64 P)∧u2.cell? ⟨w.heap.size,1,none⟩=some (.int .i64 Q)∧u2.cell? ⟨w.heap.size,2,none⟩=some (.int .i64 G)∧u2.cell? ⟨w.heap.size+1,0,none⟩=some (.slice Y n yc)∧u2.cell? ⟨w.heap.size+1,1,none⟩=some (.slice B n bc)∧u2.cell? ⟨w.heap.size+2,0,none⟩=some (.slice A n ca)∧u2.cell? ⟨w.heap.size+2,1,none⟩=some (.int .i64 C)∧u2.cell? ⟨w.heap.size+2,2,none⟩=some (.slice Z nz cz)∧Hid (Below W.heap.size W u2))from fun u1 u2 h1 h2=>have h3:=ag h1.out h2;⟨(HX0.out.below h3).1,(HX0.out.below h3).2.1,(HX0.out.below h3).2.2,(fH.out.below h3).1,(fH.out.below h3).2,(HP0.out.below h3).1,(HP0.out.below h3).2.1,(HP0.out.below h3).2.2,aa h3⟩);have hR:Hid (Below W.heap.size W W):=aa (Below.refl _ _);have HW:=aa hW
 clear hW hv hY hB hA hZ;go_in
 go_wp2_with fail
 rw[HW.out]
 go_region_held3 (fun w'=>w'.cell? ⟨w.heap.size,0,none⟩=some (.int .i64 P)∧w'.cell? ⟨w.heap.size,1,none⟩=some (.int .i64 Q)∧w'.cell? ⟨w.heap.size,2,none⟩=some (.int .i64 G)∧w'.cell? ⟨w.heap.size+1,0,none⟩=some (.slice Y n yc)∧w'.cell? ⟨w.heap.size+1,1,none⟩=some (.slice B n bc)∧w'.cell? ⟨w.heap.size+2,0,none⟩=some (.slice A n ca)∧w'.cell? ⟨w.heap.size+2,1,none⟩=some (.int .i64 C)∧w'.cell? ⟨w.heap.size+2,2,none⟩=some (.slice Z nz cz)∧Hid (Below W.heap.size W w'))
  (first | exact hS.out _ _ hR ((Below.refl W.heap.size W).drew) | (go_split_ands;exact hS.out _ _ (by assumption) bN) | (go_split_ands;exact hS.out _ _ (by assumption) (af _ _)) | go_keep)
  ((first
   | (go_at_call 238;(with_reducible refine(mF P Q G Y ys n yc B rows n bc true mR hyn hbn hQ _ ?_ ?_ ?_).mono ?_);(go_split_ands;exact hOV.out _ (by assumption));(go_split_ands;exact hOY.out _ (by assumption));(go_split_ands;exact Y4.out _ (by assumption));rintro e wA ⟨rfl,bN⟩)
   | (go_at_call 239;(with_reducible refine(mO Y n yc B rows n bc nz hbn hnp HN _ ?_).mono ?_);(go_split_ands;exact Y4.out _ (by assumption));rintro e wA ⟨rfl,bN⟩)
   | (go_at_call 240;(with_reducible refine(mX P Q G Z zs nz cz true Hl hzn (aa (by omega)) _ ?_).mono ?_);(go_split_ands;exact hOZ.out _ (by assumption));rintro e wA ⟨rfl,bN⟩)
   | (go_at_call 240;(with_reducible refine(mX P Q G (some ⟨wA.heap.size,0,none⟩) [C] 1 1 true Uc (aa rfl) (aa (by omega)) _ ?_).mono ?_);exact aa (iN (v_ wA _ C));rintro e wA ⟨rfl,bN⟩)))
 rename_i hHeld
 obtain⟨x0,x1,x2,x3,x4,x5,x6,x7,pX⟩:=hHeld;clear x0 x1 x2 x3 x4 x5 x6 x7;obtain⟨W2,hW2⟩:∃x,x=wA:=⟨_,rfl⟩;go_wp2
 go_region_held3 (fun w'=>w'.cell? ⟨w.heap.size,0,none⟩=some (.int .i64 P)∧w'.cell? ⟨w.heap.size,1,none⟩=some (.int .i64 Q)∧w'.cell? ⟨w.heap.size,2,none⟩=some (.int .i64 G)∧w'.cell? ⟨w.heap.size+1,0,none⟩=some (.slice Y n yc)∧w'.cell? ⟨w.heap.size+1,1,none⟩=some (.slice B n bc)∧w'.cell? ⟨w.heap.size+2,0,none⟩=some (.slice A n ca)∧w'.cell? ⟨w.heap.size+2,1,none⟩=some (.int .i64 C)∧w'.cell? ⟨w.heap.size+2,2,none⟩=some (.slice Z nz cz)∧Hid (Below W.heap.size W w'))
  (first | exact hS.out _ _ pX ((Below.refl _ _).drew) | (go_split_ands;exact hS.out _ _ (by assumption) bN) | go_keep)
  ((first
   | (go_at_call 242;(with_reducible refine(Sz P Q G Y ys yc B rows n bc C Z zs nz cz mR hyn hbn hzn hlen Hl hc0 hc1 hQ _ ?_ ?_ ?_).mono ?_);(go_split_ands;exact hOY.out _ (by assumption));(go_split_ands;exact Y4.out _ (by assumption));(go_split_ands;exact hOZ.out _ (by assumption));rintro e wA ⟨g,cap,rfl,hcA,bN⟩)
   | (go_at_call 241;(with_reducible refine(Xt g n cap (yB P Q C ys rows zs) A al n ca hsl gy hnp (by omega) (by omega) _ hcA ?_).mono ?_);(go_split_ands;exact hOA.out _ (by assumption));rintro e wA ⟨rfl,bN⟩)))
 rename_i hHeld
 obtain⟨x0,x1,x2,x3,x4,x5,x6,x7,gU⟩:=hHeld;have bT:=ag ai.out gU.out;clear x0 x1 x2 x3 x4 x5 x6 x7;go_wp2;go_ret;exact⟨by first | (rw[hr.out];done) | (rw[hr.out];rfl) | (rw[hr.out];simp) | (simp[hr.out];done),bT⟩
def aa1 (s:Nat):List Row:= [⟨some ⟨s+1+1,0,none⟩,1,1, [2]⟩,⟨some ⟨s+1+1+1,0,none⟩,1,1, [4]⟩]
def YU (w:World)(s:Nat):Prop:=qz w s 23 11 4∧Sl w (some ⟨s+1,0,none⟩) [8,18]∧Rw w (some ⟨s+1+1+1+1,0,none⟩) (aa1 s)∧rX w (s+1+1+1+1+1) (.slice (some ⟨s+1,0,none⟩) 2 2) (.slice (some ⟨s+1+1+1+1,0,none⟩) 2 2)
theorem YU.below {w w':World} {s:Nat} (h:YU w s)(hb:Below w.heap.size w w'):YU w' s:=⟨h.1.below hb,h.2.1.below hb,h.2.2.1.below hb,h.2.2.2.below hb⟩
theorem Sl.set {w:World} {A:Option Addr} {xs:List Int} {a:Nat} {j:Nat} {v:Value} (h:Sl w A xs)(hne:∀b o,A=some ⟨b,o,none⟩→0<xs.length→b≠a):Sl (w.setCell ⟨a,j,none⟩ v) A xs:=fun k hk=>by
 obtain⟨b,o,e,hc⟩:=h k hk;refine⟨b,o,e, ?_⟩;have:=hne b o e (by omega);rw[World.cell?_setCell_far _ _ _ _ (fun e=>this e.symm)];exact hc
theorem Ml (P Q G:Int)(Y:Option Addr)(ys:List Int)(n yc:Nat)(B:Option Addr)(rows:List Row)(bc:Nat)(A:Option Addr)(al:List Int)(na ca:Nat)(C:Int)(Z:Option Addr)(zs:List Int)(nz cz:Nat)(mR:Hid (fM P Q G ys rows=true))(hyn:Hid (ys.length=n))(hbn:Hid (rows.length=n))(gy:Hid (al.length=na))(hzn:Hid (zs.length=nz))(hna:na<1000000)(hnz:nz<1000000)(hQ:Q<9223372036854775808)(hne:na≠n)(w:World)(hv:Hid (Vars w))(hY:Hid (Sl w Y ys))(hB:Hid (Rw w B rows))(hA:Hid (Sl w A al))(hZ:Hid (Sl w Z zs)) :
  Calls Tryz.prog 222 #[gv P Q G,iY Y n yc B n bc,jL A na ca C Z nz cz] w (Rt w (.bool false)):=by
 obtain⟨v1,v2,v3,v4,v5,v6,v7,v8⟩:=bY mR.out;have hnp:0<n:=by rw[←hyn.out];omega
 obtain⟨nu,hnu⟩:∃k,iG rows=k:=⟨_,rfl⟩;have HN:=aa hnu;clear v1 v2 v3 v4 v5 v6 v7 v8 hnu;have e1:((na:Int) != (n:Int))=true:=by simp;omega
 obtain⟨w0,HW,ai,kC⟩:=qD (bg P Q G) fq (lK Y n yc B n bc) sG (fU A na ca C Z nz cz) rV w;have kV:=mkV ai hv;have kY:=mkS ai hY;have kB:=fo (fun u=>Rw u B rows) ai hB (·.below);have kA:=mkS ai hA;have kZ:=mkS ai hZ;have ah:=bI w0;clear hv hY hB hA hZ;go_in
 go_wp2_with fail
 rw[HW.out];have hO:=kC;refine jq [] ah (fun hHeld=>?_);refine aL 0 ?_;refine aL 1 ?_;refine dh 2 fun K hK=>?_;go_simp
 (with_reducible refine(mF P Q G Y ys n yc B rows n bc true mR hyn hbn hQ _ ?_ ?_ ?_).mono ?_);(go_split_ands;exact kV.out _ (by assumption));(go_split_ands;exact kY.out _ (by assumption));(go_split_ands;exact kB.out _ (by assumption));rintro e wA ⟨rfl,bN⟩
 refine hK.out _ _ (bJ hHeld bN) (fun hHeld=>?_);clear hK K
 try simp only[qq]
 refine aP 3 4 5 6 ?_;refine aP 7 8 9 10 ?_;refine aL 11 ?_;refine aL 12 ?_;refine aL 13 ?_;refine eO 14 15 16 17 ?_;refine lC 18 ?_;refine lC 19 ?_;refine aL 20 ?_;refine aL 21 ?_;refine eO 22 23 24 25 ?_;refine lC 26 ?_;refine lC 27 ?_;refine aL 28 ?_;refine aL 29 ?_;refine eO 30 31 32 33 ?_;refine lC 34 ?_;refine aL 35 ?_;refine gM ?_;have gU:=hHeld;have bT:=ag ai.out gU.out;go_wp2;go_ret;exact⟨rfl,bT⟩
theorem Mk (P Q G:Int)(Y:Option Addr)(ys:List Int)(n yc:Nat)(B:Option Addr)(rows:List Row)(bc:Nat)(A:Option Addr)(al:List Int)(na ca:Nat)(C:Int)(Z:Option Addr)(zs:List Int)(nz cz:Nat)(mR:Hid (fM P Q G ys rows=true))(hyn:Hid (ys.length=n))(hbn:Hid (rows.length=n))(gy:Hid (al.length=na))(hzn:Hid (zs.length=nz))(hna:na<1000000)(hnz:nz<1000000)(hQ:Q<9223372036854775808)(heq:na=n)(hne:nz≠iG rows)(w:World)(hv:Hid (Vars w))(hY:Hid (Sl w Y ys))(hB:Hid (Rw w B rows))(hA:Hid (Sl w A al))(hZ:Hid (Sl w Z zs)) :
  Calls Tryz.prog 222 #[gv P Q G,iY Y n yc B n bc,jL A na ca C Z nz cz] w (Rt w (.bool false)):=by
 obtain⟨v1,v2,v3,v4,v5,v6,v7,v8⟩:=bY mR.out;have hnp:0<n:=by rw[←hyn.out];omega
 obtain⟨nu,hnu⟩:∃k,iG rows=k:=⟨_,rfl⟩;have HN:=aa hnu;clear v1 v2 v3 v4 v5 v6 v7 v8 hnu;have e1:((na:Int) != (n:Int))=false:=by simp;omega
 have e2:((nz:Int) != (nu:Int))=true:=by have:=HN.out;simp;omega
 clear heq hne;obtain⟨w0,HW,ai,kC⟩:=qD (bg P Q G) fq (lK Y n yc B n bc) sG (fU A na ca C Z nz cz) rV w;have kV:=mkV ai hv;have kY:=mkS ai hY;have kB:=fo (fun u=>Rw u B rows) ai hB (·.below);have kA:=mkS ai hA;have kZ:=mkS ai hZ;have ah:=bI w0;clear hv hY hB hA hZ;go_in
 go_wp2_with fail
 rw[HW.out];have hO:=kC;refine jq [] ah (fun hHeld=>?_);refine aL 0 ?_;refine aL 1 ?_;refine dh 2 fun K hK=>?_;go_simp
 (with_reducible refine(mF P Q G Y ys n yc B rows n bc true mR hyn hbn hQ _ ?_ ?_ ?_).mono ?_);(go_split_ands;exact kV.out _ (by assumption));(go_split_ands;exact kY.out _ (by assumption));(go_split_ands;exact kB.out _ (by assumption));rintro e wA ⟨rfl,bN⟩
 refine hK.out _ _ (bJ hHeld bN) (fun hHeld=>?_);clear hK K
 try simp only[qq]
 refine aP 3 4 5 6 ?_;refine aP 7 8 9 10 ?_;refine aP 11 12 13 14 ?_;refine aL 15 ?_;refine aL 16 ?_;refine aL 17 ?_;refine dh 18 fun K hK=>?_;go_simp
 (with_reducible refine(mO Y n yc B rows n bc nu hbn hnp HN _ ?_).mono ?_);(go_split_ands;exact kB.out _ (by assumption));rintro e wA ⟨rfl,bN⟩
 refine hK.out _ _ (bJ hHeld bN) (fun hHeld=>?_);clear hK K
 try simp only[qq]
 refine aL 19 ?_;refine aL 20 ?_;refine aL 21 ?_;refine eO 22 23 24 25 ?_;refine lC 26 ?_;refine lC 27 ?_;refine aL 28 ?_;refine aL 29 ?_;refine eO 30 31 32 33 ?_;refine lC 34 ?_;refine aL 35 ?_;refine gM ?_;have gU:=hHeld;have bT:=ag ai.out gU.out;go_wp2;go_ret;exact⟨rfl,bT⟩
theorem Mj (P Q G:Int)(Y:Option Addr)(ys:List Int)(n yc:Nat)(B:Option Addr)(rows:List Row)(bc:Nat)(A:Option Addr)(al:List Int)(na ca:Nat)(C:Int)(Z:Option Addr)(zs:List Int)(nz cz:Nat)(mR:Hid (fM P Q G ys rows=true))(hyn:Hid (ys.length=n))(hbn:Hid (rows.length=n))(gy:Hid (al.length=na))(hzn:Hid (zs.length=nz))(hna:na<1000000)(hnz:nz<1000000)(hQ:Q<9223372036854775808)(heq:na=n)(heq2:nz=iG rows)(hc:jc Q C=false)(w:World)(hv:Hid (Vars w))(hY:Hid (Sl w Y ys))(hB:Hid (Rw w B rows))(hA:Hid (Sl w A al))(hZ:Hid (Sl w Z zs)) :
  Calls Tryz.prog 222 #[gv P Q G,iY Y n yc B n bc,jL A na ca C Z nz cz] w (Rt w (.bool false)):=by
 obtain⟨v1,v2,v3,v4,v5,v6,v7,v8⟩:=bY mR.out;have hnp:0<n:=by rw[←hyn.out];omega
 obtain⟨nu,hnu⟩:∃k,iG rows=k:=⟨_,rfl⟩;have HN:=aa hnu;clear v1 v2 v3 v4 v5 v6 v7 v8 hnu;have e1:((na:Int) != (n:Int))=false:=by simp;omega
 have e2:((nz:Int) != (nu:Int))=false:=by have:=HN.out;simp;omega
 clear heq heq2;have Uc:Hid ([C].all (jc Q)=false):=aa (by simpa using hc);clear hc;obtain⟨w0,HW,ai,kC⟩:=qD (bg P Q G) fq (lK Y n yc B n bc) sG (fU A na ca C Z nz cz) rV w;have kV:=mkV ai hv;have kY:=mkS ai hY;have kB:=fo (fun u=>Rw u B rows) ai hB (·.below);have kA:=mkS ai hA;have kZ:=mkS ai hZ;have ah:=bI w0;clear hv hY hB hA hZ;go_in
 go_wp2_with fail
 rw[HW.out];have hO:=kC;refine jq [] ah (fun hHeld=>?_);refine aL 0 ?_;refine aL 1 ?_;refine dh 2 fun K hK=>?_;go_simp
 (with_reducible refine(mF P Q G Y ys n yc B rows n bc true mR hyn hbn hQ _ ?_ ?_ ?_).mono ?_);(go_split_ands;exact kV.out _ (by assumption));(go_split_ands;exact kY.out _ (by assumption));(go_split_ands;exact kB.out _ (by assumption));rintro e wA ⟨rfl,bN⟩
 refine hK.out _ _ (bJ hHeld bN) (fun hHeld=>?_);clear hK K
 try simp only[qq]
 refine aP 3 4 5 6 ?_;refine aP 7 8 9 10 ?_;refine aP 11 12 13 14 ?_;refine aL 15 ?_;refine aL 16 ?_;refine aL 17 ?_;refine dh 18 fun K hK=>?_;go_simp
 (with_reducible refine(mO Y n yc B rows n bc nu hbn hnp HN _ ?_).mono ?_);(go_split_ands;exact kB.out _ (by assumption));rintro e wA ⟨rfl,bN⟩
 refine hK.out _ _ (bJ hHeld bN) (fun hHeld=>?_);clear hK K
 try simp only[qq]
 refine aP 19 20 21 22 ?_;refine aL 23 ?_;refine aL 24 ?_;refine dh 25 fun K hK=>?_;go_simp;refine hK.out _ _ (bJ hHeld (af _ _)) (fun hHeld=>?_);clear hK K
 try simp only[qq]
 refine dh 26 fun K hK=>?_;go_simp
 (with_reducible refine(mX P Q G (some ⟨wA.heap.size,0,none⟩) [C] 1 1 false Uc (aa rfl) (aa (by omega)) _ (aa (iN (v_ wA _ C)))).mono ?_);rintro e wB ⟨rfl,bN⟩
 refine hK.out _ _ (bJ hHeld bN) (fun hHeld=>?_);clear hK K
 try simp only[qq]
 refine aL 27 ?_;refine aL 28 ?_;refine aL 29 ?_;refine eO 30 31 32 33 ?_;refine lC 34 ?_;refine aL 35 ?_;refine gM ?_;have gU:=hHeld;have bT:=ag ai.out gU.out;go_wp2;go_ret;exact⟨rfl,bT⟩
theorem Mi (P Q G:Int)(Y:Option Addr)(ys:List Int)(n yc:Nat)(B:Option Addr)(rows:List Row)(bc:Nat)(A:Option Addr)(al:List Int)(na ca:Nat)(C:Int)(Z:Option Addr)(zs:List Int)(nz cz:Nat)(mR:Hid (fM P Q G ys rows=true))(hyn:Hid (ys.length=n))(hbn:Hid (rows.length=n))(gy:Hid (al.length=na))(hzn:Hid (zs.length=nz))(hna:na<1000000)(hnz:nz<1000000)(hQ:Q<9223372036854775808)(heq:na=n)(heq2:nz=iG rows)(hc:jc Q C=true)(Hl:Hid (zs.all (jc Q)=false))(w:World)(hv:Hid (Vars w))(hY:Hid (Sl w Y ys))(hB:Hid (Rw w B rows))(hA:Hid (Sl w A al))(hZ:Hid (Sl w Z zs)) :
  Calls Tryz.prog 222 #[gv P Q G,iY Y n yc B n bc,jL A na ca C Z nz cz] w (Rt w (.bool false)):=by
 obtain⟨v1,v2,v3,v4,v5,v6,v7,v8⟩:=bY mR.out;have hnp:0<n:=by rw[←hyn.out];omega
 obtain⟨nu,hnu⟩:∃k,iG rows=k:=⟨_,rfl⟩;have HN:=aa hnu;clear v1 v2 v3 v4 v5 v6 v7 v8 hnu;have e1:((na:Int) != (n:Int))=false:=by simp;omega
 have e2:((nz:Int) != (nu:Int))=false:=by have:=HN.out;simp;omega
 clear heq heq2;have Uc:Hid ([C].all (jc Q)=true):=aa (by simpa using hc);clear hc;obtain⟨w0,HW,ai,kC⟩:=qD (bg P Q G) fq (lK Y n yc B n bc) sG (fU A na ca C Z nz cz) rV w;have kV:=mkV ai hv;have kY:=mkS ai hY;have kB:=fo (fun u=>Rw u B rows) ai hB (·.below);have kA:=mkS ai hA;have kZ:=mkS ai hZ;have ah:=bI w0;clear hv hY hB hA hZ;go_in
 go_wp2_with fail
 rw[HW.out];have hO:=kC;refine jq [] ah (fun hHeld=>?_);refine aL 0 ?_;refine aL 1 ?_;refine dh 2 fun K hK=>?_;go_simp
 (with_reducible refine(mF P Q G Y ys n yc B rows n bc true mR hyn hbn hQ _ ?_ ?_ ?_).mono ?_);(go_split_ands;exact kV.out _ (by assumption));(go_split_ands;exact kY.out _ (by assumption));(go_split_ands;exact kB.out _ (by assumption));rintro e wA ⟨rfl,bN⟩
 refine hK.out _ _ (bJ hHeld bN) (fun hHeld=>?_);clear hK K
 try simp only[qq]
 refine aP 3 4 5 6 ?_;refine aP 7 8 9 10 ?_;refine aP 11 12 13 14 ?_;refine aL 15 ?_;refine aL 16 ?_;refine aL 17 ?_;refine dh 18 fun K hK=>?_;go_simp
 (with_reducible refine(mO Y n yc B rows n bc nu hbn hnp HN _ ?_).mono ?_);(go_split_ands;exact kB.out _ (by assumption));rintro e wA ⟨rfl,bN⟩
 refine hK.out _ _ (bJ hHeld bN) (fun hHeld=>?_);clear hK K
 try simp only[qq]
 refine aP 19 20 21 22 ?_;refine aL 23 ?_;refine aL 24 ?_;refine dh 25 fun K hK=>?_;go_simp;refine hK.out _ _ (bJ hHeld (af _ _)) (fun hHeld=>?_);clear hK K
 try simp only[qq]
 refine dh 26 fun K hK=>?_;go_simp
 (with_reducible refine(mX P Q G (some ⟨wA.heap.size,0,none⟩) [C] 1 1 true Uc (aa rfl) (aa (by omega)) _ (aa (iN (v_ wA _ C)))).mono ?_);rintro e wB ⟨rfl,bN⟩
 refine hK.out _ _ (bJ hHeld bN) (fun hHeld=>?_);clear hK K
 try simp only[qq]
 refine aP 27 28 29 30 ?_;refine aL 31 ?_;refine aL 32 ?_;refine dh 33 fun K hK=>?_;go_simp
 (with_reducible refine(mX P Q G Z zs nz cz false Hl hzn (aa hnz) _ ?_).mono ?_);(go_split_ands;exact kZ.out _ (by assumption));rintro e wA ⟨rfl,bN⟩
 refine hK.out _ _ (bJ hHeld bN) (fun hHeld=>?_);clear hK K
 try simp only[qq]
 refine aL 34 ?_;refine aL 35 ?_;refine gM ?_;have gU:=hHeld;have bT:=ag ai.out gU.out;go_wp2;go_ret;exact⟨rfl,bT⟩
def iV (P Q C:Int)(ys:List Int)(rows:List Row)(al zs:List Int):Bool:=decide (al.length=rows.length)&&(decide (zs.length=iG rows)&&(jc Q C&&(zs.all (jc Q)&&(yB P Q C ys rows zs == al))))
theorem rT {P Q C:Int} {ys:List Int} {rows:List Row} {al zs:List Int} (h:iV P Q C ys rows al zs=true):al.length=rows.length∧zs.length=iG rows∧jc Q C=true∧zs.all (jc Q)=true∧yB P Q C ys rows zs=al:=by
 simp only[iV,Bool.and_eq_true,decide_eq_true_eq]at h
 exact⟨h.1,h.2.1,h.2.2.1,h.2.2.2.1,by simpa using h.2.2.2.2⟩
theorem Gr (P Q G:Int)(Y:Option Addr)(ys:List Int)(n yc:Nat)(B:Option Addr)(rows:List Row)(bc:Nat)(A:Option Addr)(al:List Int)(na ca:Nat)(C:Int)(Z:Option Addr)(zs:List Int)(nz cz:Nat)(mR:Hid (fM P Q G ys rows=true))(hyn:Hid (ys.length=n))(hbn:Hid (rows.length=n))(gy:Hid (al.length=na))(hzn:Hid (zs.length=nz))(hna:na<1000000)(hnz:nz<1000000)(hQ:Q<9223372036854775808)(r:Bool)(hr:Hid (iV P Q C ys rows al zs=r))(w:World)(hv:Hid (Vars w))(hY:Hid (Sl w Y ys))(hB:Hid (Rw w B rows))(hA:Hid (Sl w A al))(hZ:Hid (Sl w Z zs)) :
  Calls Tryz.prog 222 #[gv P Q G,iY Y n yc B n bc,jL A na ca C Z nz cz] w (Rt w (.bool r)):=by
 by_cases h1:na=n
 ·
  by_cases h2:nz=iG rows
  ·
   cases h3:jc Q C with
   | false=>
    obtain rfl:r=false:=by rw[←hr.out];unfold iV;rw[h3];simp
    exact Mj P Q G Y ys n yc B rows bc A al na ca C Z zs nz cz mR hyn hbn gy hzn hna hnz hQ h1 h2 h3 w hv hY hB hA hZ
   | true=>
    cases h4:zs.all (jc Q)with
    | false=>
     obtain rfl:r=false:=by rw[←hr.out];unfold iV;rw[h4];simp
     exact Mi P Q G Y ys n yc B rows bc A al na ca C Z zs nz cz mR hyn hbn gy hzn hna hnz hQ h1 h2 h3 (aa h4) w hv hY hB hA hZ
    | true=>
     subst h1;refine Jj P Q G Y ys na yc B rows bc A al ca C Z zs nz cz mR hyn hbn gy hzn (by rw[hzn.out];exact h2) (aa h4) (tJ h3) (vM h3) r (aa ?_) hQ w hv hY hB hA hZ;rw[←hr.out];unfold iV;have e1:al.length=rows.length:=gy.out.trans hbn.out.symm;have e2:zs.length=iG rows:=hzn.out.trans h2;rw[decide_eq_true e1,decide_eq_true e2,h3,h4]
     rfl
  ·
   obtain rfl:r=false:=by
    rw[←hr.out];unfold iV;rw[decide_eq_false (show ¬zs.length=iG rows by rw[hzn.out];exact h2)];simp
   exact Mk P Q G Y ys n yc B rows bc A al na ca C Z zs nz cz mR hyn hbn gy hzn hna hnz hQ h1 h2 w hv hY hB hA hZ
 ·
  obtain rfl:r=false:=by
   rw[←hr.out];unfold iV;rw[decide_eq_false (show ¬al.length=rows.length by rw[gy.out,hbn.out];exact h1)];rfl
  exact Ml P Q G Y ys n yc B rows bc A al na ca C Z zs nz cz mR hyn hbn gy hzn hna hnz hQ h1 w hv hY hB hA hZ
theorem Mh (P Q G:Int)(Y:Option Addr)(ys:List Int)(yn yc:Nat)(B:Option Addr)(rows:List Row)(bn bc:Nat)(A:Option Addr)(al:List Int)(na ca:Nat)(C:Int)(Z:Option Addr)(zs:List Int)(nz cz:Nat)(hyn:Hid (ys.length=yn))(hbn:Hid (rows.length=bn))(gy:Hid (al.length=na))(hzn:Hid (zs.length=nz))(hna:na<1000000)(hnz:nz<1000000)(hQ:Q<9223372036854775808)(mR:Hid (fM P Q G ys rows=false))(w:World)(hv:Hid (Vars w))(hY:Hid (Sl w Y ys))(hB:Hid (Rw w B rows))(hA:Hid (Sl w A al))(hZ:Hid (Sl w Z zs)) :
  Calls Tryz.prog 222 #[gv P Q G,iY Y yn yc B bn bc,jL A na ca C Z nz cz] w (Rt w (.bool false)):=by
 obtain⟨w0,HW,ai,kC⟩:=qD (bg P Q G) fq (lK Y yn yc B bn bc) sG (fU A na ca C Z nz cz) rV w;have kV:=mkV ai hv;have kY:=mkS ai hY;have kB:=fo (fun u=>Rw u B rows) ai hB (·.below);have kA:=mkS ai hA;have kZ:=mkS ai hZ;have ah:=bI w0;clear hv hY hB hA hZ;go_in
 go_wp2_with fail
 rw[HW.out];have hO:=kC;refine jq [] ah (fun hHeld=>?_);refine aL 0 ?_;refine aL 1 ?_;refine dh 2 fun K hK=>?_;go_simp
 (with_reducible refine(mF P Q G Y ys yn yc B rows bn bc false mR hyn hbn hQ _ ?_ ?_ ?_).mono ?_);(go_split_ands;exact kV.out _ (by assumption));(go_split_ands;exact kY.out _ (by assumption));(go_split_ands;exact kB.out _ (by assumption));rintro e wA ⟨rfl,bN⟩
 refine hK.out _ _ (bJ hHeld bN) (fun hHeld=>?_);clear hK K
 try simp only[qq]
 refine aL 3 ?_;refine aL 4 ?_;refine eO 5 6 7 8 ?_;refine lC 9 ?_;refine lC 10 ?_;refine lC 11 ?_;refine aL 12 ?_;refine aL 13 ?_;refine eO 14 15 16 17 ?_;refine lC 18 ?_;refine lC 19 ?_;refine aL 20 ?_;refine aL 21 ?_;refine eO 22 23 24 25 ?_;refine lC 26 ?_;refine lC 27 ?_;refine aL 28 ?_;refine aL 29 ?_;refine eO 30 31 32 33 ?_;refine lC 34 ?_;refine aL 35 ?_;refine gM ?_;have gU:=hHeld;have bT:=ag ai.out gU.out;go_wp2;go_ret;exact⟨rfl,bT⟩
def uo (P Q G C:Int)(ys:List Int)(rows:List Row)(al zs:List Int):Bool:=fM P Q G ys rows&&iV P Q C ys rows al zs
theorem Bv (P Q G:Int)(Y:Option Addr)(ys:List Int)(yn yc:Nat)(B:Option Addr)(rows:List Row)(bn bc:Nat)(A:Option Addr)(al:List Int)(na ca:Nat)(C:Int)(Z:Option Addr)(zs:List Int)(nz cz:Nat)(hyn:Hid (ys.length=yn))(hbn:Hid (rows.length=bn))(gy:Hid (al.length=na))(hzn:Hid (zs.length=nz))(hna:na<1000000)(hnz:nz<1000000)(hQ:Q<9223372036854775808)(r:Bool)(hr:Hid (uo P Q G C ys rows al zs=r))(w:World)(hv:Hid (Vars w))(hY:Hid (Sl w Y ys))(hB:Hid (Rw w B rows))(hA:Hid (Sl w A al))(hZ:Hid (Sl w Z zs)) :
  Calls Tryz.prog 222 #[gv P Q G,iY Y yn yc B bn bc,jL A na ca C Z nz cz] w (Rt w (.bool r)):=by
 cases hg:fM P Q G ys rows with
 | false=>
  obtain rfl:r=false:=by rw[←hr.out,uo,hg];rfl
  exact Mh P Q G Y ys yn yc B rows bn bc A al na ca C Z zs nz cz hyn hbn gy hzn hna hnz hQ (aa hg) w hv hY hB hA hZ
 | true=>
  have he:bn=yn:=by rw[←hbn.out,←hyn.out];exact(bY hg).2.2.2.1
  subst he;exact Gr P Q G Y ys bn yc B rows bc A al na ca C Z zs nz cz (aa hg) hyn hbn gy hzn hna hnz hQ r (aa (by rw[←hr.out,uo,hg];rfl)) w hv hY hB hA hZ
theorem LD {P Q G:Int} (h:a_ P Q G=true):vR [P,Q,G]:=by
 obtain⟨h1,h2,h3,h4⟩:=bW h;have h5:2≤G∧G<P:=by simp[a_]at h;exact⟨h.2.2.2.2.2.2.1,h.2.2.2.2.2.2.2.1⟩
 refine⟨by simp,fun x hx=>?_⟩
 simp at hx
 rcases hx with rfl | rfl | rfl <;> omega
theorem KG {P Q:Int} {l:List Int} (hP:P<2305843009213693952)(h:l.all (aN P Q)=true)(hl:l.length≤1000):vR l:=
 ⟨hl,fun x hx=>by
  have h1:=gD (List.all_eq_true.1 h x hx);have h2:=gF (List.all_eq_true.1 h x hx)
  omega⟩
theorem Fz {P Q G:Int} {ys:List Int} {rows:List Row} {w:World} {B:Option Addr} (h:fM P Q G ys rows=true)(hB:Rw w B rows) :
  vR [P,Q,G]∧vR ys∧∀k,k<rows.length→vR (rows.getD k dI).xs:=by
 obtain⟨v1,v2,v3,v4,v5,v6,v7,v8⟩:=bY h;obtain⟨h1,h2,h3,h4⟩:=bW v1;refine⟨LD v1,KG h2 v5 (by omega),fun k hk=>?_⟩;have hr:=rD v8 hk;have hl:=(hB k hk).2.1
 simp only[oU,Bool.and_eq_true,decide_eq_true_eq]at hr
 exact KG h2 hr.2 (by omega)
theorem FW {P Q C:Int} {ys:List Int} {rows:List Row} {zs:List Int} (hP0:2≤P)(hP:P<2305843009213693952)(hl:rows.length≤1000):vR (yB P Q C ys rows zs):=
 ⟨by rw[iO];exact hl,fun x hx=>by
  obtain⟨i,_,rfl⟩:=List.mem_map.1 hx;unfold A_;have h1:=Int.emod_nonneg (dU P 1 (rows.getD i dI).xs zs*pw (ys.getD i 0) ((Q-C)%Q) P) (show P≠0 by omega);have h2:=Int.emod_lt_of_pos (dU P 1 (rows.getD i dI).xs zs*pw (ys.getD i 0) ((Q-C)%Q) P) (show 0<P by omega)
  omega⟩
def yA (P Q G C:Int)(lb ys:List Int)(rows:List Row)(al zs:List Int):Bool:=uo P Q G C ys rows al zs&&(iQ lb&&(BJ P Q G lb ys rows al == C))
theorem Wq (P Q G:Int)(Y:Option Addr)(ys:List Int)(yn yc:Nat)(B:Option Addr)(rows:List Row)(bn bc:Nat)(A:Option Addr)(al:List Int)(na ca:Nat)(C:Int)(Z:Option Addr)(zs:List Int)(nz cz:Nat)(hyn:Hid (ys.length=yn))(hbn:Hid (rows.length=bn))(gy:Hid (al.length=na))(hzn:Hid (zs.length=nz))(hna:na<1000000)(hnz:nz<1000000)(hQ:Q<9223372036854775808)(s:ByteArray)(hs:s.size≤1000)(HC:Hid (uo P Q G C ys rows al zs=false))(w:World)(hv:Hid (Vars w))(hd:Hid (bB w))(hY:Hid (Sl w Y ys))(hB:Hid (Rw w B rows))(hA:Hid (Sl w A al))(hZ:Hid (Sl w Z zs)) :
  Calls Tryz.prog 201 #[gv P Q G,iY Y yn yc B bn bc, .string s,jL A na ca C Z nz cz] w (Rt w (.bool false)):=by
 obtain⟨w0,HW,ai,kC⟩:=qD (bg P Q G) fq (lK Y yn yc B bn bc) sG (fU A na ca C Z nz cz) rV w;have kV:=mkV ai hv;have kY:=mkS ai hY;have kB:=fo (fun u=>Rw u B rows) ai hB (·.below);have kA:=mkS ai hA;have kZ:=mkS ai hZ;have kD:=oF ai hd;have ah:=bI w0;clear hv hY hB hA hZ hd;go_in
 go_wp2_with fail
 rw[HW.out];have zc:=kC.out _ ah
 go_wp2_with fail
 clear zc;refine fe kC ah (Bv P Q G Y ys yn yc B rows bn bc A al na ca C Z zs nz cz hyn hbn gy hzn hna hnz hQ false HC _ (kV.out _ ah) (kY.out _ ah) (kB.out _ ah) (kA.out _ ah) (kZ.out _ ah)) fun w1 ax zc=>?_;go_wp2;go_ret;exact⟨rfl,f_ ai ax⟩
theorem Wp (P Q G:Int)(Y:Option Addr)(ys:List Int)(yn yc:Nat)(B:Option Addr)(rows:List Row)(bn bc:Nat)(A:Option Addr)(al:List Int)(na ca:Nat)(C:Int)(Z:Option Addr)(zs:List Int)(nz cz:Nat)(hyn:Hid (ys.length=yn))(hbn:Hid (rows.length=bn))(gy:Hid (al.length=na))(hzn:Hid (zs.length=nz))(hna:na<1000000)(hnz:nz<1000000)(hQ:Q<9223372036854775808)(s:ByteArray)(hs:s.size≤1000)(HC:Hid (uo P Q G C ys rows al zs=true))(hr:Hid (iQ (bq s)=false))(yN:bn≤900)(w:World)(hv:Hid (Vars w))(hd:Hid (bB w))(hY:Hid (Sl w Y ys))(hB:Hid (Rw w B rows))(hA:Hid (Sl w A al))(hZ:Hid (Sl w Z zs)) :
  Calls Tryz.prog 201 #[gv P Q G,iY Y yn yc B bn bc, .string s,jL A na ca C Z nz cz] w (Rt w (.bool false)):=by
 obtain⟨w0,HW,ai,kC⟩:=qD (bg P Q G) fq (lK Y yn yc B bn bc) sG (fU A na ca C Z nz cz) rV w;have kV:=mkV ai hv;have kY:=mkS ai hY;have kB:=fo (fun u=>Rw u B rows) ai hB (·.below);have kA:=mkS ai hA;have kZ:=mkS ai hZ;have kD:=oF ai hd;have ah:=bI w0;clear hv hY hB hA hZ hd;go_in
 go_wp2_with fail
 rw[HW.out];have zc:=kC.out _ ah
 go_wp2_with fail
 clear zc;refine fe kC ah (Bv P Q G Y ys yn yc B rows bn bc A al na ca C Z zs nz cz hyn hbn gy hzn hna hnz hQ true HC _ (kV.out _ ah) (kY.out _ ah) (kB.out _ ah) (kA.out _ ah) (kZ.out _ ah)) fun w1 ax zc=>?_
 go_wp2_with fail
 clear zc;refine fe kC ax (Mm P Q G Y ys yn yc B rows bn bc A al na ca s hs hr hbn yN _ (kB.out _ ax)) fun w2 az zc=>?_;go_wp2;go_ret;exact⟨rfl,f_ ai az⟩
theorem Wo (P Q G:Int)(Y:Option Addr)(ys:List Int)(yn yc:Nat)(B:Option Addr)(rows:List Row)(bn bc:Nat)(A:Option Addr)(al:List Int)(na ca:Nat)(C:Int)(Z:Option Addr)(zs:List Int)(nz cz:Nat)(hyn:Hid (ys.length=yn))(hbn:Hid (rows.length=bn))(gy:Hid (al.length=na))(hzn:Hid (zs.length=nz))(hna:na<1000000)(hnz:nz<1000000)(hQ:Q<9223372036854775808)(s:ByteArray)(hs:s.size≤1000)(HC:Hid (uo P Q G C ys rows al zs=true))(hr:Hid (iQ (bq s)=true))(yN:bn≤900)(OA:Hid (vR [P,Q,G]))(Oy:Hid (vR ys))(OB:Hid (vR al))(Oz:Hid (∀k,k<rows.length→vR (rows.getD k dI).xs))(UW:2≤Q)(UU:Q<2305843009213693952)(V:Int)(HV:Kp (BJ P Q G (bq s) ys rows al=V))(w:World)(hv:Hid (Vars w))(hd:Hid (bB w))(hY:Hid (Sl w Y ys))(hB:Hid (Rw w B rows))(hA:Hid (Sl w A al))(hZ:Hid (Sl w Z zs)) :
  Calls Tryz.prog 201 #[gv P Q G,iY Y yn yc B bn bc, .string s,jL A na ca C Z nz cz] w (Rt w (.bool (V == C))):=by
 obtain⟨w0,HW,ai,kC⟩:=qD (bg P Q G) fq (lK Y yn yc B bn bc) sG (fU A na ca C Z nz cz) rV w;have kV:=mkV ai hv;have kY:=mkS ai hY;have kB:=fo (fun u=>Rw u B rows) ai hB (·.below);have kA:=mkS ai hA;have kZ:=mkS ai hZ;have kD:=oF ai hd;have ah:=bI w0;clear hv hY hB hA hZ hd;go_in
 go_wp2_with fail
 rw[HW.out];have zc:=kC.out _ ah
 go_wp2_with fail
 clear zc;refine fe kC ah (Bv P Q G Y ys yn yc B rows bn bc A al na ca C Z zs nz cz hyn hbn gy hzn hna hnz hQ true HC _ (kV.out _ ah) (kY.out _ ah) (kB.out _ ah) (kA.out _ ah) (kZ.out _ ah)) fun w1 ax zc=>?_
 go_wp2_with fail
 clear zc;refine fe kC ax (OJ P Q G Y ys yn yc B rows bn bc A al na ca s hs hr hyn hbn gy yN OA Oy OB Oz UW UU V HV _ (kD.out _ ax) (kY.out _ ax) (kB.out _ ax) (kA.out _ ax)) fun w2 az zc=>?_;go_wp2;go_ret;exact⟨rfl,f_ ai az⟩
theorem OI (P Q G:Int)(Y:Option Addr)(ys:List Int)(yn yc:Nat)(B:Option Addr)(rows:List Row)(bn bc:Nat)(A:Option Addr)(al:List Int)(na ca:Nat)(C:Int)(Z:Option Addr)(zs:List Int)(nz cz:Nat)(hyn:Hid (ys.length=yn))(hbn:Hid (rows.length=bn))(gy:Hid (al.length=na))(hzn:Hid (zs.length=nz))(hna:na<1000000)(hnz:nz<1000000)(hQ:Q<9223372036854775808)(s:ByteArray)(hs:s.size≤1000)(r:Bool)(hr:Kp (yA P Q G C (bq s) ys rows al zs=r))(w:World)(hv:Hid (Vars w))(hd:Hid (bB w))(hY:Hid (Sl w Y ys))(hB:Hid (Rw w B rows))(hA:Hid (Sl w A al))(hZ:Hid (Sl w Z zs)) :
  Calls Tryz.prog 201 #[gv P Q G,iY Y yn yc B bn bc, .string s,jL A na ca C Z nz cz] w (Rt w (.bool r)):=by
 cases hc:uo P Q G C ys rows al zs with
 | false=>
  obtain rfl:r=false:=by rw[←hr.1,yA,hc];rfl
  exact Wq P Q G Y ys yn yc B rows bn bc A al na ca C Z zs nz cz hyn hbn gy hzn hna hnz hQ s hs (aa hc) w hv hd hY hB hA hZ
 | true=>
  have hcc:=hc
  simp only[uo,Bool.and_eq_true]at hcc
  obtain⟨hg,hcb⟩:=hcc;obtain⟨v1,v2,v3,v4,v5,v6,v7,v8⟩:=bY hg;obtain⟨p1,p2,p3,p4⟩:=bW v1;obtain⟨OA,Oy,Oz⟩:=Fz hg hB.out;have yN:bn≤900:=by rw[←hbn.out];omega
  have OB:vR al:=by rw[←(rT hcb).2.2.2.2];exact FW p1 p2 (by omega)
  cases hlb:iQ (bq s)with
  | false=>
   obtain rfl:r=false:=by rw[←hr.1,yA,hlb,Bool.false_and,Bool.and_false]
   exact Wp P Q G Y ys yn yc B rows bn bc A al na ca C Z zs nz cz hyn hbn gy hzn hna hnz hQ s hs (aa hc) (aa hlb) yN w hv hd hY hB hA hZ
  | true=>
   obtain⟨V,hV⟩:∃V,BJ P Q G (bq s) ys rows al=V:=⟨_,rfl⟩;obtain rfl:(V == C)=r:=by rw[←hr.1,yA,hc,hlb,hV];rfl
   exact Wo P Q G Y ys yn yc B rows bn bc A al na ca C Z zs nz cz hyn hbn gy hzn hna hnz hQ s hs (aa hc) (aa hlb) yN (aa OA) (aa Oy) (aa OB) (aa Oz) (by omega) (by omega) V ⟨hV⟩ w hv hd hY hB hA hZ
theorem Ep {s:ByteArray} (h:iQ (bq s)=true):1≤s.size:=by
 rw[iQ,bP]at h
 simp at h
 exact h.1.1
theorem JE {h:List Int} (hl:h.length=32)(hb:aF h=true) {s:ByteArray} (hs0:1≤s.size)(hs:s.size≤1000) {item:It} (hf:fits 7 item):fits 8 (.lst [.byt h, .byt (bq s),item]):=by
 refine⟨by simp,fun x hx=>?_⟩;rcases (by simpa using hx:x = .byt h∨x = .byt (bq s)∨x=item)with rfl | rfl | rfl
 · exact⟨⟨by rw[hl];decide,by rw[hl];decide⟩,hb⟩
 · exact⟨⟨by rw[bP];omega,by rw[bP];omega⟩,jN s⟩
 · exact hf
theorem GU {h:List Int} (hl:h.length=32)(hb:aF h=true) {s:ByteArray} (hs0:1≤s.size)(hs:s.size≤1000):fits 8 (.lst [.byt h, .byt (bq s)]):=by
 refine⟨by simp,fun x hx=>?_⟩;rcases (by simpa using hx:x = .byt h∨x = .byt (bq s))with rfl | rfl
 · exact⟨⟨by rw[hl];decide,by rw[hl];decide⟩,hb⟩
 · exact⟨⟨by rw[bP];omega,by rw[bP];omega⟩,jN s⟩
theorem ME {h:List Int} (hl:h.length=32) {s:ByteArray} (hs:s.size≤1000) {item:It} (hle:(enc item).length≤14000):(enc (.lst [.byt h, .byt (bq s),item])).length≤16384:=by
 rw[fV]
 simp only[gz,jh,List.length_cons,List.length_append,eX,hl,bP,List.length_nil]
 omega
theorem JD {h:List Int} (hl:h.length=32) {s:ByteArray} (hs:s.size≤1000):(enc (.lst [.byt h, .byt (bq s)])).length≤16384:=by
 rw[fV]
 simp only[gz,jh,List.length_cons,List.length_append,eX,hl,bP,List.length_nil]
 omega
theorem DR {P:Program} {S:World→Prop} {o:Oper} {a:Act} (t:TypeId)(l:List (Nat × Operand))(ho:o.op = .build t l.toArray)(cells:Array Value)
  (hf:P.built t (l.map fun x=>(x.1,a.eval x.2))=some cells):∀w,S w→(execOp a.eval o).run P w = .ok (.value (.agg cells)) w:=by
 intro w _;have e:(l.toArray.map fun(x:Nat × Operand)=>(x.1,a.eval x.2)).toList=l.map fun x=>(x.1,a.eval x.2):=by simp
 unfold execOp
 simp only[ho]
 have h:=run_build w t (l.toArray.map fun(x:Nat × Operand)=>(x.1,a.eval x.2)) cells (by rw[e];exact hf)
 simp only[Sem.run_bind,h,Result.andThen_ok,Sem.run_pure]
theorem Bh (h:List Int)(hl:Hid (h.length=32))(hb:Hid (aF h=true))(c:Int)(hc0:0≤c)(hc1:c<1000)(s:ByteArray)(hs:s.size≤1000)(hr:Hid (iQ (bq s)=true))(item:It)(cI:Ic)(w:World)(hI:Hid (pV w item cI))(hfi:Hid (fits 7 item))(hle:Hid ((enc item).length≤14000)) :
  Calls Tryz.prog 248 #[.agg (dK h c), .string s, .agg #[.int .i64 cI.kind, .int .i64 cI.n, .slice cI.B cI.nb cI.cb, .slice cI.L cI.nl cI.cl]] w (Rt w (Am (H_ h (bq s) item) (c+1) 0)):=by
 have hs0:1≤s.size:=Ep hr.out;obtain⟨W,hW⟩:∃W,((w.alloc (.cells (dK h c) 237)).alloc (.cells #[.int .i64 cI.kind, .int .i64 cI.n, .slice cI.B cI.nb cI.cb, .slice cI.L cI.nl cI.cl] 117)).alloc (.cells #[.int .u8 0, .int .u8 0, .int .u8 0, .int .u8 0, .int .u8 0, .int .u8 0, .int .u8 0, .int .u8 0, .int .u8 0, .int .u8 0, .int .u8 0, .int .u8 0, .int .u8 0, .int .u8 0, .int .u8 0, .int .u8 0, .int .u8 0, .int .u8 0, .int .u8 0, .int .u8 0, .int .u8 0, .int .u8 0, .int .u8 0, .int .u8 0, .int .u8 0, .int .u8 0, .int .u8 0, .int .u8 0, .int .u8 0, .int .u8 0, .int .u8 0, .int .u8 0, .int .i64 0] 237)=W:=⟨_,rfl⟩;have cu:Hid (Below w.heap.size w W):=aa (by rw[←hW];exact ag (aO (Below.refl _ _)) (af _ _));have HT0:Hid (dX W w.heap.size h c):=aa (by rw[←hW];exact((dX.new _ _ _).below (af _ _)).below (af _ _));have HIB:Hid (W.heap[w.heap.size+1]? = some (.cells #[.int .i64 cI.kind, .int .i64 cI.n, .slice cI.B cI.nb cI.cb, .slice cI.L cI.nl cI.cl] 117 (0,0))):=aa (by rw[←hW,←(show(w.alloc (.cells (dK h c) 237)).heap.size=w.heap.size+1 by simp)];exact heap_alloc2_old _ _ _);have fH:Hid (dX W (w.heap.size+1+1) (dL 32) 0):=aa (by rw[←hW,Lt,show w.heap.size+1+1=(w.alloc (.cells (dK h c) 237)).heap.size+1 by simp];exact heap_alloc2_new _ _ _);have l8:Hid (W.heap.size=w.heap.size+3):=aa (by rw[←hW];simp);have HII:=aa (hI.out.kept cu.out);have YJ:Hid (Four W (w.heap.size+1) 0 cI):=aa (rP HIB.out);have HW:=aa hW;clear hW;go_in
 go_upto_region 1 with(fail)
 rw[HW.out];clear HW
 go_wp2_with ((with_reducible show wpList _ _ _ (⟨some 10,_,_,_,_,_⟩::_) _ _);refine wpList_load_row rfl 237 _ rfl w.heap.size rfl _ _ _ _ HT0.out Tryz.underlying237 rfl (aT hl.out) ?_)
 refine(ze h hl c hc0 (by omega) _).mono ?_;rintro e w1 ⟨rfl,hb1⟩;have HB1:=aa (ag cu.out hb1);have HT1:=aa (HT0.out.below hb1);have HI1:=aa (HII.out.kept hb1);have HR1:=aa (fH.out.below hb1);have HF1:=aa (YJ.out.below hb1);clear hb1 HT0 HII fH HIB cu YJ
 go_wp2_with fail
 refine(rE s hs true hr _).mono ?_;rintro e w2 ⟨rfl,rfl⟩;obtain⟨f0,f1,f2,f3⟩:=HF1.out
 go_wp2_with ((with_reducible show wpList _ _ _ (⟨some 19,_,_,_,_,_⟩::_) _ _);refine wpList_load_row rfl 237 _ rfl w.heap.size rfl _ _ _ _ HT1.out Tryz.underlying237 rfl (aT hl.out) ?_)
 clear f0 f1 f2 f3;obtain⟨W3,hW3⟩:∃u,w1.alloc (.cells #[.int .i64 cI.kind, .int .i64 cI.n, .slice cI.B cI.nb cI.cb, .slice cI.L cI.nl cI.cl] 117)=u:=⟨_,rfl⟩;have HF3:Hid (Four W3 w1.heap.size 0 cI):=aa (by rw[←hW3];exact rP (heap_alloc_new _ _));have hb3:Below w1.heap.size w1 W3:=by rw[←hW3];exact af _ _
 rw[hW3];have HI3:=aa (HI1.out.kept hb3);refine(R6 h hl hb c s hs0 hs item cI w1.heap.size 1 W3 HF3 HI3).mono ?_;rintro e w4 ⟨cf,rfl,hcf,hb4⟩;have MS:=aa ((HT1.out.below hb3).below hb4);have HR4:=aa ((HR1.out.below hb3).below hb4);have l5:=aa (ag (ag HB1.out hb3) hb4);have Zo:=aa hcf;rw[show cf.val = .agg cf.cs from rfl];clear hb3 hb4 hW3 HF3 HI3 HT1 HR1 HB1 HF1 HI1 hcf
 go_upto_region 4 with((with_reducible show wpList _ _ _ (⟨none,_,_,_,_,_⟩::_) _ _);refine wpList_store_row rfl 117 _ _ rfl w4.heap.size cf.cs rfl rfl _ _ (heap_alloc_new _ _) (dz _) rfl (kQ _) ?_)
 rw[World.setRow_alloc_new]
 try simp only[Act.put]
 have MV:Hid ((w4.alloc (.cells cf.cs 117)).heap[w4.heap.size]? = some (.cells cf.cs 117 (0,0))):=aa (heap_alloc_new _ _);have Rb:=aa (MS.out.below (af w4 (.cells cf.cs 117)));have wE:=aa (HR4.out.below (af w4 (.cells cf.cs 117)));have l9:=aa (ag l5.out (af w4 (.cells cf.cs 117)));have Uq:=aa (Zo.out.kept (af w4 (.cells cf.cs 117)));have HZ5:Hid (w4.heap.size<(w4.alloc (.cells cf.cs 117)).heap.size):=aa (by simp);obtain⟨W5,Px⟩:∃u,w4.alloc (.cells cf.cs 117)=u:=⟨_,rfl⟩;rw[Px]at MV Rb wE l9 Uq HZ5 ⊢;clear Px MS HR4 l5 Zo;obtain⟨bt,hbt⟩:∃b,w4.heap.size=b:=⟨_,rfl⟩;rw[hbt]at MV HZ5 ⊢;clear hbt
 go_wp2_with ((with_reducible show wpList _ _ _ (⟨some 24,_,_,_,_,_⟩::_) _ _);refine wpList_load_row rfl 117 _ rfl bt rfl _ _ _ _ MV.out Tryz.underlying117 rfl (dz _) ?_)
 have lX:Hid (fits 8 (.lst [.byt h, .byt (bq s),item])):=aa (JE hl.out hb.out hs0 hs hfi.out);have HLEN:Hid ((enc (.lst [.byt h, .byt (bq s),item])).length≤16384):=aa (ME hl.out hs hle.out);rw[show(Value.agg cf.cs)=cf.val from rfl];refine(D6 _ cf _ lX.out Uq.out).mono ?_;rintro e w6 ⟨rfl,hb6⟩;have CO:=aa (Rb.out.below hb6);have QH:=aa (wE.out.below hb6);have oM:=aa (ag l9.out hb6);have HC6:=aa (Uq.out.kept hb6);have Vh:=aa ((hb6.block _ HZ5.out).trans MV.out);clear hb6 Rb wE l9 Uq MV HZ5;rw[show cf.val = .agg cf.cs from rfl]
 go_wp2_with ((with_reducible show wpList _ _ _ (⟨some 28,_,_,_,_,_⟩::_) _ _);refine wpList_load_row rfl 117 _ rfl bt rfl _ _ _ _ Vh.out Tryz.underlying117 rfl (dz _) ?_)
 rw[show(Value.agg cf.cs)=cf.val from rfl];refine(xx 8 _ cf _ lX.out HC6.out HLEN.out).mono ?_;rintro e w7 ⟨v7,rfl,Fb,Fe⟩;obtain⟨E,hE⟩:∃E,enc (.lst [.byt h, .byt (bq s),item])=E:=⟨_,rfl⟩;have MZ:Hid (aF E=true):=aa (by rw[←hE];exact mI lX.out);have yz:Hid (0<E.length∧E.length≤16384):=aa (by rw[←hE];exact⟨qd _,HLEN.out⟩);rw[hE]at Fb;obtain⟨g7,JW,e7,hg7,-,-,aav⟩:=Fb.cells yz.out.1;obtain⟨n7,hn7⟩:∃n,E.length=n:=⟨_,rfl⟩;rw[hn7]at e7 yz;subst e7;have Yq:=aa hn7;have QD:=aa aav;have HT7:=aa (CO.out.below Fe);have Yh:=aa (QH.out.below Fe);have vK:=aa (ag oM.out Fe);have J_:Kp (enc (.lst [.byt h, .byt (bq s),item])=E):=⟨hE⟩;clear hE aav Fb Fe hn7 lX HLEN CO QH oM HC6 Vh;rw[show cf.val = .agg cf.cs from rfl];obtain⟨he0,he1⟩:=yz.out;have hcn:¬(c=1000):=by omega
 have hwr:IntKind.i64.wrap (c+1)=c+1:=IntWalk.i64_in _ (by omega);have hnb:decide ((16384:Int)<(n7:Int))=false:=by simp;omega
 have hcnt:=HT7.out.count hl.out
 go_wp2_with fail
 clear hcnt;refine bV (S:=fun w'=>w'.cell? ⟨w.heap.size,32,none⟩=some (.int .i64 c)) (E:= [6,7]) (by kernel_rfl) (((HT7.out.below (Below.refl _ _).drew)).count hl.out) (fun hHeld=>?_);refine b_ 0 ?_;refine b_ 2 ?_;refine b_ 3 ?_;refine b_ 4 ?_;refine dh 1 fun K hK=>?_;go_simp;refine(mY FQ (by decide) (by decide) g7 0 JW E n7 Yq he0 (by omega) MZ _ (aa (QD.out.below (Below.refl _ _).drew))).mono ?_;rintro e w8 ⟨rfl,YZ⟩;have Rf:=aa ((Yh.out.below (Below.refl _ _).drew).below YZ);have HT8:=aa ((HT7.out.below (Below.refl _ _).drew).below YZ);have sK:=aa (ag (ag vK.out (Below.refl _ _).drew) YZ);obtain⟨R,hR⟩:∃R,tagged (bq FQ) E=R:=⟨_,rfl⟩;have hRl:R.length=32:=by rw[←hR];exact dR _ _
 have Rh:Kp (H_ h (bq s) item=R):=⟨by rw[H_,J_.1];exact hR⟩;have fQ:=aa hRl;rw[hR];clear hR hRl;refine hK.out _ _ ?_ (fun hHeld=>?_)
 · exact HT8.out.count hl.out
 clear hK K
 try simp only[qq]
 refine Cf 5 (.agg (dK R (c+1))) rfl (DR 237 _ rfl _ (Ql R fQ.out (c+1))) ?_;refine oz 6 fun K hK=>?_;rw[show(if Region.wanted _ _=true then _ else _:Prop)=_ from if_pos rfl];refine wp_store_row 237 _ _ rfl (w.heap.size+1+1) (dK R (c+1)) rfl rfl 237 _ Rf.out (aT fQ.out) (gP rfl fQ.out) (eP _ _) ?_;refine hK.out _ _ ?_;clear hK K
 try simp only[qq]
 refine oz 7 fun K hK=>?_;go_simp;refine hK.out _ _ ?_;clear hK K
 try simp only[qq]
 refine gM ?_;have HRR:Hid (dX (w8.setRow (w.heap.size+1+1) (dK R (c+1))) (w.heap.size+1+1) R (c+1)):=aa Rf.out.setRow;have gU:Below w.heap.size w (w8.setRow (w.heap.size+1+1) (dK R (c+1))):=aj sK.out (by omega);go_wp2;exact bodyPost_ret (v:=Am R (c+1) 0) (dH (p:=6) (q:=7) (ty:=237) rfl _ _ ⟨w.heap.size+1+1,0,none⟩ _ _ rfl rfl (run_loadVar_row _ _ _ _ _ _ _ HRR.out Tryz.underlying237 rfl (aT fQ.out))) rfl ⟨by rw[Rh.1],gU⟩
theorem Od (h:List Int)(hl:Hid (h.length=32))(hb:Hid (aF h=true))(c:Int)(hc0:0≤c)(hc1:c<1000)(s:ByteArray)(hs:s.size≤1000)(hr:Hid (iQ (bq s)=true))(A:Option Addr)(l:List Int)(n cA:Nat)(hn:Hid (l.length=n))(hbig:n≤1000)(w:World)(hS:Hid (Sl w A l))(hfi:Hid (fits 7 (.lst (l.map .int))))(hle:Hid ((enc (.lst (l.map .int))).length≤14000)) :
  Calls Tryz.prog 230 #[.agg (dK h c), .string s, .slice A n cA] w (Rt w (Am (H_ h (bq s) (.lst (l.map .int))) (c+1) 0)):=by
 obtain⟨W,hW⟩:∃W,(w.alloc (.cells (dK h c) 237)).alloc (.cells #[.int .u8 0, .int .u8 0, .int .u8 0, .int .u8 0, .int .u8 0, .int .u8 0, .int .u8 0, .int .u8 0, .int .u8 0, .int .u8 0, .int .u8 0, .int .u8 0, .int .u8 0, .int .u8 0, .int .u8 0, .int .u8 0, .int .u8 0, .int .u8 0, .int .u8 0, .int .u8 0, .int .u8 0, .int .u8 0, .int .u8 0, .int .u8 0, .int .u8 0, .int .u8 0, .int .u8 0, .int .u8 0, .int .u8 0, .int .u8 0, .int .u8 0, .int .u8 0, .int .i64 0] 237)=W:=⟨_,rfl⟩;have cu:Hid (Below w.heap.size w W):=aa (by rw[←hW];exact aO (Below.refl _ _));have HT0:Hid (dX W w.heap.size h c):=aa (by rw[←hW];exact heap_alloc2_old _ _ _);have fH:Hid (dX W (w.heap.size+1) (dL 32) 0):=aa (by rw[←hW,Lt];exact heap_alloc2_new _ _ _);have Ya:=aa (hS.out.below cu.out);have HW:=aa hW;clear hW;go_in
 go_upto_region 1 with(fail)
 rw[HW.out];clear HW;have qC:=aa ((Below.refl W.heap.size W).drew);have CL:=aa (HT0.out.below qC.out);have HRd:=aa (fH.out.below qC.out);have HSd:=aa (Ya.out.below qC.out);have HB3:=aa (ag cu.out qC.out);obtain⟨Wd,hWd⟩:∃u,W.drew=u:=⟨_,rfl⟩;refine bV (S:=fun w'=>w'.heap[w.heap.size]? = some (.cells (dK h c) 237 (0,0))) (E:= [7,8]) (by kernel_rfl) (CL.out) (fun hHeld=>?_);refine Cf 0 (.agg (dK h c)) rfl (ig 237 _ rfl w.heap.size rfl _ _ _ _ (fun _ h=>h) Tryz.underlying237 rfl (aT hl.out)) ?_;refine b_ 1 ?_;refine b_ 2 ?_;refine dh 3 fun K hK=>?_;go_simp
 try rw[hWd]
 rw[hWd]at qC CL HRd HSd HB3;refine(LU A l n cA hn (by omega) _ HSd).mono ?_;rintro e w4 ⟨cI,rfl,Tq,hb4⟩;refine hK.out _ _ ?_ (fun hHeld=>?_)
 · exact CL.out.below hb4
 clear hK K
 try simp only[qq]
 refine dh 4 fun K hK=>?_;go_simp;rw[show cI.val=(.agg #[.int .i64 cI.kind, .int .i64 cI.n, .slice cI.B cI.nb cI.cb, .slice cI.L cI.nl cI.cl]:Value)from rfl];refine(Bh h hl hb c hc0 hc1 s hs hr _ cI _ (aa Tq) hfi hle).mono ?_;rintro e w5 ⟨rfl,hb5⟩;have wE:=aa ((HRd.out.below hb4).below hb5);have l9:=aa (ag (ag HB3.out hb4) hb5);obtain⟨R,hR⟩:∃R,H_ h (bq s) (.lst (l.map .int))=R:=⟨_,rfl⟩;have hRl:R.length=32:=by rw[←hR];exact qg _ _ _
 have HN:Kp (H_ h (bq s) (.lst (l.map .int))=R):=⟨hR⟩;have fQ:=aa hRl;rw[hR,show Am R (c+1) 0 = .tuple #[.agg (dK R (c+1)), .int .i64 0]from rfl];refine hK.out _ _ ?_ (fun hHeld=>?_)
 · exact(CL.out.below hb4).below hb5
 clear hK K
 try simp only[qq]
 refine b_ 5 ?_;refine b_ 6 ?_;refine oz 7 fun K hK=>?_;rw[show(if Region.wanted _ _=true then _ else _:Prop)=_ from if_pos rfl];refine wp_store_row 237 _ _ rfl (w.heap.size+1) (dK R (c+1)) rfl rfl 237 _ wE.out (aT fQ.out) (gP rfl fQ.out) (eP _ _) ?_;refine hK.out _ _ ?_;clear hK K
 try simp only[qq]
 refine oz 8 fun K hK=>?_;go_simp;refine hK.out _ _ ?_;clear hK K
 try simp only[qq]
 refine gM ?_;have HRR:Hid (dX (w5.setRow (w.heap.size+1) (dK R (c+1))) (w.heap.size+1) R (c+1)):=aa wE.out.setRow;have gU:Below w.heap.size w (w5.setRow (w.heap.size+1) (dK R (c+1))):=aj l9.out (by omega);clear hR hRl hb4 hb5 Tq l9 wE hWd;go_wp2;exact bodyPost_ret (v:=Am R (c+1) 0) (dH (p:=6) (q:=7) (ty:=237) rfl _ _ ⟨w.heap.size+1,0,none⟩ _ _ rfl rfl (run_loadVar_row _ _ _ _ _ _ _ HRR.out Tryz.underlying237 rfl (aT fQ.out))) rfl ⟨by rw[HN.out],gU⟩
theorem Oj (h:List Int)(hl:Hid (h.length=32))(hb:Hid (aF h=true))(c:Int)(hc0:0≤c)(hc1:c<1000)(s:ByteArray)(hs:s.size≤1000)(hr:Hid (iQ (bq s)=true))(q:Int)(hq1:2≤q)(hq2:q<2305843009213693952)(w:World) :
  Calls Tryz.prog 231 #[.agg (dK h c), .string s, .int .i64 q] w (Rt w (Zq (U6 q h (bq s)) (c+1) (Dw q h (bq s)) 0)):=by
 have hs0:1≤s.size:=Ep hr.out;obtain⟨W,hW⟩:∃W,(w.alloc (.cells (dK h c) 237)).alloc (.cells #[.int .u8 0, .int .u8 0, .int .u8 0, .int .u8 0, .int .u8 0, .int .u8 0, .int .u8 0, .int .u8 0, .int .u8 0, .int .u8 0, .int .u8 0, .int .u8 0, .int .u8 0, .int .u8 0, .int .u8 0, .int .u8 0, .int .u8 0, .int .u8 0, .int .u8 0, .int .u8 0, .int .u8 0, .int .u8 0, .int .u8 0, .int .u8 0, .int .u8 0, .int .u8 0, .int .u8 0, .int .u8 0, .int .u8 0, .int .u8 0, .int .u8 0, .int .u8 0, .int .i64 0] 237)=W:=⟨_,rfl⟩;have cu:Hid (Below w.heap.size w W):=aa (by rw[←hW];exact aO (Below.refl _ _));have HT0:Hid (dX W w.heap.size h c):=aa (by rw[←hW];exact heap_alloc2_old _ _ _);have fH:Hid (dX W (w.heap.size+1) (dL 32) 0):=aa (by rw[←hW,Lt];exact heap_alloc2_new _ _ _);have HW:=aa hW;have hcn:¬(c=1000):=by omega
 have hqa:¬(q<2):=by omega
 have hqb:¬(2305843009213693952≤q):=by omega
 clear hW;go_in
 go_upto_region 1 with(fail)
 rw[HW.out];clear HW
 go_wp2_with ((with_reducible show wpList _ _ _ (⟨some 12,_,_,_,_,_⟩::_) _ _);refine wpList_load_row rfl 237 _ rfl w.heap.size rfl _ _ _ _ HT0.out Tryz.underlying237 rfl (aT hl.out) ?_)
 refine(ze h hl c hc0 (by omega) _).mono ?_;rintro e w1 ⟨rfl,hb1⟩;have HB1:=aa (ag cu.out hb1);have HT1:=aa (HT0.out.below hb1);have HR1:=aa (fH.out.below hb1);clear hb1 HT0 fH cu
 go_wp2_with fail
 refine(rE s hs true hr _).mono ?_;rintro e w2 ⟨rfl,rfl⟩;have hcnt:=HT1.out.count hl.out
 go_wp2_with ((with_reducible show wpList _ _ _ (⟨some 32,_,_,_,_,_⟩::_) _ _);refine wpList_load_row rfl 237 _ rfl w.heap.size rfl _ _ _ _ HT1.out Tryz.underlying237 rfl (aT hl.out) ?_)
 clear hcnt;refine(R7 h hl hb c s hs0 hs _).mono ?_;rintro e w2 ⟨cf,rfl,hcf,hb2⟩;have lX:Hid (fits 8 (.lst [.byt h, .byt (bq s)])):=aa (GU hl.out hb.out hs0 hs);have HLEN:Hid ((enc (.lst [.byt h, .byt (bq s)])).length≤16384):=aa (JD hl.out hs);have HT2:=aa (HT1.out.below hb2);have HR2:=aa (HR1.out.below hb2);have HB2:=aa (ag HB1.out hb2);have DL:=aa hcf;rw[show cf.val = .agg cf.cs from rfl];clear hb2 HT1 HR1 HB1 hcf
 go_wp2_with fail
 rw[show(Value.agg cf.cs)=cf.val from rfl];refine(xx 8 _ cf _ lX.out DL.out HLEN.out).mono ?_;rintro e w3 ⟨v3,rfl,ho3,hb3⟩;obtain⟨E,hE⟩:∃E,enc (.lst [.byt h, .byt (bq s)])=E:=⟨_,rfl⟩;have MZ:Hid (aF E=true):=aa (by rw[←hE];exact mI lX.out);have yz:Hid (0<E.length∧E.length≤16384):=aa (by rw[←hE];exact⟨qd _,HLEN.out⟩);rw[hE]at ho3;obtain⟨g3,pU,e3,hg3,-,-,Td⟩:=ho3.cells yz.out.1;obtain⟨n3,hn3⟩:∃n,E.length=n:=⟨_,rfl⟩;rw[hn3]at e3 yz;subst e3;have Yr:=aa hn3;have Ud:=aa Td;have HT3:=aa (HT2.out.below hb3);have HR3:=aa (HR2.out.below hb3);have HB3:=aa (ag HB2.out hb3);have J_:Kp (enc (.lst [.byt h, .byt (bq s)])=E):=⟨hE⟩;clear hE Td ho3 hb3 hn3 lX HLEN HT2 HR2 HB2 DL;rw[show cf.val = .agg cf.cs from rfl];obtain⟨he0,he1⟩:=yz.out
 go_wp2_with fail
 refine(mY FP (by decide) (by decide) g3 0 pU E n3 Yr he0 (by omega) MZ _ Ud).mono ?_;rintro e w4 ⟨rfl,hb4⟩;have MS:=aa (HT3.out.below hb4);have HR4:=aa (HR3.out.below hb4);have l5:=aa (ag HB3.out hb4);obtain⟨R,hR⟩:∃R,tagged (bq FP) E=R:=⟨_,rfl⟩;have hRl:R.length=32:=by rw[←hR];exact dR _ _
 have Fq:Hid (aF R=true):=aa (by rw[←hR];exact jJ _);have HN:Kp (chD h (bq s)=R):=⟨by rw[chD,J_.1];exact hR⟩;have fQ:=aa hRl;rw[hR];clear hb4 hR hRl HT3 HR3 HB3
 go_wp2_with fail
 refine(F5 R fQ Fq q (by omega) hq2 _).mono ?_;rintro e w6 ⟨rfl,hb6⟩;have CO:=aa (MS.out.below hb6);have QH:=aa (HR4.out.below hb6);have oM:=aa (ag l5.out hb6);obtain⟨n,hn⟩:∃n,Je q R=n:=⟨_,rfl⟩;have hn0:0≤n∧n<q:=by rw[←hn];exact Ab (by omega) 16
 obtain⟨hn1,hn2⟩:=hn0;have Rh:Kp (Dw q h (bq s)=n):=⟨by rw[Dw,HN.1];exact hn⟩;rw[hn];clear hb6 hn MS HR4 l5
 go_wp2_with ((with_reducible show wpList _ _ _ (⟨some 40,_,_,_,_,_⟩::_) _ _);refine wpList_load_row rfl 237 _ rfl w.heap.size rfl _ _ _ _ CO.out Tryz.underlying237 rfl (aT hl.out) ?_)
 refine(Bh h hl hb c hc0 hc1 s hs hr (.int n) ⟨1,n,none,0,0,none,0,0⟩ _ (aa (.int n _ rfl rfl rfl rfl)) (aa ⟨by omega,by omega⟩) (aa (by rw[og,List.length_cons,g_];decide))).mono ?_;rintro e w7 ⟨rfl,Fe⟩;have Yh:=aa (QH.out.below Fe);have vK:=aa (ag oM.out Fe);obtain⟨G,hG⟩:∃G,H_ h (bq s) (.int n)=G:=⟨_,rfl⟩;have MW:Hid (G.length=32):=aa (by rw[←hG];exact qg _ _ _);have HNG:Kp (U6 q h (bq s)=G):=⟨by rw[U6,Rh.1];exact hG⟩;rw[hG,show Am G (c+1) 0 = .tuple #[.agg (dK G (c+1)), .int .i64 0]from rfl];clear Fe hG QH oM CO
 go_upto_region 9 with((with_reducible show wpList _ _ _ (⟨none,_,_,_,_,_⟩::_) _ _);refine wpList_store_row rfl 237 _ _ rfl w7.heap.size (dK G (c+1)) rfl rfl _ _ (heap_alloc_new _ _) (aT MW.out) (gP (h:=dL 32) (c:=0) rfl MW.out) (eP _ _) ?_)
 rw[World.setRow_alloc_new]
 try simp only[Act.put]
 have HK8:Hid (dX (w7.alloc (.cells (dK G (c+1)) 237)) w7.heap.size G (c+1)):=aa (dX.new _ _ _);have Rf:=aa (Yh.out.below (af w7 (.cells (dK G (c+1)) 237)));have sK:=aa (ag vK.out (af w7 (.cells (dK G (c+1)) 237)));obtain⟨W8,UT⟩:∃u,w7.alloc (.cells (dK G (c+1)) 237)=u:=⟨_,rfl⟩;rw[UT]at HK8 Rf sK ⊢;clear UT Yh vK
 go_wp2_with (first
  | ((with_reducible show wpList _ _ _ (⟨some 47,_,_,_,_,_⟩::_) _ _);refine wpList_load_row rfl 237 _ rfl w7.heap.size rfl _ _ _ _ HK8.out Tryz.underlying237 rfl (aT MW.out) ?_)
  | ((with_reducible show wpList _ _ _ (⟨none,_,_,_,_,_⟩::_) _ _);refine wpList_store_row rfl 237 _ _ rfl (w.heap.size+1) (dK G (c+1)) rfl rfl _ _ Rf.out (aT MW.out) (gP rfl MW.out) (eP _ _) ?_))
 have HRR:Hid (dX (W8.setRow (w.heap.size+1) (dK G (c+1))) (w.heap.size+1) G (c+1)):=aa Rf.out.setRow;have gU:Below w.heap.size w (W8.setRow (w.heap.size+1) (dK G (c+1))):=aj sK.out (by omega);exact bodyPost_ret (v:=Zq G (c+1) n 0) (bH (p:=6) (q:=7) (r:=8) (ty:=237) rfl _ _ ⟨w.heap.size+1,0,none⟩ _ _ _ rfl rfl rfl (run_loadVar_row _ _ _ _ _ _ _ HRR.out Tryz.underlying237 rfl (aT MW.out))) rfl ⟨by rw[HNG.out,Rh.out],gU⟩
def RcI (W:World)(a:Nat)(h:List Int)(c:Int)(u:World):Prop:=dX u a h c∧Below W.heap.size W u
theorem RcI.step {W:World} {a:Nat} {h h':List Int} {c c':Int} {u u':World} (hI:RcI W a h c u)(hb:Below u.heap.size u u')(hWa:W.heap.size≤a):RcI W a h' c' (u'.setRow a (dK h' c')):=
 ⟨(hI.1.below hb).setRow,aj (ag hI.2 hb) hWa⟩
theorem xq (W:World)(a:Nat)(h:List Int)(hst:Hid (uZ h))(c:Int)(hc0:0≤c)(hc1:c<1000)(s:ByteArray)(hs:s.size≤1000)(hr:Hid (iQ (bq s)=true))(A:Option Addr)(l:List Int)(n cA:Nat)(hn:Hid (l.length=n))(hok:Hid (vR l))(u:World)(hS:Hid (Sl u A l)) :
  Calls Tryz.prog 230 #[.agg (dK h c), .string s, .slice A n cA] u fun e u'=>e = .returned (Am (jv h (bq s) l) (c+1) 0)∧Below u.heap.size u u':=
 Od h (aa hst.out.1) (aa hst.out.2) c hc0 hc1 s hs hr A l n cA hn (by rw[←hn.out];exact hok.out.1) u hS hok.out.fits hok.out.len
theorem I4 (P Q G:Int)(Y:Option Addr)(ys:List Int)(yn yc:Nat)(B:Option Addr)(rows:List Row)(bn bc:Nat)(A:Option Addr)(al:List Int)(na ca:Nat)(s:ByteArray)(hs:s.size≤1000)(hr:Hid (iQ (bq s)=true))
  (hyn:Hid (ys.length=yn)) (hbn:Hid (rows.length=bn)) (hna:Hid (al.length=na)) (yN:bn≤900) (OA:Hid (vR [P,Q,G])) (Oy:Hid (vR ys)) (OB:Hid (vR al)) (Oz:Hid (∀k,k<rows.length→vR (rows.getD k dI).xs))
  (UW:2≤Q) (UU:Q<2305843009213693952) (V:Int) (hV:Kp (BJ P Q G (bq s) ys rows al=V)) (w:World) (hY:Hid (Sl w Y ys)) (hB:Hid (Rw w B rows)) (hA:Hid (Sl w A al)) :
  Calls Tryz.prog 207 #[gv P Q G, .agg #[.slice Y yn yc, .slice B bn bc], .string s, .slice A na ca] w (Rt w (.int .i64 V)):=by
 obtain⟨W,hW⟩:∃W,(w.alloc (bg P Q G)).alloc (.cells #[.slice Y yn yc, .slice B bn bc] 189)=W:=⟨_,rfl⟩;have cu:Hid (Below w.heap.size w W):=aa (by rw[←hW];exact aO (Below.refl _ _));have YF:Hid (qz W w.heap.size P Q G):=aa (by rw[←hW];exact(bD w P Q G).below (af _ _));have Yg:Hid (rX W (w.heap.size+1) (.slice Y yn yc) (.slice B bn bc)):=aa (by rw[←hW];exact ek w _ _ _ _);have HYY:=aa (hY.out.below cu.out);have II:=aa (hB.out.below cu.out);have HAA:=aa (hA.out.below cu.out);have HW:=aa hW;clear hW hY hB hA;go_in
 go_upto_region 1 with(fail)
 rw[HW.out];clear HW
 go_wp2_with fail
 refine(N7 s hs (Ep hr.out) _).mono ?_;rintro e w1 ⟨rfl,hb1⟩;obtain⟨S0,hS0⟩:∃S,newL (bq s)=S:=⟨_,rfl⟩;have Lh:Hid (uZ S0):=aa (by rw[←hS0];exact NB _);have qW:Kp (Dw Q (jv (jf (jv (jv S0 (bq nW) [P,Q,G]) (bq OL) ys) rows) (bq fG) al) (bq sQ)=V):=⟨by rw[←hS0];exact hV.1⟩;rw[hS0];have IG:=aa Lh.out.1;have HB1:=aa hb1;clear hb1 hS0 hV
 go_upto_region 2 with((with_reducible show wpList _ _ _ (⟨none,_,_,_,_,_⟩::_) _ _);refine wpList_store_row rfl 237 _ _ rfl w1.heap.size (dK S0 0) rfl rfl _ _ (heap_alloc_new _ _) (aT IG.out) (gP (h:=dL 32) (c:=0) rfl IG.out) (eP _ _) ?_)
 rw[World.setRow_alloc_new]
 try simp only[Act.put]
 have hI2:RcI W w1.heap.size S0 0 (w1.alloc (.cells (dK S0 0) 237)):=⟨dX.new _ _ _,ag HB1.out (af _ _)⟩;obtain⟨W2,hW2⟩:∃u,w1.alloc (.cells (dK S0 0) 237)=u:=⟨_,rfl⟩;obtain⟨a,ha⟩:∃a,w1.heap.size=a:=⟨_,rfl⟩;have hWa:W.heap.size≤a:=by rw[←ha];exact HB1.out.size
 rw[hW2]at hI2 ⊢;rw[ha]at hI2 ⊢;have HI2:=aa hI2;clear hW2 hI2 ha HB1;have HT2:=aa HI2.out.1;obtain⟨c0,c1,c2⟩:=YF.out.below HI2.out.2
 go_wp2_with ((with_reducible show wpList _ _ _ (⟨some 17,_,_,_,_,_⟩::_) _ _);refine wpList_load_row rfl 237 _ rfl a rfl _ _ _ _ HT2.out Tryz.underlying237 rfl (aT IG.out) ?_)
 refine(xq W a S0 Lh 0 (by omega) (by omega) nW (by decide) Gt (some ⟨W2.heap.size,0,none⟩) [P,Q,G] 3 3 (aa rfl) OA _ (aa (iN (La W2 _ P Q G)))).mono ?_;rintro e w3 ⟨rfl,hb3⟩;obtain⟨S1,hS1⟩:∃S,jv S0 (bq nW) [P,Q,G]=S:=⟨_,rfl⟩;have HS1:Hid (uZ S1):=aa (by rw[←hS1];exact tH _ _ _);have qV:Kp (Dw Q (jv (jf (jv S1 (bq OL) ys) rows) (bq fG) al) (bq sQ)=V):=⟨by rw[←hS1];exact qW.1⟩;rw[hS1,show Am S1 (0+1) 0 = .tuple #[.agg (dK S1 1), .int .i64 0]from rfl];have Xa:=ag (af W2 (.cells #[.int .i64 P, .int .i64 Q, .int .i64 G] 3)) hb3;have HT3:=aa (HI2.out.1.below Xa);have Nc:=aa HS1.out.1;have HI3:=aa (HI2.out.step (h':=S1) (c':=1) Xa hWa);clear hb3 Xa hS1 qW c0 c1 c2 HI2 HT2
 go_upto_region 3 with((with_reducible show wpList _ _ _ (⟨none,_,_,_,_,_⟩::_) _ _);refine wpList_store_row rfl 237 _ _ rfl a (dK S1 1) rfl rfl _ _ HT3.out (aT Nc.out) (gP IG.out Nc.out) (eP _ _) ?_)
 obtain⟨W3,hW3⟩:∃u,w3.setRow a (dK S1 1)=u:=⟨_,rfl⟩;rw[hW3]at HI3 ⊢;clear hW3 HT3;have HT3:=aa HI3.out.1;obtain⟨d0,d1⟩:=Yg.out.below HI3.out.2
 go_wp2_with ((with_reducible show wpList _ _ _ (⟨some 29,_,_,_,_,_⟩::_) _ _);refine wpList_load_row rfl 237 _ rfl a rfl _ _ _ _ HT3.out Tryz.underlying237 rfl (aT Nc.out) ?_)
 refine(xq W a S1 HS1 1 (by omega) (by omega) OL (by decide) aag Y ys yn yc hyn Oy _ (aa (HYY.out.below HI3.out.2))).mono ?_;rintro e w4 ⟨rfl,hb4⟩;obtain⟨S2,hS2⟩:∃S,jv S1 (bq OL) ys=S:=⟨_,rfl⟩;have HS2:Hid (uZ S2):=aa (by rw[←hS2];exact tH _ _ _);have zN:Kp (Dw Q (jv (jf S2 rows) (bq fG) al) (bq sQ)=V):=⟨by rw[←hS2];exact qV.1⟩;rw[hS2,show Am S2 (1+1) 0 = .tuple #[.agg (dK S2 2), .int .i64 0]from rfl];have MS:=aa (HI3.out.1.below hb4);have HL2:=aa HS2.out.1;have HI4:=aa (HI3.out.step (h':=S2) (c':=2) hb4 hWa);clear hb4 hS2 qV d0 d1 HI3 HT3
 go_upto_region 4 with((with_reducible show wpList _ _ _ (⟨none,_,_,_,_,_⟩::_) _ _);refine wpList_store_row rfl 237 _ _ rfl a (dK S2 2) rfl rfl _ _ MS.out (aT HL2.out) (gP Nc.out HL2.out) (eP _ _) ?_)
 obtain⟨W4,hW4⟩:∃u,w4.setRow a (dK S2 2)=u:=⟨_,rfl⟩;rw[hW4]at HI4 ⊢;clear hW4 MS;obtain⟨S3,Xf⟩:∃S,jf S2 rows=S:=⟨_,rfl⟩;have HR3:Kp (jf S2 (rows.drop 0)=S3):=⟨Xf⟩;have zM:Kp (Dw Q (jv S3 (bq fG) al) (bq sQ)=V):=⟨by rw[←Xf];exact zN.1⟩;clear Xf zN
 go_wp2_with fail
 go_loopw [10] (fun i u=>∃(k:Nat) (S:List Int) (c:Int),k≤bn∧i = .int .i64 k∧Hid (c=2+(k:Int))∧Hid (uZ S)∧Kp (jf S (rows.drop k)=S3)∧Hid (RcI W a S c u)) (fun i _=>bn-(intOf i).toNat)
 case atStart=>exact⟨0,S2,2,by omega,rfl,aa (by simp),HS2,HR3,HI4⟩
 case round=>
  obtain⟨k,S,c,hk,rfl,HC,HS,HR,HI⟩:=hrel;have hcl:0≤c∧c<1000:=by have:=HC.out;omega
  obtain⟨hcl0,aaF⟩:=hcl;obtain⟨c2,hc2⟩:∃x,c+1=x:=⟨_,rfl⟩;have DL:Hid (c+1=c2):=aa hc2;clear hc2;obtain⟨d0,d1⟩:=Yg.out.below HI.out.2;have HL:=aa HS.out.1
  by_cases hlt:k<bn
  ·
   have hkl:k<rows.length:=by rw[hbn.out];exact hlt
   obtain⟨⟨b,o,hA,hi0⟩,hok⟩:=II.out.below HI.out.2 k hkl;subst hA;have QG:=Kp.mk ((zo (h:=S) hkl).symm.trans HR.1);have jy:=aa (Oz.out k hkl);obtain⟨R,hR⟩:∃R,rows.getD k dI=R:=⟨_,rfl⟩;rw[hR]at hi0 hok QG jy;obtain⟨p,rn,rc,xs⟩:=R;have HXL:=aa hok.1;have HX:=aa hok.2
   dsimp only[Row.val]at hi0 QG jy
   have HTk:=aa HI.out.1;clear hR hok hkl
   go_wp2_with fail
   have CL:=aa (HTk.out.below (Below.refl _ _).drew);have hS0:wr.drew.heap[a]? = some (.cells (dK S c) 237 (0,0))∧wr.drew.cell? ⟨w.heap.size+1,0,none⟩=some (.slice Y yn yc)∧wr.drew.cell? ⟨w.heap.size+1,1,none⟩=some (.slice (some ⟨b,o,none⟩) bn bc)∧wr.drew.cell? ⟨b,o+k,none⟩=some (.slice p rn rc):=⟨CL.out,d0,d1,hi0⟩;refine bV (S:=fun w'=>w'.heap[a]? = some (.cells (dK S c) 237 (0,0))∧w'.cell? ⟨w.heap.size+1,0,none⟩=some (.slice Y yn yc)∧w'.cell? ⟨w.heap.size+1,1,none⟩=some (.slice (some ⟨b,o,none⟩) bn bc)∧w'.cell? ⟨b,o+k,none⟩=some (.slice p rn rc)) (E:= [8,9,10]) (by kernel_rfl) (hS0) (fun hHeld=>?_);refine Cf 0 (.agg (dK S c)) rfl (ig 237 _ rfl a rfl _ _ _ _ (fun _ h=>h.1) Tryz.underlying237 rfl (aT HL.out)) ?_;refine b_ 1 ?_;refine b_ 2 ?_;refine b_ 3 ?_;refine b_ 4 ?_;refine b_ 5 ?_;refine dh 6 fun K hK=>?_;go_simp;refine(xq W a S HS c hcl0 aaF qa (by decide) Gu p xs rn rc HXL jy _ (aa (HX.out.below (Below.refl _ _).drew))).mono ?_;rintro e w6 ⟨rfl,hb6⟩;obtain⟨S',hS'⟩:∃S',jv S (bq qa) xs=S':=⟨_,rfl⟩;have Ze:Hid (uZ S'):=aa (by rw[←hS'];exact tH _ _ _);have HRR:Kp (jf S' (rows.drop (k+1))=S3):=⟨by rw[←hS'];exact QG.1⟩;rw[hS',DL.out,show Am S' c2 0 = .tuple #[.agg (dK S' c2), .int .i64 0]from rfl];have Zj:=aa Ze.out.1;have CO:=aa (CL.out.below hb6);have HW6:Hid (w6.cell? ⟨w.heap.size+1,0,none⟩=some (.slice Y yn yc)∧w6.cell? ⟨w.heap.size+1,1,none⟩=some (.slice (some ⟨b,o,none⟩) bn bc)∧w6.cell? ⟨b,o+k,none⟩=some (.slice p rn rc)):=aa ⟨cell_below hS0.2.1 hb6,cell_below hS0.2.2.1 hb6,cell_below hS0.2.2.2 hb6⟩
   replace hb6:=ag ((Below.refl wr.heap.size wr).drew) hb6
   clear hS';refine hK.out _ _ ?_ (fun hHeld=>?_)
   · exact⟨CO.out,HW6.out⟩
   clear hK K
   try simp only[qq]
   refine b_ 7 ?_;refine Fw (i1:=8) (i2:=9) (by kernel_rfl) (by simp) (by simp) rfl rfl (fun K hK=>?_) (fun K hK=>?_)
   ·
    go_simp;refine hK.out _ _ ?_;clear hK K
    try simp only[qq]
    refine Fw (i1:=9) (i2:=10) (by kernel_rfl) (by simp) (by simp) rfl rfl (fun K hK=>?_) (fun K hK=>?_)
    ·
     go_simp;refine hK.out _ _ ?_;clear hK K
     try simp only[qq]
     refine oz 10 fun K hK=>?_;rw[show(if Region.wanted _ _=true then _ else _:Prop)=_ from if_pos rfl];refine wp_store_row 237 _ _ rfl a (dK S' c2) rfl rfl 237 _ CO.out (aT Zj.out) (gP HL.out Zj.out) (eP _ _) ?_;refine hK.out _ _ ?_;clear hK K
     try simp only[qq]
     refine gM ?_;have ET:=aa (HI.out.step (h':=S') (c':=c2) hb6 hWa);obtain⟨W6,Jv⟩:∃u,w6.setRow a (dK S' c2)=u:=⟨_,rfl⟩;rw[Jv]at ET ⊢;have QY:Hid (c2=2+((k+1:Nat):Int)):=aa (by have:=HC.out;have:=DL.out;omega);clear hb6 Jv hS0 hi0 d0 d1 CO QG;go_wp2
     go_roundw
     case rel=>exact⟨k+1,S',c2,by omega,by go_num,QY,Ze,HRR,ET⟩
     case measure=>simp[intOf];omega
    ·
     rw[show(if Region.wanted _ _=true then _ else _:Prop)=_ from if_pos rfl];refine wp_store_row 237 _ _ rfl a (dK S' c2) rfl rfl 237 _ CO.out (aT Zj.out) (gP HL.out Zj.out) (eP _ _) ?_;refine hK.out _ _ ?_;clear hK K
     try simp only[qq]
     refine oz 9 fun K hK=>?_;go_simp;refine hK.out _ _ ?_;clear hK K
     try simp only[qq]
     refine gM ?_;have ET:=aa (HI.out.step (h':=S') (c':=c2) hb6 hWa);obtain⟨W6,Jv⟩:∃u,w6.setRow a (dK S' c2)=u:=⟨_,rfl⟩;rw[Jv]at ET ⊢;have QY:Hid (c2=2+((k+1:Nat):Int)):=aa (by have:=HC.out;have:=DL.out;omega);clear hb6 Jv hS0 hi0 d0 d1 CO QG;go_wp2
     go_roundw
     case rel=>exact⟨k+1,S',c2,by omega,by go_num,QY,Ze,HRR,ET⟩
     case measure=>simp[intOf];omega
   ·
    go_simp;refine hK.out _ _ ?_;clear hK K
    try simp only[qq]
    refine oz 8 fun K hK=>?_;go_simp;refine hK.out _ _ ?_;clear hK K
    try simp only[qq]
    refine oz 10 fun K hK=>?_;rw[show(if Region.wanted _ _=true then _ else _:Prop)=_ from if_pos rfl];refine wp_store_row 237 _ _ rfl a (dK S' c2) rfl rfl 237 _ CO.out (aT Zj.out) (gP HL.out Zj.out) (eP _ _) ?_;refine hK.out _ _ ?_;clear hK K
    try simp only[qq]
    refine gM ?_;have ET:=aa (HI.out.step (h':=S') (c':=c2) hb6 hWa);obtain⟨W6,Jv⟩:∃u,w6.setRow a (dK S' c2)=u:=⟨_,rfl⟩;rw[Jv]at ET ⊢;have QY:Hid (c2=2+((k+1:Nat):Int)):=aa (by have:=HC.out;have:=DL.out;omega);clear hb6 Jv hS0 hi0 d0 d1 CO QG;go_wp2
    go_roundw
    case rel=>exact⟨k+1,S',c2,by omega,by go_num,QY,Ze,HRR,ET⟩
    case measure=>simp[intOf];omega
  ·
   obtain rfl:k=bn:=by omega
   have hd:rows.drop k = []:=List.drop_of_length_le (by rw[hbn.out];exact Nat.le_refl _);have Vd:Kp (S=S3):=⟨by have h:=HR.1;rwa [hd]at h⟩;have wu:Kp (Dw Q (jv S (bq fG) al) (bq sQ)=V):=⟨by rw[Vd.1];exact zM.1⟩;clear hd HR Vd zM hlt;have HTk:=aa HI.out.1
   go_wp2_with ((with_reducible show wpList _ _ _ (⟨some 53,_,_,_,_,_⟩::_) _ _);refine wpList_load_row rfl 237 _ rfl a rfl _ _ _ _ HTk.out Tryz.underlying237 rfl (aT HL.out) ?_)
   refine(xq W a S HS c hcl0 aaF fG (by decide) Dj A al na ca hna OB _ (aa (HAA.out.below HI.out.2))).mono ?_;rintro e w6 ⟨rfl,hb6⟩;obtain⟨S4,Tn⟩:∃S',jv S (bq fG) al=S':=⟨_,rfl⟩;have Ap:Hid (uZ S4):=aa (by rw[←Tn];exact tH _ _ _);have HV5:Kp (Dw Q S4 (bq sQ)=V):=⟨by rw[←Tn];exact wu.1⟩;rw[Tn,DL.out,show Am S4 c2 0 = .tuple #[.agg (dK S4 c2), .int .i64 0]from rfl];have Yy:=aa Ap.out.1;have CO:=aa (HI.out.1.below hb6);have ET:=aa (HI.out.step (h':=S4) (c':=c2) hb6 hWa);clear hb6 Tn wu HI HTk d0 d1
   go_upto_region 9 with((with_reducible show wpList _ _ _ (⟨none,_,_,_,_,_⟩::_) _ _);refine wpList_store_row rfl 237 _ _ rfl a (dK S4 c2) rfl rfl _ _ CO.out (aT Yy.out) (gP HL.out Yy.out) (eP _ _) ?_)
   obtain⟨W6,Jv⟩:∃u,w6.setRow a (dK S4 c2)=u:=⟨_,rfl⟩;rw[Jv]at ET ⊢;clear Jv CO;obtain⟨g0,g1,g2⟩:=YF.out.below ET.out.2;have HT7:=aa ET.out.1
   go_wp2_with ((with_reducible show wpList _ _ _ (⟨some 59,_,_,_,_,_⟩::_) _ _);refine wpList_load_row rfl 237 _ rfl a rfl _ _ _ _ HT7.out Tryz.underlying237 rfl (aT Yy.out) ?_)
   refine(Oj S4 Yy (aa Ap.out.2) c2 (by have:=DL.out;omega) (by have:=HC.out;have:=DL.out;omega) sQ (by decide) UJ Q UW UU _).mono ?_;rintro e w7 ⟨rfl,Fe⟩;obtain⟨G4,hG4⟩:∃G4,U6 Q S4 (bq sQ)=G4:=⟨_,rfl⟩;have Uo:Hid (G4.length=32):=aa (by rw[←hG4];exact qg _ _ _);obtain⟨c3,hc3⟩:∃x,c2+1=x:=⟨_,rfl⟩;rw[hG4,HV5.1,hc3,show Zq G4 c3 V 0 = .tuple #[.agg (dK G4 c3), .int .i64 V, .int .i64 0]from rfl];clear hc3;have vK:=aa (ag cu.out (ag ET.out.2 Fe));clear Fe hG4 g0 g1 g2
   go_upto_region 10 with((with_reducible show wpList _ _ _ (⟨none,_,_,_,_,_⟩::_) _ _);refine wpList_store_row rfl 237 _ _ rfl w7.heap.size (dK G4 c3) rfl rfl _ _ (heap_alloc_new _ _) (aT Uo.out) (gP (h:=dL 32) (c:=0) rfl Uo.out) (eP _ _) ?_)
   rw[World.setRow_alloc_new]
   try simp only[Act.put]
   have hBF:=ag vK.out (af w7 (.cells (dK G4 c3) 237));go_wp2;go_ret;exact⟨rfl,hBF⟩
theorem aad (x y P:Int):(x%P)*y%P=x*y%P:=by rw[Int.mul_emod,Int.emod_emod,←Int.mul_emod]
theorem aac (x y P:Int):x*(y%P)%P=x*y%P:=by rw[Int.mul_emod,Int.emod_emod,←Int.mul_emod]
theorem Sb {P Q y n:Int} (hP:2≤P)(hQ:1≤Q)(hn0:0≤n)(hn1:n<Q)(hy:aN P Q y=true):pw y n P*pw y ((Q-n)%Q) P%P=1:=by
 have hyQ:pw y Q P=1:=rH hy;rw[←Oo hP hQ (by omega) hyQ,←I9 _ _ _ _ hn0 (by omega)];have e:n+(Q-n)=Q:=by omega
 rw[e,hyQ]
theorem ZV (P Q G:Int)(Y:Option Addr)(ys:List Int)(yn yc:Nat)(B:Option Addr)(rows:List Row)(bn bc:Nat)(A:Option Addr)(al:List Int)(na ca:Nat)(C:Int)(Z:Option Addr)(zs:List Int)(nz cz:Nat)(hyn:Hid (ys.length=yn))(hbn:Hid (rows.length=bn))(gy:Hid (al.length=na))(hzn:Hid (zs.length=nz))(hna:na<1000000)(hnz:nz<1000000)(hQ:Q<9223372036854775808)(mR:Hid (fM P Q G ys rows=false))(w:World)(hY:Hid (Sl w Y ys))(hB:Hid (Rw w B rows))(hA:Hid (Sl w A al))(hZ:Hid (Sl w Z zs)) :
  Calls Tryz.prog 205 #[gv P Q G,iY Y yn yc B bn bc,jL A na ca C Z nz cz] w (Rt w (.bool false)):=by
 obtain⟨w0,HW,ai,kC⟩:=qD (bg P Q G) fq (lK Y yn yc B bn bc) sG (fU A na ca C Z nz cz) rV w;have kY:=mkS ai hY;have kB:=fo (fun u=>Rw u B rows) ai hB (·.below);have kA:=mkS ai hA;have kZ:=mkS ai hZ;have ah:=bI w0;clear hY hB hA hZ;go_in
 go_wp2_with fail
 rw[HW.out];have hO:=kC;refine jq [] ah (fun hHeld=>?_);refine aL 0 ?_;refine aL 1 ?_;refine dh 2 fun K hK=>?_;go_simp
 (with_reducible refine(jK P Q G Y ys yn yc B rows bn bc false mR hyn hbn hQ _ ?_ ?_).mono ?_);(go_split_ands;exact kY.out _ (by assumption));(go_split_ands;exact kB.out _ (by assumption));rintro e wA ⟨rfl,bN⟩
 refine hK.out _ _ (bJ hHeld bN) (fun hHeld=>?_);clear hK K
 try simp only[qq]
 refine aL 3 ?_;refine aL 4 ?_;refine eO 5 6 7 8 ?_;refine lC 9 ?_;refine lC 10 ?_;refine lC 11 ?_;refine aL 12 ?_;refine aL 13 ?_;refine eO 14 15 16 17 ?_;refine lC 18 ?_;refine lC 19 ?_;refine aL 20 ?_;refine aL 21 ?_;refine eO 22 23 24 25 ?_;refine lC 26 ?_;refine aL 27 ?_;refine aL 28 ?_;refine eO 29 30 31 32 ?_;refine lC 33 ?_;refine lC 34 ?_;refine aL 35 ?_;refine gM ?_;have gU:=hHeld;have bT:=ag ai.out gU.out;go_wp2;go_ret;exact⟨rfl,bT⟩
theorem Z0 (P Q G:Int)(Y:Option Addr)(ys:List Int)(n yc:Nat)(B:Option Addr)(rows:List Row)(bc:Nat)(A:Option Addr)(al:List Int)(na ca:Nat)(C:Int)(Z:Option Addr)(zs:List Int)(nz cz:Nat)(mR:Hid (fM P Q G ys rows=true))(hyn:Hid (ys.length=n))(hbn:Hid (rows.length=n))(gy:Hid (al.length=na))(hzn:Hid (zs.length=nz))(hna:na<1000000)(hnz:nz<1000000)(hQ:Q<9223372036854775808)(hne:na≠n)(w:World)(hY:Hid (Sl w Y ys))(hB:Hid (Rw w B rows))(hA:Hid (Sl w A al))(hZ:Hid (Sl w Z zs)) :
  Calls Tryz.prog 205 #[gv P Q G,iY Y n yc B n bc,jL A na ca C Z nz cz] w (Rt w (.bool false)):=by
 obtain⟨v1,v2,v3,v4,v5,v6,v7,v8⟩:=bY mR.out;have hnp:0<n:=by rw[←hyn.out];omega
 obtain⟨nu,hnu⟩:∃k,iG rows=k:=⟨_,rfl⟩;have HN:=aa hnu;clear v1 v2 v3 v4 v5 v6 v7 v8 hnu;have e1:((na:Int) != (n:Int))=true:=by simp;omega
 obtain⟨w0,HW,ai,kC⟩:=qD (bg P Q G) fq (lK Y n yc B n bc) sG (fU A na ca C Z nz cz) rV w;have kY:=mkS ai hY;have kB:=fo (fun u=>Rw u B rows) ai hB (·.below);have kA:=mkS ai hA;have kZ:=mkS ai hZ;have ah:=bI w0;clear hY hB hA hZ;go_in
 go_wp2_with fail
 rw[HW.out];have hO:=kC;refine jq [] ah (fun hHeld=>?_);refine aL 0 ?_;refine aL 1 ?_;refine dh 2 fun K hK=>?_;go_simp
 (with_reducible refine(jK P Q G Y ys n yc B rows n bc true mR hyn hbn hQ _ ?_ ?_).mono ?_);(go_split_ands;exact kY.out _ (by assumption));(go_split_ands;exact kB.out _ (by assumption));rintro e wA ⟨rfl,bN⟩
 refine hK.out _ _ (bJ hHeld bN) (fun hHeld=>?_);clear hK K
 try simp only[qq]
 refine aP 3 4 5 6 ?_;refine aP 7 8 9 10 ?_;refine aL 11 ?_;refine aL 12 ?_;refine aL 13 ?_;refine eO 14 15 16 17 ?_;refine lC 18 ?_;refine lC 19 ?_;refine aL 20 ?_;refine aL 21 ?_;refine eO 22 23 24 25 ?_;refine lC 26 ?_;refine aL 27 ?_;refine aL 28 ?_;refine eO 29 30 31 32 ?_;refine lC 33 ?_;refine lC 34 ?_;refine aL 35 ?_;refine gM ?_;have gU:=hHeld;have bT:=ag ai.out gU.out;go_wp2;go_ret;exact⟨rfl,bT⟩
theorem ZZ (P Q G:Int)(Y:Option Addr)(ys:List Int)(n yc:Nat)(B:Option Addr)(rows:List Row)(bc:Nat)(A:Option Addr)(al:List Int)(na ca:Nat)(C:Int)(Z:Option Addr)(zs:List Int)(nz cz:Nat)(mR:Hid (fM P Q G ys rows=true))(hyn:Hid (ys.length=n))(hbn:Hid (rows.length=n))(gy:Hid (al.length=na))(hzn:Hid (zs.length=nz))(hna:na<1000000)(hnz:nz<1000000)(hQ:Q<9223372036854775808)(heq:na=n)(hne:nz≠iG rows)(w:World)(hY:Hid (Sl w Y ys))(hB:Hid (Rw w B rows))(hA:Hid (Sl w A al))(hZ:Hid (Sl w Z zs)) :
  Calls Tryz.prog 205 #[gv P Q G,iY Y n yc B n bc,jL A na ca C Z nz cz] w (Rt w (.bool false)):=by
 obtain⟨v1,v2,v3,v4,v5,v6,v7,v8⟩:=bY mR.out;have hnp:0<n:=by rw[←hyn.out];omega
 obtain⟨nu,hnu⟩:∃k,iG rows=k:=⟨_,rfl⟩;have HN:=aa hnu;clear v1 v2 v3 v4 v5 v6 v7 v8 hnu;have e1:((na:Int) != (n:Int))=false:=by simp;omega
 have e2:((nz:Int) != (nu:Int))=true:=by have:=HN.out;simp;omega
 clear heq hne;obtain⟨w0,HW,ai,kC⟩:=qD (bg P Q G) fq (lK Y n yc B n bc) sG (fU A na ca C Z nz cz) rV w;have kY:=mkS ai hY;have kB:=fo (fun u=>Rw u B rows) ai hB (·.below);have kA:=mkS ai hA;have kZ:=mkS ai hZ;have ah:=bI w0;clear hY hB hA hZ;go_in
 go_wp2_with fail
 rw[HW.out];have hO:=kC;refine jq [] ah (fun hHeld=>?_);refine aL 0 ?_;refine aL 1 ?_;refine dh 2 fun K hK=>?_;go_simp
 (with_reducible refine(jK P Q G Y ys n yc B rows n bc true mR hyn hbn hQ _ ?_ ?_).mono ?_);(go_split_ands;exact kY.out _ (by assumption));(go_split_ands;exact kB.out _ (by assumption));rintro e wA ⟨rfl,bN⟩
 refine hK.out _ _ (bJ hHeld bN) (fun hHeld=>?_);clear hK K
 try simp only[qq]
 refine aP 3 4 5 6 ?_;refine aP 7 8 9 10 ?_;refine aP 11 12 13 14 ?_;refine aL 15 ?_;refine aL 16 ?_;refine aL 17 ?_;refine dh 18 fun K hK=>?_;go_simp
 (with_reducible refine(iB Y n yc B rows n bc nu hbn hnp HN _ ?_).mono ?_);(go_split_ands;exact kB.out _ (by assumption));rintro e wA ⟨rfl,bN⟩
 refine hK.out _ _ (bJ hHeld bN) (fun hHeld=>?_);clear hK K
 try simp only[qq]
 refine aL 19 ?_;refine aL 20 ?_;refine aL 21 ?_;refine eO 22 23 24 25 ?_;refine lC 26 ?_;refine aL 27 ?_;refine aL 28 ?_;refine eO 29 30 31 32 ?_;refine lC 33 ?_;refine lC 34 ?_;refine aL 35 ?_;refine gM ?_;have gU:=hHeld;have bT:=ag ai.out gU.out;go_wp2;go_ret;exact⟨rfl,bT⟩
theorem ZY (P Q G:Int)(Y:Option Addr)(ys:List Int)(n yc:Nat)(B:Option Addr)(rows:List Row)(bc:Nat)(A:Option Addr)(al:List Int)(na ca:Nat)(C:Int)(Z:Option Addr)(zs:List Int)(nz cz:Nat)(mR:Hid (fM P Q G ys rows=true))(hyn:Hid (ys.length=n))(hbn:Hid (rows.length=n))(gy:Hid (al.length=na))(hzn:Hid (zs.length=nz))(hna:na<1000000)(hnz:nz<1000000)(hQ:Q<9223372036854775808)(heq:na=n)(heq2:nz=iG rows)(XO:Hid (zs.all (jc Q)=false))(w:World)(hY:Hid (Sl w Y ys))(hB:Hid (Rw w B rows))(hA:Hid (Sl w A al))(hZ:Hid (Sl w Z zs)) :
  Calls Tryz.prog 205 #[gv P Q G,iY Y n yc B n bc,jL A na ca C Z nz cz] w (Rt w (.bool false)):=by
 obtain⟨v1,v2,v3,v4,v5,v6,v7,v8⟩:=bY mR.out;have hnp:0<n:=by rw[←hyn.out];omega
 obtain⟨nu,hnu⟩:∃k,iG rows=k:=⟨_,rfl⟩;have HN:=aa hnu;clear v1 v2 v3 v4 v5 v6 v7 v8 hnu;have e1:((na:Int) != (n:Int))=false:=by simp;omega
 have e2:((nz:Int) != (nu:Int))=false:=by have:=HN.out;simp;omega
 clear heq heq2;obtain⟨w0,HW,ai,kC⟩:=qD (bg P Q G) fq (lK Y n yc B n bc) sG (fU A na ca C Z nz cz) rV w;have kY:=mkS ai hY;have kB:=fo (fun u=>Rw u B rows) ai hB (·.below);have kA:=mkS ai hA;have kZ:=mkS ai hZ;have ah:=bI w0;clear hY hB hA hZ;go_in
 go_wp2_with fail
 rw[HW.out];have hO:=kC;refine jq [] ah (fun hHeld=>?_);refine aL 0 ?_;refine aL 1 ?_;refine dh 2 fun K hK=>?_;go_simp
 (with_reducible refine(jK P Q G Y ys n yc B rows n bc true mR hyn hbn hQ _ ?_ ?_).mono ?_);(go_split_ands;exact kY.out _ (by assumption));(go_split_ands;exact kB.out _ (by assumption));rintro e wA ⟨rfl,bN⟩
 refine hK.out _ _ (bJ hHeld bN) (fun hHeld=>?_);clear hK K
 try simp only[qq]
 refine aP 3 4 5 6 ?_;refine aP 7 8 9 10 ?_;refine aP 11 12 13 14 ?_;refine aL 15 ?_;refine aL 16 ?_;refine aL 17 ?_;refine dh 18 fun K hK=>?_;go_simp
 (with_reducible refine(iB Y n yc B rows n bc nu hbn hnp HN _ ?_).mono ?_);(go_split_ands;exact kB.out _ (by assumption));rintro e wA ⟨rfl,bN⟩
 refine hK.out _ _ (bJ hHeld bN) (fun hHeld=>?_);clear hK K
 try simp only[qq]
 refine aP 19 20 21 22 ?_;refine aL 23 ?_;refine aL 24 ?_;refine dh 25 fun K hK=>?_;go_simp
 (with_reducible refine(lJ P Q G Z zs nz cz false XO hzn hnz _ ?_).mono ?_);(go_split_ands;exact kZ.out _ (by assumption));rintro e wA ⟨rfl,bN⟩
 refine hK.out _ _ (bJ hHeld bN) (fun hHeld=>?_);clear hK K
 try simp only[qq]
 refine aL 26 ?_;refine aL 27 ?_;refine aL 28 ?_;refine eO 29 30 31 32 ?_;refine lC 33 ?_;refine lC 34 ?_;refine aL 35 ?_;refine gM ?_;have gU:=hHeld;have bT:=ag ai.out gU.out;go_wp2;go_ret;exact⟨rfl,bT⟩
theorem ZX (P Q G:Int)(Y:Option Addr)(ys:List Int)(n yc:Nat)(B:Option Addr)(rows:List Row)(bc:Nat)(A:Option Addr)(al:List Int)(na ca:Nat)(C:Int)(Z:Option Addr)(zs:List Int)(nz cz:Nat)(mR:Hid (fM P Q G ys rows=true))(hyn:Hid (ys.length=n))(hbn:Hid (rows.length=n))(gy:Hid (al.length=na))(hzn:Hid (zs.length=nz))(hna:na<1000000)(hnz:nz<1000000)(hQ:Q<9223372036854775808)(heq:na=n)(heq2:nz=iG rows)(XO:Hid (zs.all (jc Q)=true))(hc:jc Q C=false)(w:World)(hY:Hid (Sl w Y ys))(hB:Hid (Rw w B rows))(hA:Hid (Sl w A al))(hZ:Hid (Sl w Z zs)) :
  Calls Tryz.prog 205 #[gv P Q G,iY Y n yc B n bc,jL A na ca C Z nz cz] w (Rt w (.bool false)):=by
 obtain⟨v1,v2,v3,v4,v5,v6,v7,v8⟩:=bY mR.out;have hnp:0<n:=by rw[←hyn.out];omega
 obtain⟨nu,hnu⟩:∃k,iG rows=k:=⟨_,rfl⟩;have HN:=aa hnu;clear v1 v2 v3 v4 v5 v6 v7 v8 hnu;have e1:((na:Int) != (n:Int))=false:=by simp;omega
 have e2:((nz:Int) != (nu:Int))=false:=by have:=HN.out;simp;omega
 have Uc:Hid ([C].all (jc Q)=false):=aa (by simpa using hc);clear heq heq2 hc;obtain⟨w0,HW,ai,kC⟩:=qD (bg P Q G) fq (lK Y n yc B n bc) sG (fU A na ca C Z nz cz) rV w;have kY:=mkS ai hY;have kB:=fo (fun u=>Rw u B rows) ai hB (·.below);have kA:=mkS ai hA;have kZ:=mkS ai hZ;have ah:=bI w0;clear hY hB hA hZ;go_in
 go_wp2_with fail
 rw[HW.out];have hO:=kC;refine jq [] ah (fun hHeld=>?_);refine aL 0 ?_;refine aL 1 ?_;refine dh 2 fun K hK=>?_;go_simp
 (with_reducible refine(jK P Q G Y ys n yc B rows n bc true mR hyn hbn hQ _ ?_ ?_).mono ?_);(go_split_ands;exact kY.out _ (by assumption));(go_split_ands;exact kB.out _ (by assumption));rintro e wA ⟨rfl,bN⟩
 refine hK.out _ _ (bJ hHeld bN) (fun hHeld=>?_);clear hK K
 try simp only[qq]
 refine aP 3 4 5 6 ?_;refine aP 7 8 9 10 ?_;refine aP 11 12 13 14 ?_;refine aL 15 ?_;refine aL 16 ?_;refine aL 17 ?_;refine dh 18 fun K hK=>?_;go_simp
 (with_reducible refine(iB Y n yc B rows n bc nu hbn hnp HN _ ?_).mono ?_);(go_split_ands;exact kB.out _ (by assumption));rintro e wA ⟨rfl,bN⟩
 refine hK.out _ _ (bJ hHeld bN) (fun hHeld=>?_);clear hK K
 try simp only[qq]
 refine aP 19 20 21 22 ?_;refine aL 23 ?_;refine aL 24 ?_;refine dh 25 fun K hK=>?_;go_simp
 (with_reducible refine(lJ P Q G Z zs nz cz true XO hzn hnz _ ?_).mono ?_);(go_split_ands;exact kZ.out _ (by assumption));rintro e wA ⟨rfl,bN⟩
 refine hK.out _ _ (bJ hHeld bN) (fun hHeld=>?_);clear hK K
 try simp only[qq]
 refine aP 26 27 28 29 ?_;refine aL 30 ?_;refine aL 31 ?_;refine dh 32 fun K hK=>?_;go_simp;refine hK.out _ _ (bJ hHeld (af _ _)) (fun hHeld=>?_);clear hK K
 try simp only[qq]
 refine dh 33 fun K hK=>?_;go_simp
 (with_reducible refine(lJ P Q G (some ⟨wA.heap.size,0,none⟩) [C] 1 1 false Uc (aa rfl) (by omega) _ (aa (iN (v_ wA _ C)))).mono ?_);rintro e wB ⟨rfl,bN⟩
 refine hK.out _ _ (bJ hHeld bN) (fun hHeld=>?_);clear hK K
 try simp only[qq]
 refine aL 34 ?_;refine aL 35 ?_;refine gM ?_;have gU:=hHeld;have bT:=ag ai.out gU.out;go_wp2;go_ret;exact⟨rfl,bT⟩
def qm (P Q C:Int)(ys:List Int)(rows:List Row)(al zs:List Int)(i:Nat):Bool:=aN P Q (al.getD i 0)&&(dU P 1 (rows.getD i dI).xs zs == al.getD i 0*pw (ys.getD i 0) C P%P)
theorem De {P Q:Int} (hP:2≤P)(hQ:1≤Q):∀(xs es:List Int) (acc:Int),aN P Q acc=true→xs.all (aN P Q)=true→es.all (jc Q)=true→aN P Q (dU P acc xs es)=true
 | [],es,acc,h,_,_=>by cases es <;> exact h
 | x::xs, [],acc,h,_,_=>h
 | x::xs,e::es,acc,h,h1,h2=>by
  simp only[List.all_cons,Bool.and_eq_true]at h1 h2
  exact De hP hQ xs es _ (Ad hP hQ h (yM hP hQ (tJ h2.1) h1.1)) h1.2 h2.2
theorem Hf {P Q G C:Int} {ys:List Int} {rows:List Row} {al zs:List Int} (hv:fM P Q G ys rows=true)(hl:al.length=rows.length)(hz:zs.length=iG rows)(hzs:zs.all (jc Q)=true)(hc:jc Q C=true) :
  iV P Q C ys rows al zs=true↔∀i,i<rows.length→qm P Q C ys rows al zs i=true:=by
 obtain⟨v1,v2,v3,v4,v5,v6,v7,v8⟩:=bY hv;obtain⟨hp2,hp,hq3,Dl⟩:=bW v1;have hC:0≤C∧C<Q:=by simp[jc]at hc;exact hc
 have key:∀i,i<rows.length→(qm P Q C ys rows al zs i=true↔A_ P Q C ys rows zs i=al.getD i 0):=by
  intro i hi;have hy:aN P Q (ys.getD i 0)=true:=ji v5 (by omega);have hr:=rD v8 hi
  simp only[oU,Bool.and_eq_true]at hr
  have hm:=De (P:=P) (Q:=Q) hp2 (by omega) (rows.getD i dI).xs zs 1 (Em hp2) hr.2 hzs;have hu:=Sb hp2 (by omega) hC.1 hC.2 hy;unfold qm A_;obtain⟨p,hpp⟩:∃p,dU P 1 (rows.getD i dI).xs zs=p:=⟨_,rfl⟩;obtain⟨u,hpu⟩:∃u,pw (ys.getD i 0) C P=u:=⟨_,rfl⟩;obtain⟨t,hpt⟩:∃t,pw (ys.getD i 0) ((Q-C)%Q) P=t:=⟨_,rfl⟩;obtain⟨a,ha⟩:∃a,al.getD i 0=a:=⟨_,rfl⟩;have hmt:aN P Q t=true:=by rw[←hpt];exact yM hp2 (by omega) (Int.emod_nonneg _ (by omega)) hy
  rw[hpu,hpt]at hu;rw[hpp]at hm ⊢;rw[hpu,hpt,ha];have p1:=gD hm;have p2:=gF hm
  constructor
  ·
   intro h
   simp only[Bool.and_eq_true,beq_iff_eq]at h
   have a1:=gD h.1;have a2:=gF h.1;rw[h.2,aad,Int.mul_assoc,←aac,hu,Int.mul_one];exact Int.emod_eq_of_lt (by omega) a2
  ·
   intro h;have hma:aN P Q a=true:=by rw[←h];exact Ad hp2 (by omega) hm hmt
   simp only[Bool.and_eq_true,beq_iff_eq]
   refine⟨hma, ?_⟩;rw[←h,aad,Int.mul_assoc,Int.mul_comm t u,←aac,hu,Int.mul_one];exact(Int.emod_eq_of_lt (by omega) p2).symm
 constructor
 ·
  intro h i hi;have hs:=(rT h).2.2.2.2;rw[key i hi,←hs,A8 hi]
 ·
  intro h
  have hs:yB P Q C ys rows zs=al:=by
   apply List.ext_getElem (by rw[iO,hl])
   intro i h1 h2;have e1:=(key i (by rw[iO]at h1;exact h1)).1 (h i (by rw[iO]at h1;exact h1));have e2:=A8 (P:=P) (Q:=Q) (c:=C) (ys:=ys) (zs:=zs) (rows:=rows) (show i<rows.length by rw[iO]at h1;exact h1);rw[List.getD_eq_getElem?_getD,List.getElem?_eq_getElem h1]at e2;rw[List.getD_eq_getElem?_getD,List.getElem?_eq_getElem h2]at e1
   simp only[Option.getD_some]at e1 e2
   rw[e2,e1]
  simp only[iV,Bool.and_eq_true,decide_eq_true_eq]
  exact⟨hl,hz,hc,hzs,by rw[hs];simp⟩
theorem ZW (P Q G:Int)(Y:Option Addr)(ys:List Int)(n yc:Nat)(B:Option Addr)(rows:List Row)(bc:Nat)(A:Option Addr)(al:List Int)(na ca:Nat)(C:Int)(Z:Option Addr)(zs:List Int)(nz cz:Nat)(mR:Hid (fM P Q G ys rows=true))(hyn:Hid (ys.length=n))(hbn:Hid (rows.length=n))(gy:Hid (al.length=na))(hzn:Hid (zs.length=nz))(hna:na<1000000)(hnz:nz<1000000)(hQ:Q<9223372036854775808)(heq:na=n)(heq2:nz=iG rows)(XO:Hid (zs.all (jc Q)=true))(hc:jc Q C=true)(r:Bool)(hr:Hid (iV P Q C ys rows al zs=r))(w:World)(hY:Hid (Sl w Y ys))(hB:Hid (Rw w B rows))(hA:Hid (Sl w A al))(hZ:Hid (Sl w Z zs)) :
  Calls Tryz.prog 205 #[gv P Q G,iY Y n yc B n bc,jL A na ca C Z nz cz] w (Rt w (.bool r)):=by
 have ab3:Hid (iV P Q C ys rows al zs=true↔∀i,i<rows.length→qm P Q C ys rows al zs i=true):=aa (Hf mR.out (by rw[gy.out,hbn.out,heq]) (by rw[hzn.out,heq2]) XO.out hc);have hC:0≤C∧C<Q:=by simp[jc]at hc;exact hc
 obtain⟨hC0,hC1⟩:=hC;obtain⟨v1,v2,v3,v4,v5,v6,v7,v8⟩:=bY mR.out;obtain⟨hp2,hp,hq3,Dl⟩:=bW v1;have HYM:=aa v5;have Fq:Hid (rows.all (oU P Q nz)=true):=aa (by rw[heq2];exact v8);have hn8:n≤8:=by rw[←hyn.out];exact v3
 clear v1 v2 v3 v4 v5 v6 v7 v8;obtain⟨v1,v2,v3,v4,v5,v6,v7,v8⟩:=bY mR.out;have hnp:0<n:=by rw[←hyn.out];omega
 obtain⟨nu,hnu⟩:∃k,iG rows=k:=⟨_,rfl⟩;have HN:=aa hnu;clear v1 v2 v3 v4 v5 v6 v7 v8 hnu;have e1:((na:Int) != (n:Int))=false:=by simp;omega
 have e2:((nz:Int) != (nu:Int))=false:=by have:=HN.out;simp;omega
 have Uc:Hid ([C].all (jc Q)=true):=aa (by simpa using hc);have YK:=aa heq;clear heq heq2 hc;obtain⟨w0,HW,ai,kC⟩:=qD (bg P Q G) fq (lK Y n yc B n bc) sG (fU A na ca C Z nz cz) rV w;have kY:=mkS ai hY;have kB:=fo (fun u=>Rw u B rows) ai hB (·.below);have kA:=mkS ai hA;have kZ:=mkS ai hZ;have ah:=bI w0;clear hY hB hA hZ;go_in
 go_wp2_with fail
 rw[HW.out]
 have hS:=aa (show ∀u1 u2:World,Hid (Below w0.heap.size w0 u1)→Below u1.heap.size u1 u2→(u2.cell? ⟨w.heap.size,0,none⟩=some (.int .i64 P)∧u2.cell? ⟨w.heap.size,1,none⟩=some (.int .i64 Q)∧u2.cell? ⟨w.heap.size,2,none⟩=some (.int .i64 G)∧u2.cell? ⟨w.heap.size+1,0,none⟩=some (.slice Y n yc)∧u2.cell? ⟨w.heap.size+1,1,none⟩=some (.slice B n bc)∧u2.cell? ⟨w.heap.size+2,0,none⟩=some (.slice A na ca)∧u2.cell? ⟨w.heap.size+2,1,none⟩=some (.int .i64 C)∧u2.cell? ⟨w.heap.size+2,2,none⟩=some (.slice Z nz cz)∧Hid (Below w0.heap.size w0 u2))from fun u1 u2 h1 h2=>by
  have h3:=aa (ag h1.out h2);obtain⟨y0,y1,y2,y3,y4,y5,y6,y7⟩:=kC.out _ h3
  exact⟨y0,y1,y2,y3,y4,y5,y6,y7,h3⟩)
 refine bV (S:=fun w'=>w'.cell? ⟨w.heap.size,0,none⟩=some (.int .i64 P)∧w'.cell? ⟨w.heap.size,1,none⟩=some (.int .i64 Q)∧w'.cell? ⟨w.heap.size,2,none⟩=some (.int .i64 G)∧w'.cell? ⟨w.heap.size+1,0,none⟩=some (.slice Y n yc)∧w'.cell? ⟨w.heap.size+1,1,none⟩=some (.slice B n bc)∧w'.cell? ⟨w.heap.size+2,0,none⟩=some (.slice A na ca)∧w'.cell? ⟨w.heap.size+2,1,none⟩=some (.int .i64 C)∧w'.cell? ⟨w.heap.size+2,2,none⟩=some (.slice Z nz cz)∧Hid (Below w0.heap.size w0 w')) (E:= []) (by kernel_rfl) (hS.out _ _ ah ((Below.refl _ _).drew)) (fun hHeld=>?_);refine b_ 0 ?_;refine b_ 1 ?_;refine dh 2 fun K hK=>?_;go_simp
 (with_reducible refine(jK P Q G Y ys n yc B rows n bc true mR hyn hbn hQ _ ?_ ?_).mono ?_);(go_split_ands;exact kY.out _ (by assumption));(go_split_ands;exact kB.out _ (by assumption));rintro e wA ⟨rfl,bN⟩
 refine hK.out _ _ ?_ (fun hHeld=>?_)
 · (go_split_ands;exact hS.out _ _ (by assumption) bN)
 clear hK K
 try simp only[qq]
 refine b_ 3 ?_;refine b_ 4 ?_;refine b_ 5 ?_;refine b_ 6 ?_;refine b_ 7 ?_;refine b_ 8 ?_;refine b_ 9 ?_;refine b_ 10 ?_;refine b_ 11 ?_;refine b_ 12 ?_;refine b_ 13 ?_;refine b_ 14 ?_;refine b_ 15 ?_;refine b_ 16 ?_;refine b_ 17 ?_;refine dh 18 fun K hK=>?_;go_simp
 (with_reducible refine(iB Y n yc B rows n bc nu hbn hnp HN _ ?_).mono ?_);(go_split_ands;exact kB.out _ (by assumption));rintro e wA ⟨rfl,bN⟩
 refine hK.out _ _ ?_ (fun hHeld=>?_)
 · (go_split_ands;exact hS.out _ _ (by assumption) bN)
 clear hK K
 try simp only[qq]
 refine b_ 19 ?_;refine b_ 20 ?_;refine b_ 21 ?_;refine b_ 22 ?_;refine b_ 23 ?_;refine b_ 24 ?_;refine dh 25 fun K hK=>?_;go_simp
 (with_reducible refine(lJ P Q G Z zs nz cz true XO hzn hnz _ ?_).mono ?_);(go_split_ands;exact kZ.out _ (by assumption));rintro e wA ⟨rfl,bN⟩
 refine hK.out _ _ ?_ (fun hHeld=>?_)
 · (go_split_ands;exact hS.out _ _ (by assumption) bN)
 clear hK K
 try simp only[qq]
 refine b_ 26 ?_;refine b_ 27 ?_;refine b_ 28 ?_;refine b_ 29 ?_;refine b_ 30 ?_;refine b_ 31 ?_;refine dh 32 fun K hK=>?_;go_simp;refine hK.out _ _ ?_ (fun hHeld=>?_)
 · (go_split_ands;exact hS.out _ _ (by assumption) (af _ _))
 clear hK K
 try simp only[qq]
 refine dh 33 fun K hK=>?_;go_simp
 (with_reducible refine(lJ P Q G (some ⟨wA.heap.size,0,none⟩) [C] 1 1 true Uc (aa rfl) (by omega) _ (aa (iN (v_ wA _ C)))).mono ?_);rintro e wB ⟨rfl,bN⟩
 refine hK.out _ _ ?_ (fun hHeld=>?_)
 · (go_split_ands;exact hS.out _ _ (by assumption) bN)
 clear hK K
 try simp only[qq]
 refine b_ 34 ?_;refine b_ 35 ?_;refine gM ?_;obtain⟨x0,x1,x2,x3,x4,x5,x6,x7,ax⟩:=hHeld
 go_wp2_with fail
 clear x0 x1 x2 x3 x4 x5 x6 x7 hS
 go_loopw [7] (fun i u=>∃k:Nat,k≤n∧i = .int .i64 k∧Hid (∀j,j<k→qm P Q C ys rows al zs j=true)∧Hid (Below w0.heap.size w0 u)) (fun i _=>n-(intOf i).toNat)
 case atStart=>exact⟨0,by omega,rfl,aa (fun j hj=>absurd hj (Nat.not_lt_zero _)),ax⟩
 case round=>
  obtain⟨k,hk,rfl,qY,aD⟩:=hrel;obtain⟨y0,y1,y2,y3,y4,y5,y6,y7⟩:=kC.out _ aD
  by_cases hlt:k<n
  ·
   have hka:k<al.length:=by have:=YK.out;have:=gy.out;omega
   have ail:k<na:=by have:=YK.out;omega
   have hky:k<ys.length:=by rw[hyn.out];exact hlt
   have hkr:k<rows.length:=by rw[hbn.out];exact hlt
   obtain⟨ba,oa,hAA,ia⟩:=(kA.out _ aD).out k hka;obtain⟨by',oy,hYY,iy⟩:=(kY.out _ aD).out k hky;obtain⟨⟨br,or',hBB,ir⟩,hok⟩:=(kB.out _ aD).out k hkr;subst hAA;subst hYY;subst hBB;have hrc:qm P Q C ys rows al zs k=(aN P Q (al.getD k 0)&&(dU P 1 (rows.getD k dI).xs zs == al.getD k 0*pw (ys.getD k 0) C P%P)):=rfl;have Jr:=ji HYM.out hky;have hrb:=rD Fq.out hkr
   have ab8:Hid (qm P Q C ys rows al zs k=false→r=false):=aa (fun h=>by
    rw[←hr.out]
    cases hcb:iV P Q C ys rows al zs with
    | false=>rfl
    | true=>
     have h2:=ab3.out.1 hcb k hkr;rw[h]at h2
     cases h2)
   have abU:Hid (qm P Q C ys rows al zs k=true→∀j,j<k+1→qm P Q C ys rows al zs j=true):=aa (fun h j hj=>by
    by_cases hjk:j=k
    · subst hjk;exact h
    · exact qY.out j (by omega))
   obtain⟨a,haa⟩:∃a,al.getD k 0=a:=⟨_,rfl⟩;obtain⟨y,hyy⟩:∃a,ys.getD k 0=a:=⟨_,rfl⟩;obtain⟨RR,hRR⟩:∃R,rows.getD k dI=R:=⟨_,rfl⟩;rw[haa]at ia hrc;rw[hyy]at iy hrc Jr;rw[hRR]at ir hok hrc hrb;obtain⟨p,rn,rc,xs⟩:=RR
   simp only[oU,Bool.and_eq_true,decide_eq_true_eq]at hrb
   obtain⟨hrn,hmx⟩:=hrb;subst hrn;have HXL:=aa hok.1;have HXS:Hid (Sl wr p xs):=aa hok.2;have HMX:=aa hmx
   dsimp only[Row.val]at ir hrc
   have HMY:=aa Jr
   have hs2:=aa (show ∀u1 u2:World,Hid (Below wr.heap.size wr u1)→Below u1.heap.size u1 u2→(u2.cell? ⟨w.heap.size,0,none⟩=some (.int .i64 P)∧u2.cell? ⟨w.heap.size,1,none⟩=some (.int .i64 Q)∧u2.cell? ⟨w.heap.size,2,none⟩=some (.int .i64 G)∧u2.cell? ⟨w.heap.size+1,0,none⟩=some (.slice (some ⟨by',oy,none⟩) n yc)∧u2.cell? ⟨w.heap.size+1,1,none⟩=some (.slice (some ⟨br,or',none⟩) n bc)∧u2.cell? ⟨w.heap.size+2,0,none⟩=some (.slice (some ⟨ba,oa,none⟩) na ca)∧u2.cell? ⟨w.heap.size+2,1,none⟩=some (.int .i64 C)∧u2.cell? ⟨w.heap.size+2,2,none⟩=some (.slice Z rn cz)∧u2.cell? ⟨ba,oa+k,none⟩=some (.int .i64 a)∧u2.cell? ⟨by',oy+k,none⟩=some (.int .i64 y)∧u2.cell? ⟨br,or'+k,none⟩=some (.slice p rn rc)∧Hid (Below wr.heap.size wr u2))from fun u1 u2 h1 h2=>by
    have h3:=ag h1.out h2
    exact⟨cell_below y0 h3,cell_below y1 h3,cell_below y2 h3,cell_below y3 h3,cell_below y4 h3,cell_below y5 h3,cell_below y6 h3,cell_below y7 h3,cell_below ia h3,cell_below iy h3,cell_below ir h3,aa h3⟩)
   have kX:=aa (show ∀u:World,Hid (Below wr.heap.size wr u)→Hid (Sl u p xs)from fun u h=>aa (HXS.out.below h.out));have kZ2:=aa (show ∀u:World,Hid (Below wr.heap.size wr u)→Hid (Sl u Z zs)from fun u h=>kZ.out _ (aa (ag aD.out h.out)));have af0:Hid (Below wr.heap.size wr wr):=aa (Below.refl _ _);have HRC:=aa hrc;clear haa hyy hRR hok hmx Jr hrc
   go_wp2_with fail
   clear y0 y1 y2 y3 y4 y5 y6 y7 ia iy ir;obtain⟨m,hm⟩:∃m,aN P Q a=m:=⟨_,rfl⟩;have HM:=aa hm;clear hm;refine bV (S:=fun w'=>w'.cell? ⟨w.heap.size,0,none⟩=some (.int .i64 P)∧w'.cell? ⟨w.heap.size,1,none⟩=some (.int .i64 Q)∧w'.cell? ⟨w.heap.size,2,none⟩=some (.int .i64 G)∧w'.cell? ⟨w.heap.size+1,0,none⟩=some (.slice (some ⟨by',oy,none⟩) n yc)∧w'.cell? ⟨w.heap.size+1,1,none⟩=some (.slice (some ⟨br,or',none⟩) n bc)∧w'.cell? ⟨w.heap.size+2,0,none⟩=some (.slice (some ⟨ba,oa,none⟩) na ca)∧w'.cell? ⟨w.heap.size+2,1,none⟩=some (.int .i64 C)∧w'.cell? ⟨w.heap.size+2,2,none⟩=some (.slice Z rn cz)∧w'.cell? ⟨ba,oa+k,none⟩=some (.int .i64 a)∧w'.cell? ⟨by',oy+k,none⟩=some (.int .i64 y)∧w'.cell? ⟨br,or'+k,none⟩=some (.slice p rn rc)∧Hid (Below wr.heap.size wr w')) (E:= []) (by kernel_rfl) (hs2.out _ _ af0 ((Below.refl _ _).drew)) (fun hHeld=>?_);refine b_ 0 ?_;refine b_ 1 ?_;refine b_ 2 ?_;refine b_ 3 ?_;refine b_ 4 ?_;refine b_ 5 ?_;refine dh 6 fun K hK=>?_;go_simp
   (with_reducible refine(aU P Q G a m HM hp (by omega) hQ _).mono ?_);rintro e wA ⟨rfl,bN⟩
   refine hK.out _ _ ?_ (fun hHeld=>?_)
   · exact hs2.out _ _ (hHeld.2.2.2.2.2.2.2.2.2.2.2) bN
   clear hK K
   try simp only[qq]
   refine b_ 7 ?_;refine gM ?_;obtain⟨x0,x1,x2,x3,x4,x5,x6,x7,x8,x9,Zw,oM⟩:=hHeld;clear x0 x1 x2 x3 x4 x5 x6 x7 x8 x9 Zw;have ad_:=oM.out
   cases hmc:m with
   | false=>
    obtain rfl:r=false:=ab8.out (by rw[HRC.out,HM.out,hmc];rfl);have bT:=ag ai.out (ag aD.out oM.out);go_wp2;go_ret;exact⟨rfl,bT⟩
   | true=>
    have hma:aN P Q a=true:=HM.out.trans hmc;have a1:=gD hma;have a2:=gF hma;have b1:=gD HMY.out;have b2:=gF HMY.out;obtain⟨u,hu⟩:∃u,pw y C P=u:=⟨_,rfl⟩;obtain⟨u0,u1⟩:0≤u∧u<P:=by rw[←hu];exact zg _ _ _ (by omega)
    obtain⟨v,hv'⟩:∃v,a*u%P=v:=⟨_,rfl⟩;obtain⟨q,hq'⟩:∃q,dU P 1 xs zs=q:=⟨_,rfl⟩;have HU:=aa hu;have HV:=aa hv';have HQ:=aa hq';have abP:Hid (qm P Q C ys rows al zs k=(q == v)):=aa (by rw[HRC.out,hma,hu,hv',hq',Bool.true_and]);clear hu hv' hq' hma ad_
    go_wp2_with fail
    refine bV (S:=fun w'=>w'.cell? ⟨w.heap.size,0,none⟩=some (.int .i64 P)∧w'.cell? ⟨w.heap.size,1,none⟩=some (.int .i64 Q)∧w'.cell? ⟨w.heap.size,2,none⟩=some (.int .i64 G)∧w'.cell? ⟨w.heap.size+1,0,none⟩=some (.slice (some ⟨by',oy,none⟩) n yc)∧w'.cell? ⟨w.heap.size+1,1,none⟩=some (.slice (some ⟨br,or',none⟩) n bc)∧w'.cell? ⟨w.heap.size+2,0,none⟩=some (.slice (some ⟨ba,oa,none⟩) na ca)∧w'.cell? ⟨w.heap.size+2,1,none⟩=some (.int .i64 C)∧w'.cell? ⟨w.heap.size+2,2,none⟩=some (.slice Z rn cz)∧w'.cell? ⟨ba,oa+k,none⟩=some (.int .i64 a)∧w'.cell? ⟨by',oy+k,none⟩=some (.int .i64 y)∧w'.cell? ⟨br,or'+k,none⟩=some (.slice p rn rc)∧Hid (Below wr.heap.size wr w')) (E:= []) (by kernel_rfl) (hs2.out _ _ oM ((Below.refl _ _).drew)) (fun hHeld=>?_);refine b_ 0 ?_;refine b_ 1 ?_;refine b_ 2 ?_;refine b_ 3 ?_;refine b_ 4 ?_;refine b_ 5 ?_;refine b_ 6 ?_;refine b_ 7 ?_;refine b_ 8 ?_;refine b_ 9 ?_;refine b_ 10 ?_;refine b_ 11 ?_;refine b_ 12 ?_;refine b_ 13 ?_;refine b_ 15 ?_;refine b_ 16 ?_;refine dh 14 fun K hK=>?_;go_simp
    (with_reducible refine(mZ y C P u HU (by omega) hp (by omega) b2 hC0 (by omega) _).mono ?_);rintro e wA ⟨rfl,rfl⟩
    refine hK.out _ _ ?_ (fun hHeld=>?_)
    · exact hs2.out _ _ (hHeld.2.2.2.2.2.2.2.2.2.2.2) (Below.refl _ _)
    clear hK K
    try simp only[qq]
    refine dh 17 fun K hK=>?_;go_simp
    (with_reducible refine(gV a u P v HV hp (by omega) a2 u0 u1 _).mono ?_);rintro e wA ⟨rfl,rfl⟩
    refine hK.out _ _ ?_ (fun hHeld=>?_)
    · exact hs2.out _ _ (hHeld.2.2.2.2.2.2.2.2.2.2.2) (Below.refl _ _)
    clear hK K
    try simp only[qq]
    refine b_ 18 ?_;refine gM ?_;obtain⟨x0,x1,x2,x3,x4,x5,x6,x7,x8,x9,Zw,sK⟩:=hHeld;clear x0 x1 x2 x3 x4 x5 x6 x7 x8 x9 Zw
    go_wp2_with fail
    refine bV (S:=fun w'=>w'.cell? ⟨w.heap.size,0,none⟩=some (.int .i64 P)∧w'.cell? ⟨w.heap.size,1,none⟩=some (.int .i64 Q)∧w'.cell? ⟨w.heap.size,2,none⟩=some (.int .i64 G)∧w'.cell? ⟨w.heap.size+1,0,none⟩=some (.slice (some ⟨by',oy,none⟩) n yc)∧w'.cell? ⟨w.heap.size+1,1,none⟩=some (.slice (some ⟨br,or',none⟩) n bc)∧w'.cell? ⟨w.heap.size+2,0,none⟩=some (.slice (some ⟨ba,oa,none⟩) na ca)∧w'.cell? ⟨w.heap.size+2,1,none⟩=some (.int .i64 C)∧w'.cell? ⟨w.heap.size+2,2,none⟩=some (.slice Z rn cz)∧w'.cell? ⟨ba,oa+k,none⟩=some (.int .i64 a)∧w'.cell? ⟨by',oy+k,none⟩=some (.int .i64 y)∧w'.cell? ⟨br,or'+k,none⟩=some (.slice p rn rc)∧Hid (Below wr.heap.size wr w')) (E:= []) (by kernel_rfl) (hs2.out _ _ sK ((Below.refl _ _).drew)) (fun hHeld=>?_);refine b_ 0 ?_;refine b_ 1 ?_;refine b_ 2 ?_;refine b_ 3 ?_;refine b_ 4 ?_;refine b_ 5 ?_;refine b_ 6 ?_;refine b_ 7 ?_;refine b_ 9 ?_;refine dh 8 fun K hK=>?_;go_simp
    (with_reducible refine(D7 P Q G p xs rn rc Z zs rn cz q HQ HXL hzn (Nat.le_refl _) (by omega) HMX XO hp2 hp hQ _ ?_ ?_).mono ?_);(exact kX.out _ (hHeld.2.2.2.2.2.2.2.2.2.2.2));(exact kZ2.out _ (hHeld.2.2.2.2.2.2.2.2.2.2.2));rintro e wA ⟨rfl,bN⟩
    refine hK.out _ _ ?_ (fun hHeld=>?_)
    · exact hs2.out _ _ (hHeld.2.2.2.2.2.2.2.2.2.2.2) bN
    clear hK K
    try simp only[qq]
    refine b_ 10 ?_;refine gM ?_;obtain⟨x0,x1,x2,x3,x4,x5,x6,x7,x8,x9,Zw,zT⟩:=hHeld;clear x0 x1 x2 x3 x4 x5 x6 x7 x8 x9 Zw
    cases YY:q == v with
    | false=>
     obtain rfl:r=false:=ab8.out (by rw[abP.out,YY]);have hne:(q != v)=true:=by simp only[bne,YY,Bool.not_false]
     have bT:=ag ai.out (ag aD.out zT.out);go_wp2;go_ret;exact⟨rfl,bT⟩
    | true=>
     have hne:(q != v)=false:=by simp only[bne,YY,Bool.not_true]
     have acu:=aa (abU.out (by rw[abP.out,YY]));have HBn:=aa (ag aD.out zT.out);go_wp2
     go_roundw
     case rel=>exact⟨k+1,by omega,by go_num,acu,HBn⟩
     case measure=>simp[intOf];omega
  ·
   obtain rfl:k=n:=by omega
   obtain rfl:r=true:=by
    rw[←hr.out];exact ab3.out.2 (fun i hi=>qY.out i (by rw[hbn.out]at hi;exact hi))
   have bT:=ag ai.out aD.out;go_wp2;go_ret;exact⟨rfl,bT⟩
theorem vO (P Q G:Int)(Y:Option Addr)(ys:List Int)(yn yc:Nat)(B:Option Addr)(rows:List Row)(bn bc:Nat)(A:Option Addr)(al:List Int)(na ca:Nat)(C:Int)(Z:Option Addr)(zs:List Int)(nz cz:Nat)(hyn:Hid (ys.length=yn))(hbn:Hid (rows.length=bn))(gy:Hid (al.length=na))(hzn:Hid (zs.length=nz))(hna:na<1000000)(hnz:nz<1000000)(hQ:Q<9223372036854775808)(r:Bool)(hr:Hid (uo P Q G C ys rows al zs=r))(w:World)(hY:Hid (Sl w Y ys))(hB:Hid (Rw w B rows))(hA:Hid (Sl w A al))(hZ:Hid (Sl w Z zs)) :
  Calls Tryz.prog 205 #[gv P Q G,iY Y yn yc B bn bc,jL A na ca C Z nz cz] w (Rt w (.bool r)):=by
 cases hg:fM P Q G ys rows with
 | false=>
  obtain rfl:r=false:=by rw[←hr.out,uo,hg];rfl
  exact ZV P Q G Y ys yn yc B rows bn bc A al na ca C Z zs nz cz hyn hbn gy hzn hna hnz hQ (aa hg) w hY hB hA hZ
 | true=>
  have he:bn=yn:=by rw[←hbn.out,←hyn.out];exact(bY hg).2.2.2.1
  subst he;have hr':iV P Q C ys rows al zs=r:=by rw[←hr.out,uo,hg];rfl
  by_cases h1:na=bn
  ·
   by_cases h2:nz=iG rows
   ·
    cases h3:zs.all (jc Q)with
    | false=>
     obtain rfl:r=false:=by rw[←hr'];unfold iV;rw[h3];simp
     exact ZY P Q G Y ys bn yc B rows bc A al na ca C Z zs nz cz (aa hg) hyn hbn gy hzn hna hnz hQ h1 h2 (aa h3) w hY hB hA hZ
    | true=>
     cases h4:jc Q C with
     | false=>
      obtain rfl:r=false:=by rw[←hr'];unfold iV;rw[h4];simp
      exact ZX P Q G Y ys bn yc B rows bc A al na ca C Z zs nz cz (aa hg) hyn hbn gy hzn hna hnz hQ h1 h2 (aa h3) h4 w hY hB hA hZ
     | true=>exact ZW P Q G Y ys bn yc B rows bc A al na ca C Z zs nz cz (aa hg) hyn hbn gy hzn hna hnz hQ h1 h2 (aa h3) h4 r (aa hr') w hY hB hA hZ
   ·
    obtain rfl:r=false:=by rw[←hr'];unfold iV;rw[hzn.out,decide_eq_false h2];simp
    exact ZZ P Q G Y ys bn yc B rows bc A al na ca C Z zs nz cz (aa hg) hyn hbn gy hzn hna hnz hQ h1 h2 w hY hB hA hZ
  ·
   obtain rfl:r=false:=by rw[←hr'];unfold iV;rw[gy.out,hbn.out,decide_eq_false h1];simp
   exact Z0 P Q G Y ys bn yc B rows bc A al na ca C Z zs nz cz (aa hg) hyn hbn gy hzn hna hnz hQ h1 w hY hB hA hZ
theorem VG (P Q G:Int)(Y:Option Addr)(ys:List Int)(yn yc:Nat)(B:Option Addr)(rows:List Row)(bn bc:Nat)(A:Option Addr)(al:List Int)(na ca:Nat)(C:Int)(Z:Option Addr)(zs:List Int)(nz cz:Nat)(hyn:Hid (ys.length=yn))(hbn:Hid (rows.length=bn))(gy:Hid (al.length=na))(hzn:Hid (zs.length=nz))(hna:na<1000000)(hnz:nz<1000000)(hQ:Q<9223372036854775808)(s:ByteArray)(hs:s.size≤1000)(HC:Hid (uo P Q G C ys rows al zs=false))(w:World)(hY:Hid (Sl w Y ys))(hB:Hid (Rw w B rows))(hA:Hid (Sl w A al))(hZ:Hid (Sl w Z zs)) :
  Calls Tryz.prog 173 #[gv P Q G,iY Y yn yc B bn bc, .string s,jL A na ca C Z nz cz] w (Rt w (.bool false)):=by
 obtain⟨w0,HW,ai,kC⟩:=qD (bg P Q G) fq (lK Y yn yc B bn bc) sG (fU A na ca C Z nz cz) rV w;have kY:=mkS ai hY;have kB:=fo (fun u=>Rw u B rows) ai hB (·.below);have kA:=mkS ai hA;have kZ:=mkS ai hZ;have ah:=bI w0;clear hY hB hA hZ;go_in
 go_wp2_with fail
 rw[HW.out];have hO:=kC;refine jq [] ah (fun hHeld=>?_);refine aL 0 ?_;refine aL 1 ?_;refine aL 2 ?_;refine dh 3 fun K hK=>?_;go_simp
 (with_reducible refine(vO P Q G Y ys yn yc B rows bn bc A al na ca C Z zs nz cz hyn hbn gy hzn hna hnz hQ false HC _ ?_ ?_ ?_ ?_).mono ?_);(go_split_ands;exact kY.out _ (by assumption));(go_split_ands;exact kB.out _ (by assumption));(go_split_ands;exact kA.out _ (by assumption));(go_split_ands;exact kZ.out _ (by assumption));rintro e wA ⟨rfl,bN⟩
 refine hK.out _ _ (bJ hHeld bN) (fun hHeld=>?_);clear hK K
 try simp only[qq]
 refine aL 4 ?_;refine lC 5 ?_;refine lC 6 ?_;refine aL 7 ?_;refine aL 8 ?_;refine eO 9 10 11 12 ?_;refine eO 13 14 15 16 ?_;refine lC 17 ?_;refine aL 18 ?_;refine aL 19 ?_;refine gM ?_;have gU:=hHeld;have bT:=ag ai.out gU.out;go_wp2;go_ret;exact⟨rfl,bT⟩
theorem VF (P Q G:Int)(Y:Option Addr)(ys:List Int)(yn yc:Nat)(B:Option Addr)(rows:List Row)(bn bc:Nat)(A:Option Addr)(al:List Int)(na ca:Nat)(C:Int)(Z:Option Addr)(zs:List Int)(nz cz:Nat)(hyn:Hid (ys.length=yn))(hbn:Hid (rows.length=bn))(gy:Hid (al.length=na))(hzn:Hid (zs.length=nz))(hna:na<1000000)(hnz:nz<1000000)(hQ:Q<9223372036854775808)(s:ByteArray)(hs:s.size≤1000)(HC:Hid (uo P Q G C ys rows al zs=true))(hr:Hid (iQ (bq s)=false))(w:World)(hY:Hid (Sl w Y ys))(hB:Hid (Rw w B rows))(hA:Hid (Sl w A al))(hZ:Hid (Sl w Z zs)) :
  Calls Tryz.prog 173 #[gv P Q G,iY Y yn yc B bn bc, .string s,jL A na ca C Z nz cz] w (Rt w (.bool false)):=by
 obtain⟨w0,HW,ai,kC⟩:=qD (bg P Q G) fq (lK Y yn yc B bn bc) sG (fU A na ca C Z nz cz) rV w;have kY:=mkS ai hY;have kB:=fo (fun u=>Rw u B rows) ai hB (·.below);have kA:=mkS ai hA;have kZ:=mkS ai hZ;have ah:=bI w0;clear hY hB hA hZ;go_in
 go_wp2_with fail
 rw[HW.out];have hO:=kC;refine jq [] ah (fun hHeld=>?_);refine aL 0 ?_;refine aL 1 ?_;refine aL 2 ?_;refine dh 3 fun K hK=>?_;go_simp
 (with_reducible refine(vO P Q G Y ys yn yc B rows bn bc A al na ca C Z zs nz cz hyn hbn gy hzn hna hnz hQ true HC _ ?_ ?_ ?_ ?_).mono ?_);(go_split_ands;exact kY.out _ (by assumption));(go_split_ands;exact kB.out _ (by assumption));(go_split_ands;exact kA.out _ (by assumption));(go_split_ands;exact kZ.out _ (by assumption));rintro e wA ⟨rfl,bN⟩
 refine hK.out _ _ (bJ hHeld bN) (fun hHeld=>?_);clear hK K
 try simp only[qq]
 refine aL 4 ?_;refine aL 5 ?_;refine dh 6 fun K hK=>?_;go_simp
 (with_reducible refine(rE s hs false hr _).mono ?_);rintro e wB ⟨rfl,rfl⟩
 refine hK.out _ _ hHeld (fun hHeld=>?_);clear hK K
 try simp only[qq]
 refine aL 7 ?_;refine aL 8 ?_;refine eO 9 10 11 12 ?_;refine eO 13 14 15 16 ?_;refine lC 17 ?_;refine aL 18 ?_;refine aL 19 ?_;refine gM ?_;have gU:=hHeld;have bT:=ag ai.out gU.out;go_wp2;go_ret;exact⟨rfl,bT⟩
theorem VE (P Q G:Int)(Y:Option Addr)(ys:List Int)(yn yc:Nat)(B:Option Addr)(rows:List Row)(bn bc:Nat)(A:Option Addr)(al:List Int)(na ca:Nat)(C:Int)(Z:Option Addr)(zs:List Int)(nz cz:Nat)(hyn:Hid (ys.length=yn))(hbn:Hid (rows.length=bn))(gy:Hid (al.length=na))(hzn:Hid (zs.length=nz))(hna:na<1000000)(hnz:nz<1000000)(hQ:Q<9223372036854775808)(s:ByteArray)(hs:s.size≤1000)(HC:Hid (uo P Q G C ys rows al zs=true))(hr:Hid (iQ (bq s)=true))(yN:bn≤900)(OA:Hid (vR [P,Q,G]))(Oy:Hid (vR ys))(OB:Hid (vR al))(Oz:Hid (∀k,k<rows.length→vR (rows.getD k dI).xs))(UW:2≤Q)(UU:Q<2305843009213693952)(V:Int)(HV:Kp (BJ P Q G (bq s) ys rows al=V))(w:World)(hY:Hid (Sl w Y ys))(hB:Hid (Rw w B rows))(hA:Hid (Sl w A al))(hZ:Hid (Sl w Z zs)) :
  Calls Tryz.prog 173 #[gv P Q G,iY Y yn yc B bn bc, .string s,jL A na ca C Z nz cz] w (Rt w (.bool (C == V))):=by
 obtain⟨w0,HW,ai,kC⟩:=qD (bg P Q G) fq (lK Y yn yc B bn bc) sG (fU A na ca C Z nz cz) rV w;have kY:=mkS ai hY;have kB:=fo (fun u=>Rw u B rows) ai hB (·.below);have kA:=mkS ai hA;have kZ:=mkS ai hZ;have ah:=bI w0;clear hY hB hA hZ;go_in
 go_wp2_with fail
 rw[HW.out];have hO:=kC;refine jq [] ah (fun hHeld=>?_);refine aL 0 ?_;refine aL 1 ?_;refine aL 2 ?_;refine dh 3 fun K hK=>?_;go_simp
 (with_reducible refine(vO P Q G Y ys yn yc B rows bn bc A al na ca C Z zs nz cz hyn hbn gy hzn hna hnz hQ true HC _ ?_ ?_ ?_ ?_).mono ?_);(go_split_ands;exact kY.out _ (by assumption));(go_split_ands;exact kB.out _ (by assumption));(go_split_ands;exact kA.out _ (by assumption));(go_split_ands;exact kZ.out _ (by assumption));rintro e wA ⟨rfl,bN⟩
 refine hK.out _ _ (bJ hHeld bN) (fun hHeld=>?_);clear hK K
 try simp only[qq]
 refine aL 4 ?_;refine aL 5 ?_;refine dh 6 fun K hK=>?_;go_simp
 (with_reducible refine(rE s hs true hr _).mono ?_);rintro e wB ⟨rfl,rfl⟩
 refine hK.out _ _ hHeld (fun hHeld=>?_);clear hK K
 try simp only[qq]
 refine aP 7 8 9 10 ?_;refine aP 11 12 13 14 ?_;refine aL 15 ?_;refine dh 16 fun K hK=>?_;go_simp
 (with_reducible refine(I4 P Q G Y ys yn yc B rows bn bc A al na ca s hs hr hyn hbn gy yN OA Oy OB Oz UW UU V HV _ ?_ ?_ ?_).mono ?_);(go_split_ands;exact kY.out _ (by assumption));(go_split_ands;exact kB.out _ (by assumption));(go_split_ands;exact kA.out _ (by assumption));rintro e wA ⟨rfl,bN⟩
 refine hK.out _ _ (bJ hHeld bN) (fun hHeld=>?_);clear hK K
 try simp only[qq]
 refine aL 17 ?_;refine aL 18 ?_;refine aL 19 ?_;refine gM ?_;have gU:=hHeld;have bT:=ag ai.out gU.out;go_wp2;go_ret;exact⟨rfl,bT⟩
theorem NN (P Q G:Int)(Y:Option Addr)(ys:List Int)(yn yc:Nat)(B:Option Addr)(rows:List Row)(bn bc:Nat)(A:Option Addr)(al:List Int)(na ca:Nat)(C:Int)(Z:Option Addr)(zs:List Int)(nz cz:Nat)(hyn:Hid (ys.length=yn))(hbn:Hid (rows.length=bn))(gy:Hid (al.length=na))(hzn:Hid (zs.length=nz))(hna:na<1000000)(hnz:nz<1000000)(hQ:Q<9223372036854775808)(s:ByteArray)(hs:s.size≤1000)(r:Bool)(hr:Kp (yA P Q G C (bq s) ys rows al zs=r))(w:World)(hY:Hid (Sl w Y ys))(hB:Hid (Rw w B rows))(hA:Hid (Sl w A al))(hZ:Hid (Sl w Z zs)) :
  Calls Tryz.prog 173 #[gv P Q G,iY Y yn yc B bn bc, .string s,jL A na ca C Z nz cz] w (Rt w (.bool r)):=by
 cases hc:uo P Q G C ys rows al zs with
 | false=>
  obtain rfl:r=false:=by rw[←hr.1,yA,hc];rfl
  exact VG P Q G Y ys yn yc B rows bn bc A al na ca C Z zs nz cz hyn hbn gy hzn hna hnz hQ s hs (aa hc) w hY hB hA hZ
 | true=>
  have hcc:=hc
  simp only[uo,Bool.and_eq_true]at hcc
  obtain⟨hg,hcb⟩:=hcc;obtain⟨v1,v2,v3,v4,v5,v6,v7,v8⟩:=bY hg;obtain⟨p1,p2,p3,p4⟩:=bW v1;obtain⟨OA,Oy,Oz⟩:=Fz hg hB.out;have yN:bn≤900:=by rw[←hbn.out];omega
  have OB:vR al:=by rw[←(rT hcb).2.2.2.2];exact FW p1 p2 (by omega)
  cases hlb:iQ (bq s)with
  | false=>
   obtain rfl:r=false:=by rw[←hr.1,yA,hlb,Bool.false_and,Bool.and_false]
   exact VF P Q G Y ys yn yc B rows bn bc A al na ca C Z zs nz cz hyn hbn gy hzn hna hnz hQ s hs (aa hc) (aa hlb) w hY hB hA hZ
  | true=>
   obtain⟨V,hV⟩:∃V,BJ P Q G (bq s) ys rows al=V:=⟨_,rfl⟩
   obtain rfl:(C == V)=r:=by
    rw[←hr.1,yA,hc,hlb,hV,Bool.true_and,Bool.true_and,Bool.eq_iff_iff]
    simp only[beq_iff_eq]
    exact eq_comm
   exact VE P Q G Y ys yn yc B rows bn bc A al na ca C Z zs nz cz hyn hbn gy hzn hna hnz hQ s hs (aa hc) (aa hlb) yN (aa OA) (aa Oy) (aa OB) (aa Oz) (by omega) (by omega) V ⟨hV⟩ w hY hB hA hZ
end Go.Proofs.YtchcllcbknfikaaGreatDoor