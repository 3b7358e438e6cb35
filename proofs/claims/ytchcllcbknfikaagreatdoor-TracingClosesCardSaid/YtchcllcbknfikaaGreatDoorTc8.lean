/- Contracts and lemmas: TlE, TlF, OpTl, TlG, TlB, TlI. -/
import Derived.Laws.StructEq
import Derived.Deep.MidRow
import Derived.Test.YtchcllcbknfikaaGreatDoorTc7
set_option linter.unusedVariables false
set_option linter.unusedSimpArgs false
set_option maxRecDepth 100000
set_option maxHeartbeats 25600000
namespace Go.Proofs.YtchcllcbknfikaaGreatDoor
open Go.RowKit sH
def wY:ByteArray:=⟨#[115,112,101,99,105,101,47,116,114,97,105,108]⟩
def Ck (h:List Int)(o:aG):It:= .lst [.byt h,xJ o]
def zI (h:List Int)(o:aG):List Int:=tagged (bq wY) (enc (Ck h o))
theorem xL (h:List Int)(o:aG):(zI h o).length=32:=dR _ _
theorem aae (h:List Int)(o:aG):aF (zI h o)=true:=jJ _
theorem PL {h:List Int} {o:aG} (hl:h.length=32)(hb:aF h=true)(hi:dD o)(hs:fE o):fits 8 (Ck h o):=by
 refine⟨by simp,fun x hx=>?_⟩
 simp only[List.mem_cons,List.not_mem_nil,or_false]at hx
 rcases hx with rfl | rfl
 · exact⟨⟨by omega,by omega⟩,hb⟩
 · exact qN (JF hi hs) (by decide)
theorem U0 {h:List Int} {o:aG} (hl:h.length=32)(hs:fE o):(enc (Ck h o)).length≤16384:=by
 have h1:=UZ hs;rw[Ck,fV]
 simp only[List.length_cons,List.length_append,eX,qQ,jh,List.length_nil,show(gz []).length=0 from rfl,hl]
 omega
theorem FN (tg:ByteArray)(ht1:1≤tg.size)(ht2:tg.size≤100)(i:It)(c:Ic)(lX:Hid (fits 8 i))(HLEN:Hid ((enc i).length≤16384))(w:World)(hv:Hid (bB w))(hi:Hid (pV w i c)) :
  Calls Tryz.prog 140 #[.string tg, .agg #[.int .i64 c.kind, .int .i64 c.n, .slice c.B c.nb c.cb, .slice c.L c.nl c.cl]] w (Rt w (.agg (arr .u8 (tagged (bq tg) (enc i))))):=by
 obtain⟨RR,hRR⟩:∃R,tagged (bq tg) (enc i)=R:=⟨_,rfl⟩;rw[hRR];have QF:Kp (tagged (bq tg) (enc i)=RR):=⟨hRR⟩;have fQ:Hid (RR.length=32):=aa (by rw[←hRR];exact dR _ _);clear hRR;obtain⟨W,hW⟩:∃W,(w.alloc (.cells #[.int .i64 c.kind, .int .i64 c.n, .slice c.B c.nb c.cb, .slice c.L c.nl c.cl] 117)).alloc (.cells z32 41)=W:=⟨_,rfl⟩;have cu:Hid (Below w.heap.size w W):=aa (by rw[←hW];exact aO (Below.refl _ _));have YJ:Hid (W.heap[w.heap.size]? = some (.cells #[.int .i64 c.kind, .int .i64 c.n, .slice c.B c.nb c.cb, .slice c.L c.nl c.cl] 117)):=aa (by rw[←hW];exact heap_alloc2_old _ _ _);have fH:Hid (bS .u8 41 W (w.heap.size+1) (dL 32)):=aa (by rw[←hW,jR];exact heap_alloc2_new _ _ _);have HV:=aa (hv.out.below cu.out);have HI:=aa (hi.out.kept cu.out);have HW:=aa hW;have c0:=au YJ.out 0;have c1:=au YJ.out 1;have c2:=au YJ.out 2;have c3:=au YJ.out 3;clear hW hv hi;go_in
 go_upto_region 1 with(fail)
 rw[HW.out]
 go_wp2_with fail
 refine(vZ i c _ lX.out HI.out HLEN.out).mono ?_;rintro e w4 ⟨v4,rfl,Cz,hb4⟩;obtain⟨E,hE⟩:∃E,enc i=E:=⟨_,rfl⟩;have MZ:Hid (aF E=true):=aa (by rw[←hE];exact mI lX.out);have yz:Hid (0<E.length∧E.length≤16384):=aa (by rw[←hE];exact⟨qd _,HLEN.out⟩);rw[hE]at Cz;obtain⟨g4,cap4,e4,hg4,-,-,t_⟩:=Cz.cells yz.out.1;obtain⟨n4,Pk⟩:∃n,E.length=n:=⟨_,rfl⟩;rw[Pk]at e4 yz;subst e4;have QJ:=aa Pk;have Ap:=aa t_;have l5:=aa hb4;have J_:Kp (enc i=E):=⟨hE⟩;clear hE t_ Cz hb4 Pk c0 c1 c2 c3;obtain⟨he0,he1⟩:=yz.out
 go_wp2_with fail
 refine(rz tg ht1 ht2 g4 0 cap4 E n4 QJ he0 (by omega) MZ _ Ap (aa (HV.out.below l5.out))).mono ?_;rintro e w5 ⟨rfl,hb5⟩;have l9:=aa (ag l5.out hb5);rw[←J_.1,QF.1,show nO RR = .tuple #[.agg (arr .u8 RR), .int .i64 0]from rfl];clear hb5 Ap l5;have wE:Hid (bS .u8 41 w5 (w.heap.size+1) (dL 32)):=aa (fH.out.below l9.out);have HA5:Hid (bS .u8 41 (w5.alloc (.cells z32 41)) w5.heap.size (dL 32)):=aa (by rw[jR];exact bS.new _ _);have HA6:Hid (bS .u8 41 ((w5.alloc (.cells z32 41)).setRow w5.heap.size (arr .u8 RR)) w5.heap.size RR):=aa HA5.out.setRow;have QH:Hid (bS .u8 41 ((w5.alloc (.cells z32 41)).setRow w5.heap.size (arr .u8 RR)) (w.heap.size+1) (dL 32)):=aa ((wE.out.old _).setRow_ne (by have:=wE.out.lt;omega))
 go_wp2_with (first
  | ((with_reducible show wpList _ _ _ (⟨none,Op.store _ (Operand.tmp 7) _,_,_,_,_⟩::_) _ _);refine wpList_store_row rfl 41 _ _ rfl w5.heap.size (arr .u8 RR) rfl rfl _ _ HA5.out (aH fQ.out) (fu (l:=dL 32) rfl fQ.out) (dG _) ?_)
  | ((with_reducible show wpList _ _ _ (⟨some 20,_,_,_,_,_⟩::_) _ _);refine wpList_load_row rfl 41 _ rfl w5.heap.size rfl _ _ _ _ HA6.out Tryz.underlying41 rfl (aH fQ.out) ?_)
  | ((with_reducible show wpList _ _ _ (⟨none,Op.store _ (Operand.tmp 4) _,_,_,_,_⟩::_) _ _);refine wpList_store_row rfl 41 _ _ rfl (w.heap.size+1) (arr .u8 RR) rfl rfl _ _ QH.out (aH fQ.out) (fu (l:=dL 32) rfl fQ.out) (dG _) ?_))
 have HRR:=QH.out.setRow (l':=RR);have gU:=aj (aj (ag cu.out (ag l9.out (af w5 (.cells z32 41)))) (b:=w5.heap.size) (by have:=(ag cu.out l9.out).size;omega) (cs:=arr .u8 RR)) (b:=w.heap.size+1) (Nat.le_succ _) (cs:=arr .u8 RR);exact bodyPost_ret (v:= .agg (arr .u8 RR)) (aK (p:=4) (ty:=41) rfl _ _ ⟨w.heap.size+1,0,none⟩ _ rfl (run_loadVar_row _ _ _ _ _ _ _ HRR Tryz.underlying41 rfl (aH fQ.out))) rfl ⟨rfl,gU⟩
theorem Gq (h:List Int)(hl:Hid (h.length=32))(hb:Hid (aF h=true))(o:aG)(hi:Hid (dD o))(hs:fE o)(w:World)(hv:Hid (bB w))(ho:Hid (dM w o)) :
  Calls Tryz.prog 88 #[.agg (arr .u8 h),zD o] w (Rt w (.agg (arr .u8 (zI h o)))):=by
 obtain⟨RR,hRR⟩:∃R,tagged (bq wY) (enc (Ck h o))=R:=⟨_,rfl⟩;rw[show zI h o=tagged (bq wY) (enc (Ck h o))from rfl,hRR];have HRR:Kp (tagged (bq wY) (enc (Ck h o))=RR):=⟨hRR⟩;have fQ:Hid (RR.length=32):=aa (by rw[←hRR];exact dR _ _);have lX:Hid (fits 8 (Ck h o)):=aa (PL hl.out hb.out hi.out hs);have HLEN:Hid ((enc (Ck h o)).length≤16384):=aa (U0 hl.out hs);clear hRR;obtain⟨w0,HW,ai,kC⟩:=qD (.cells (arr .u8 h) 41) bp0 (l6 o) bp9 (.cells z32 41) sZ w;have kO:=fo (fun u=>dM u o) ai ho (·.below);have kD:=oF ai hv;have kHB:=aa (show ∀u:World,Hid (Below w0.heap.size w0 u)→Hid (bS .u8 41 u w.heap.size h)from fun u h9=>aa (bS.below (by rw[←HW.out];exact((bS.new w h).old _).old _) h9.out));have nZ:=aa (show ∀u:World,Hid (Below w0.heap.size w0 u)→Hid (bS .u8 41 u (w.heap.size+2) (dL 32))from fun u h9=>aa (bS.below (by rw[←HW.out,jR];exact iZ _ _ _ _) h9.out));have ah:=bI w0;clear ho hv;go_in
 go_upto_region 1 with(fail)
 rw[HW.out];have zc:=kC.out _ ah;have lV:Hid (w0.heap.size=w.heap.size+3):=aa (by rw[←HW.out];simp);clear zc;have hO:=kC;have pJ:=bJ (aa ah.out) (Below.refl _ _).drew;refine uG (fun u=>Below w0.heap.size w0 u) [7] pJ (fun hHeld=>?_);obtain⟨wD,pq⟩:∃u,w0.drew=u:=⟨_,rfl⟩;rw[pq]at pJ hHeld ⊢;have BV:Hid (w0.heap.size≤wD.heap.size):=aa (by rw[←pq];exact Nat.le_refl _);clear pq;refine aL 0 ?_;refine aL 2 ?_;have FB:=pJ;refine dh 1 fun K hK=>?_;go_simp;refine(zW (some ⟨w.heap.size,0,none⟩) 32 32 _).mono ?_;rintro e u1 ⟨rfl,hq⟩;have aX:=bJ FB hq;refine hK.out _ _ aX (fun hHeld=>?_);clear hK K hHeld;have FB:=aX;clear aX
 try simp only[qq,Ic.val,Ic.cs,aR,aQ]
 refine dh 3 fun K hK=>?_;go_simp;refine(OW o hs _ (kO.out _ (aa FB.out))).mono ?_;rintro e u2 ⟨cO,rfl,hit,hq⟩;have aX:=bJ FB hq;refine hK.out _ _ aX (fun hHeld=>?_);clear hK K hHeld;have HO:=(aa (hit.mono (by have:=FB.out.size;omega)));have FB:=aX;clear aX
 try simp only[qq,Ic.val,Ic.cs,aR,aQ]
 obtain⟨u3,hw,HQ,-,-,-⟩:=pO (.cells #[.int .i64 2, .int .i64 0, .slice (some ⟨w.heap.size,0,none⟩) 32 32, .slice none 0 0, .int .i64 cO.kind, .int .i64 cO.n, .slice cO.B cO.nb cO.cb, .slice cO.L cO.nl cO.cl] 117) sZ u2;have pI:=aa hw;clear hw;refine dh 4 fun K hK=>?_;go_simp;rw[pI.out];have aX:=bJ FB HQ.out;refine hK.out _ _ aX (fun hHeld=>?_);clear hK K hHeld;have HO:=aa (HO.out.kept HQ.out);have FL:Hid (u3.heap[(u2.heap.size)]? = some (.cells #[.int .i64 2, .int .i64 0, .slice (some ⟨w.heap.size,0,none⟩) 32 32, .slice none 0 0, .int .i64 cO.kind, .int .i64 cO.n, .slice cO.B cO.nb cO.cb, .slice cO.L cO.nl cO.cl] 117)):=by rw[←pI.out];exact(aa (heap_alloc_new u2 _))
 have nJ:Hid (w0.heap.size≤(u2.heap.size)):=(aa (by have:=FB.out.size;omega));obtain⟨gL,hg⟩:∃x,u2.heap.size=x:=⟨_,rfl⟩;rw[hg]at FL nJ ⊢;clear hg;have FB:=aX;clear aX pI HQ
 try simp only[qq,Ic.val,Ic.cs,aR,aQ]
 refine dh 5 fun K hK=>?_;go_simp;refine(xM (some ⟨gL,0,none⟩) 2 2 _).mono ?_;rintro e u4 ⟨rfl,hq⟩;have aX:=bJ FB hq;refine hK.out _ _ aX (fun hHeld=>?_);clear hK K hHeld;have HO:=aa (HO.out.kept hq);have FL:=aa (bQ FL.out hq);have nJ:=nJ;have FB:=aX;clear aX
 try simp only[qq,Ic.val,Ic.cs,aR,aQ]
 refine dh 6 fun K hK=>?_;go_simp
 have hit:pV u4 (Ck h o) (Ic.mk 3 0 none 0 0 (some ⟨gL,0,none⟩) 2 2):=xN (fun k=>match k with | 0=>aQ (some ⟨w.heap.size,0,none⟩) 32 32 | _=>cO) FL.out rfl (fun k hk=>by
   rcases (show k=0∨k=1 by omega)with rfl | rfl <;> exact⟨rfl,rfl,rfl,rfl⟩) (fun k hk=>by
   rcases (show k=0∨k=1 by omega)with rfl | rfl
   · exact kr (kHB.out _ (aa FB.out)).out.sk hl.out
   · exact HO.out.it)
 refine(FN wY (by decide) (by decide) (Ck h o) (Ic.mk 3 0 none 0 0 (some ⟨gL,0,none⟩) 2 2) lX HLEN _ (kD.out _ (aa FB.out)) (aa hit)).mono ?_;rintro e u ⟨rfl,hq⟩;clear hit;rw[HRR.1];have aX:=bJ FB hq;refine hK.out _ _ aX (fun hHeld=>?_);clear hK K hHeld;have HO:=aa (HO.out.kept hq);have FL:=aa (bQ FL.out hq);have nJ:=nJ;have FB:=aX;clear aX
 try simp only[qq,Ic.val,Ic.cs,aR,aQ]
 have hHeld:=FB;have hT:=trivial;have ha0:=trivial;have vJ:=FB;have qZ:=nZ.out _ (aa FB.out);refine oz 7 fun K hK=>?_;rw[show(if Region.wanted _ _=true then _ else _:Prop)=_ from if_pos rfl];refine wp_store_row 41 _ _ rfl (w.heap.size+2) (arr .u8 RR) rfl rfl 41 _ qZ.out (aH fQ.out) (fu (l:=dL 32) rfl fQ.out) (dG _) ?_;refine hK.out _ _ ?_;clear hK K
 try simp only[qq]
 refine gM ?_;have bT:=aj (ag ai.out FB.out) (cs:=arr .u8 RR) (Nat.le_add_right w.heap.size 2);have hrw:=qZ.out.setRow (l':=RR);go_wp2;exact bodyPost_ret (v:= .agg (arr .u8 RR)) (aK (p:=4) (ty:=41) rfl _ _ ⟨w.heap.size+2,0,none⟩ _ rfl (run_loadVar_row _ _ _ _ _ _ _ hrw Tryz.underlying41 rfl (aH fQ.out))) rfl ⟨rfl,bT⟩
def hsL (hs:List (List Int))(k:Nat):List Int:=hs.getD k []
def Hs (w:World)(K:Option Addr)(hs:List (List Int)):Prop:=∀k,k<hs.length→∃b o,K=some ⟨b,o,none⟩∧(hsL hs k).length=32∧w.rangeAt b (o+k*32) ((hsL hs k).map (Value.int .u8))
theorem fF {w w':World} {b o:Nat} {cs:List Value} (h:w.rangeAt b o cs)(hb:Below w.heap.size w w'):w'.rangeAt b o cs:=fun j v hj=>cell_below (h j v hj) hb
theorem Hs.below {w w':World} {K:Option Addr} {hs:List (List Int)} (h:Hs w K hs)(hb:Below w.heap.size w w'):Hs w' K hs:=fun k hk=>by
 obtain⟨b,o,h1,h2,h3⟩:=h k hk;exact⟨b,o,h1,h2,fF h3 hb⟩
abbrev iA (O:Option Addr)(n c:Nat)(K:Option Addr)(m d:Nat):Value:= .agg #[.slice O n c, .slice K m d]
abbrev jC (O:Option Addr)(n c:Nat)(K:Option Addr)(m d:Nat):Obj:= .cells #[.slice O n c, .slice K m d] 52
def bz (os:List aG)(k:Nat):aG:=os.getD k dN
def hbL (os:List aG):Nat→List Int
 | 0=>dL 32
 | k+1=>if (bz os k).key=0 then hbL os k else zI (hbL os k) (bz os k)
def zn (os:List aG):Nat→Nat
 | 0=>0
 | k+1=>zn os k+(if (bz os k).key=0 then 0 else 1)
def DU (os:List aG)(hs:List (List Int))(n k:Nat):Bool:=Cw (bz os k)&&((bz os k).num == (k:Int))&&((bz os k).key != 0 || decide (k+1=n))&&((bz os k).key == 0 || (decide (k<hs.length)&&(hsL hs k == hbL os (k+1))))
def zV (os:List aG)(hs:List (List Int))(n:Nat):Nat→Bool
 | 0=>true
 | k+1=>zV os hs n k&&DU os hs n k
def gJ (os:List aG)(hs:List (List Int)):Bool:=decide (os.length≤100)&&(zV os hs os.length os.length&&(zn os os.length == hs.length))
theorem lN (os:List aG):∀k,(hbL os k).length=32
 | 0=>by simp[hbL,dL]
 | k+1=>by
  rw[hbL];split
  · exact lN os k
  · exact xL _ _
theorem Zt (n:Nat):aF (dL n)=true:=by
 simp[aF,dL]
theorem uf (os:List aG):∀k,aF (hbL os k)=true
 | 0=>Zt 32
 | k+1=>by
  rw[hbL];split
  · exact uf os k
  · exact aae _ _
theorem AU {os:List aG} {hs:List (List Int)} {n k:Nat} (h:zV os hs n k=false):∀j,k≤j→zV os hs n j=false
  | 0, hm => by obtain rfl : k = 0 := by omega
                exact h
  | j+1,hm=>by
    by_cases e:k=j+1
    · rw[←e];exact h
    · rw[zV,AU h j (by omega)];rfl
theorem mM {os:List aG} {hs:List (List Int)} {n k:Nat} (hn:os.length=n)(hk:k<n)(h:DU os hs n k=false):gJ os hs=false:=by
 have h1:zV os hs n n=false:=AU (k:=k+1) (by rw[zV,h,Bool.and_false]) n (by omega);rw[gJ,hn,h1,Bool.false_and,Bool.and_false]
theorem iI {os:List aG} {hs:List (List Int)} {n:Nat} :∀ {k:Nat},zV os hs n k=true→∀j,j<k→DU os hs n j=true
 | 0,_,j,hj=>absurd hj (by omega)
 | k+1,h,j,hj=>by
  simp only[zV,Bool.and_eq_true]at h
  by_cases e:j=k
  · subst e;exact h.2
  · exact iI h.1 j (by omega)
theorem fD {os:List aG} {hs:List (List Int)} {n k:Nat} (h:DU os hs n k=true):Cw (bz os k)=true∧(bz os k).num=(k:Int)∧((bz os k).key=0→k+1=n)∧((bz os k).key≠0→k<hs.length∧hsL hs k=hbL os (k+1)):=by
 simp only[DU,Bool.and_eq_true,Bool.or_eq_true,beq_iff_eq,bne_iff_ne,decide_eq_true_eq]at h
 obtain⟨⟨⟨h1,h2⟩,h3⟩,h4⟩:=h;exact⟨h1,h2,fun e=>h3.resolve_left (fun h=>h e),fun e=>h4.resolve_left e⟩
theorem K6 {os:List aG} {hs:List (List Int)} {n:Nat} :∀ {k:Nat},zV os hs n k=true→k<n→zn os k=k
 | 0,_,_=>rfl
 | k+1,h,hk=>by
  have h1:=fD (iI h k (by omega));have h2:(bz os k).key≠0:=fun e=>by have:=h1.2.2.1 e;omega
  simp only[zV,Bool.and_eq_true]at h
  rw[zn,if_neg h2,K6 h.1 (by omega)]
theorem Gb {ps:List aS} :∀ {n:Nat},mo ps n=true→∀k,k<n→xA ps k=true
 | 0,_,k,hk=>absurd hk (by omega)
 | n+1,h,k,hk=>by
  simp only[mo,Bool.and_eq_true]at h
  by_cases e:k=n
  · subst e;exact h.2
  · exact Gb h.1 k (by omega)
theorem jM {w:World} {o:aG} (h:Cw o=true)(hk:dM w o):fE o:=by
 simp only[Cw,LK,wO,Bool.and_eq_true,decide_eq_true_eq]at h
 obtain⟨-,-,⟨r0,r1⟩,⟨a,z⟩,np,-,hp⟩:=h;obtain⟨k1,k2,⟨k3,-⟩,-,-,k6⟩:=hk;refine⟨by omega,by omega,by omega,fun p hpm=>?_,r0,r1⟩;obtain⟨j,hj,rfl⟩:=List.getElem_of_mem hpm;have h1:=Gb hp j (by omega);obtain⟨b,f,-,-,-,-,-,-,l1,l2,-,-⟩:=k6 j hj;have e:o.ps.getD j aC=o.ps[j]:=by rw[List.getD_eq_getElem?_getD,List.getElem?_eq_getElem hj];rfl
 rw[e]at l1 l2
 simp only[xA,wO,Bool.and_eq_true,decide_eq_true_eq,e]at h1
 omega
section
variable {P : Program} (w : World)
theorem vH:∀(xs ys:List Int),xs.length=ys.length→((List.range xs.length).all fun i=>xs.getD i 0 == ys.getD i 0)=(xs == ys)
 | [], [],_=>rfl
 | x::xs,y::ys,h=>by
  have ih:=vH xs ys (by simpa using h);rw[List.length_cons,List.range_succ_eq_map,List.all_cons,List.all_map]
  simp only[List.getD_cons_zero,Function.comp_def,List.getD_cons_succ,ih]
  simp[List.cons_beq_cons]
 | [],_::_,h=>by simp at h
 | _::_, [],h=>by simp at h
theorem Hz {K:IntKind} {l:List Int} {i:Nat} (h:i<l.length):(arr K l)[i]? = some (.int K (l.getD i 0)):=by
 simp[arr,List.getD,List.getElem?_eq_getElem h]
theorem qF (d:Nat)(t e:TypeId)(n:Nat)(ht:P.underlying t=some (.array n e))(he:P.underlying e=some (.int .u8))(hsz:∀w,(sizeOf e).run P w = .ok 1 w)
  (xs ys:List Int) (hx:xs.length=n) (hy:ys.length=n) :
  (Op.equalIn (d+2) t (.agg (arr .u8 xs)) (.agg (arr .u8 ys))).run P w = .ok (xs == ys) w:=by
 rw[←vH xs ys (hx.trans hy.symm),hx,List.range_eq_range',Op.equalIn]
 simp only[Sem.run_bind,run_underlying ht,Result.andThen_ok,hsz,Std.Legacy.Range.forIn_eq_forIn_range',Std.Legacy.Range.size,Nat.sub_zero,Nat.add_sub_cancel,Nat.div_one]
 have hl:∀i∈List.range' 0 n 1,i<n:=fun i hi=>by simpa using (List.mem_range'_1.1 hi).2
 generalize List.range' 0 n 1=l at hl ⊢
 induction l with
 | nil=>simp
 | cons i l ih=>
  have hi:i<n:=hl i (by simp)
  have px:(Go.part e (arr .u8 xs) (i*1)).run P w = .ok (.int .u8 (xs.getD i 0)) w:=by
   have h1:=Hz (K:= .u8) (l:=xs) (i:=i) (by omega)
   simp[Go.part,isAgg,run_underlying he,h1]
  have py:(Go.part e (arr .u8 ys) (i*1)).run P w = .ok (.int .u8 (ys.getD i 0)) w:=by
   have h1:=Hz (K:= .u8) (l:=ys) (i:=i) (by omega)
   simp[Go.part,isAgg,run_underlying he,h1]
  have pe:(Op.equalIn (d+1) e (.int .u8 (xs.getD i 0)) (.int .u8 (ys.getD i 0))).run P w = .ok (xs.getD i 0 == ys.getD i 0) w:=run_equalIn_int w d e .u8 .u8 _ _ he
  simp only[List.forIn_cons,Sem.run_bind,px,py,pe,Result.andThen_ok,List.all_cons]
  cases hb:(xs.getD i 0 == ys.getD i 0)
  · simp
  ·
   simp only[Bool.not_true,Bool.false_eq_true,if_false,Sem.run_pure,Result.andThen_ok,Bool.true_and]
   exact ih fun j hj=>hl j (by simp[hj])
theorem mg {S:World→Prop} {o:Oper} {a:Act} (ty:TypeId)(x:Operand)(ho:o.op = .load ty x)
  (b f:Nat) (hx:a.eval x = .pointer (some ⟨b,f,none⟩)) (cs:List Value) (d:TypeDesc) (hS:∀w,S w→w.rangeAt b f cs)
  (hu:P.underlying ty=some d) (hd:d.isRow=true) (hi:(P.info? ty).map (·.size)=some cs.length) :
  ∀w,S w→(execOp a.eval o).run P w = .ok (.value (.agg cs.toArray)) w:=fun w hw=>by
 unfold execOp
 simp only[ho,hx,Instr.loadAt,Instr.sureAddr,Sem.run_bind,Sem.run_pure,Result.andThen_ok,run_loadVar_mid w b f ty cs d (hS w hw) hu hd hi]
end
theorem UC (w:World):(sizeOf 5).run Tryz.prog w = .ok 1 w:=by kernel_rfl
theorem Gj:Tryz.prog.eqGuardType Tryz.prog.depth 41=false:=by kernel_rfl
theorem iX {S:World→Prop} {o:Oper} {a:Act} (x y:Operand)(t:TypeId)(ho:o.op = .binOp .neq 41 x y t)
  (h h':List Int) (hl:h.length=32) (hl':h'.length=32) (hx:a.eval x = .agg (arr .u8 h)) (hy:a.eval y = .agg (arr .u8 h')) (r:Bool) (hr:(!(h == h'))=r) :
  ∀w,S w→(execOp a.eval o).run Tryz.prog w = .ok (.value (.bool r)) w:=fun w _=>by
 unfold execOp
 simp only[ho,hx,hy,Sem.run_bind,run_eqGuard_agg (P:=Tryz.prog) w .neq 41 x y _ _ Gj,run_neq_struct,qF (P:=Tryz.prog) w 9998 41 5 32 (by kernel_rfl) (by kernel_rfl) UC h h' hl hl',hr,Result.andThen_ok]
 rfl
theorem ni {l:List Int} (h:l.length=32):(Tryz.prog.info? 41).map (·.size)=some (l.map (Value.int .u8)).length:=UK.trans (congrArg some (by rw[List.length_map,h]))
theorem Vw (O:Option Addr)(n c:Nat)(K:Option Addr)(m d:Nat)(h:¬n≤100)(hb1:n≤1000000)(w:World) :
  Calls Tryz.prog 66 #[iA O n c K m d] w (Rt w (.bool false)):=by
 have dn:decide ((100:Int)<(n:Int))=true:=by simp;omega
 obtain⟨w0,HW,ai,kC⟩:=st1 (jC O n c K m d) qx w;have ah:=bI w0;go_in
 go_upto_region 1 with(fail)
 rw[HW.out];have zc:=kC.out _ ah;go_wp2;go_ret;exact⟨rfl,f_ ai ah⟩
theorem Vv (O:Option Addr)(os:List aG)(n c:Nat)(K:Option Addr)(hs:List (List Int))(m d:Nat)(hn:Hid (os.length=n))(hm:Hid (hs.length=m))(hI:∀k,k<n→dD (bz os k))(hb1:n≤1000000)(hb2:m≤1000000)(Xl:n≤100)(r:Bool)(hr:Kp (gJ os hs=r))(w:World)(hv:Hid (bB w))(hO:Hid (Os w O os))(hK:Hid (Hs w K hs)) :
  Calls Tryz.prog 66 #[iA O n c K m d] w (Rt w (.bool r)):=by
 have dn:decide ((100:Int)<(n:Int))=false:=by simp;omega
 obtain⟨w0,HW,ai,kC⟩:=st1 (jC O n c K m d) qx w;have kD:=oF ai hv;have E_:=fo (fun u=>Os u O os) ai hO (·.below);have KN:=fo (fun u=>Hs u K hs) ai hK (·.below);have ah:=bI w0;clear hv hO hK;go_in
 go_upto_region 1 with(fail)
 rw[HW.out];have zc:=kC.out _ ah;have Us:=ah;have hq0:=af w0 (.cells z32 41);have ax:=bJ ah hq0;clear hq0;have pK:=kC.out _ ax;go_wp2;clear zc pK;obtain⟨W,hW⟩:∃x,w0.alloc (.cells z32 41)=x:=⟨_,rfl⟩;rw[hW]at ax;have cu:=ax;obtain⟨B,hB⟩:∃x,w0.heap.size=x:=⟨_,rfl⟩;have zy:Hid (W.heap.size=B+1∧w0.heap.size≤B):=aa ⟨by rw[←hW,←hB];simp,by rw[←hB];exact Nat.le_refl _⟩;have HK0:Hid (bS .u8 41 W B (dL 32)):=aa (by rw[←hW,←hB,jR];exact bS.new _ _);rw[hW,hB];have Ie:=aa hW;have J3:=aa hB;clear hW hB Us
 go_loopw [4,14] (fun ce i u=>∃(k:Nat) (h:List Int),k≤n∧i = .int .i64 k∧ce = .int .i64 (zn os k)∧Hid (zV os hs n k=true)∧Kp (hbL os k=h)∧Hid (bS .u8 41 u B h)∧Hid (Below B W u)) (fun _ i _=>n-(intOf i).toNat)
 case atStart=>exact⟨0,dL 32,by omega,rfl,rfl,aa rfl,⟨rfl⟩,HK0,aa (Below.refl _ _)⟩
 case round=>
  obtain⟨k,h,hk,rfl,rfl,HST,yZ,Il,aD⟩:=hrel;have jw:Hid (Below w0.heap.size w0 wr):=aa (cu.out.trans (aD.out.mono zy.out.2));have HL:Hid (h.length=32):=aa (by rw[←yZ.1];exact lN _ _);have HBY:Hid (aF h=true):=aa (by rw[←yZ.1];exact uf _ _)
  by_cases hlt:k<n
  ·
   have hkl:k<os.length:=by rw[hn.out];exact hlt
   obtain⟨b,f,hA,h9,hok⟩:=(E_.out _ jw).out k hkl;subst hA;have hoi:=hI k hlt;have hcl:zn os k=k:=K6 HST.out hlt;rw[hcl];obtain⟨o,ho⟩:∃o,os.getD k dN=o:=⟨_,rfl⟩;have oI:Hid (bz os k=o):=aa ho;rw[ho]at h9 hok;have Pj:dD o:=by rw[←ho];exact hoi
   have yX:=aa Pj;have jy:=aa hok;obtain⟨j0,j1,j2,j3,j4,j5,j6,j7,j8⟩:=h9;have dw:IntKind.i64.wrap ((n:Int)-1)=(n:Int)-1:=IntWalk.i64_in _ (by omega);have dw2:wrap64 ((n:Int)-1)=(n:Int)-1:=IntWalk.wrap64_in _ (by omega);have si:=aa hcl;clear ho hoi Pj hok hkl hcl;have eZ:=bI wr;have kOo:=nQ (w:=wr) (fun u=>dM u o) jy.out (·.below);have Wv:=nQ (w:=wr) (fun u=>bS .u8 41 u B h) Il.out (·.below);have zc:=kC.out _ jw;obtain⟨w2,hw,lW,yV,-,kS⟩:=pO (l6 o) zq wr;have az:=iW jw lW;have bM:=iW eZ lW;have aM:=bI w2;clear lW;have pK:=kC.out _ az;have l_:=kS.out _ aM
   go_wp2_with fail
   clear zc pK l_ hw;have zc:=kC.out _ az;have jW:=kS.out _ aM;clear j0 j1 j2 j3 j4 j5 j6 j7 j8;obtain⟨ob,oG⟩:∃x,Cw o=x:=⟨_,rfl⟩;have J4:=aa oG;clear oG
   go_wp2_with fail
   clear zc jW;refine um az bM aM (Ma o ob J4 _ (kOo.out _ bM)) fun w3 aW cK eG=>?_;have zc:=kC.out _ aW;have jW:=kS.out _ eG
   cases ob with
   | true=>
    have oG:=J4.out
    by_cases jd:o.num=(k:Int)
    ·
     have Iz:(o.num != (k:Int))=false:=by simpa using jd
     by_cases hkey:o.key=0
     ·
      have dk1:(o.key == 0)=true:=by simpa using hkey
      by_cases hlast:k+1=n
      ·
       have dl1:decide ((k:Int)<(n:Int)-1)=false:=by simp;omega
       have HS2:Hid (zV os hs n (k+1)=true):=aa (by rw[zV,HST.out,DU,oI.out];simp[oG,hkey,jd,hlast]);have QV:Kp (hbL os (k+1)=h):=⟨by rw[hbL,oI.out,if_pos hkey];exact yZ.1⟩;have YL:Hid (zn os (k+1)=k):=aa (by simp[zn,oI.out,hkey,si.out]);clear oG hkey jd hlast;have HBn:Hid (Below B W w3):=aa (aD.out.trans (cK.out.mono (by have:=aD.out.size;have:=zy.out.1;omega)));have HKn:Hid (bS .u8 41 w3 B h):=(Wv.out _ cK);go_wp2
       go_roundw
       case rel=>exact⟨k+1,h,by omega,by go_num,by rw[YL.out],HS2,QV,HKn,HBn⟩
       case measure=>simp[intOf];omega
      ·
       have dl1:decide ((k:Int)<(n:Int)-1)=true:=by simp;omega
       have WT:k+1≠n:=hlast;obtain rfl:r=false:=hr.1.symm.trans (mM hn.out hlt (by rw[DU,oI.out];simp[oG,hkey,WT]));clear oG hkey jd hlast WT;go_wp2;go_ret;exact⟨rfl,f_ ai aW⟩
     ·
      have dk1:(o.key == 0)=false:=by simpa using hkey
      obtain⟨RR,hRR⟩:∃x,zI h o=x:=⟨_,rfl⟩;have HRR:Kp (zI h o=RR):=⟨hRR⟩;have fQ:Hid (RR.length=32):=aa (by rw[←hRR];exact xL _ _);have QV:Kp (hbL os (k+1)=RR):=⟨by rw[hbL,oI.out,if_neg hkey,yZ.1];exact hRR⟩;have Yz:=aa hkey;have Yp:=aa jd;clear oG hkey jd hRR;have CP:=(Wv.out _ cK)
      go_wp2_with ((with_reducible show wpList _ _ _ (⟨some 44,_,_,_,_,_⟩::_) _ _);refine wpList_load_row rfl 41 _ rfl B rfl _ _ _ _ CP.out Tryz.underlying41 rfl (aH HL.out) ?_)
      refine(Gq h HL HBY o yX (jM J4.out jy.out) _ (kD.out _ aW) (kOo.out _ cK)).mono ?_;rintro e w4 ⟨rfl,hb0⟩;rw[HRR.1];have bE:=bJ aW hb0;have fA:=bJ cK hb0;have jm:=bJ eG hb0;clear zc jW hb0;have zc:=kC.out _ bE;have jW:=kS.out _ jm;have Cb:=(Wv.out _ fA);obtain⟨wz,hwz⟩:∃x,w4.setRow B (arr .u8 RR)=x:=⟨_,rfl⟩;have wJ:Hid (Below B W wz):=aa (by rw[←hwz];exact aj (aD.out.trans (fA.out.mono (by have:=aD.out.size;have:=zy.out.1;omega))) (Nat.le_refl _));have B_:Hid (Below w0.heap.size w0 wz):=aa (cu.out.trans (wJ.out.mono zy.out.2));have Kb:Hid (bS .u8 41 wz B RR):=aa (by rw[←hwz];exact Cb.out.setRow)
      go_upto_region 12 with((with_reducible show wpList _ _ _ (⟨none,_,_,_,_,_⟩::_) _ _);refine wpList_store_row rfl 41 _ _ rfl B (arr .u8 RR) rfl rfl _ _ Cb.out (aH fQ.out) (fu HL.out fQ.out) (dG _) ?_)
      clear zc jW;rw[hwz];clear hwz CP Cb
      by_cases hkm:m≤k
      ·
       have oG:=J4.out;have hkey:=Yz.out;have jd:=Yp.out;have dm1:decide ((m:Int)≤(k:Int))=true:=by simp;omega
       obtain rfl:r=false:=hr.1.symm.trans (mM hn.out hlt (by rw[DU,oI.out];simp[oG,hkey,jd,hm.out];omega));clear oG hkey jd;have lY:=bI wz;have hO:=aa (fun(u:World) (h:Hid (Below w0.heap.size w0 u∧Below wz.heap.size wz u))=>kC.out u (aa h.out.1));refine uG (fun u=>Below w0.heap.size w0 u∧Below wz.heap.size wz u) [] (bb2 (aa ⟨B_.out,lY.out⟩) ((Below.refl _ _).drew)) (fun hHeld=>?_);refine aP 0 1 2 3 ?_;refine aL 4 ?_;refine aL 5 ?_;refine eO 6 7 8 9 ?_;refine lC 10 ?_;refine lC 11 ?_;refine lC 12 ?_;refine aL 13 ?_;refine gM ?_;clear hO;have iE:=(aa hHeld.out.1);have mK:=(aa hHeld.out.2);clear hHeld;have zc:=kC.out _ iE;have zT:Hid (Below B W wz.drew):=aa (wJ.out.trans (mK.out.mono (by have:=wJ.out.size;have:=zy.out.1;omega)));go_wp2;go_ret;exact⟨rfl,f_ ai iE⟩
      ·
       cases hrq:(hsL hs k == zI h o)with
       | true=>
        have oG:=J4.out;have hkey:=Yz.out;have jd:=Yp.out;have dm1:decide ((m:Int)≤(k:Int))=false:=by simp;omega
        have WU:k<m:=by omega
        obtain⟨b2,f2,hA2,hl2,hrg2⟩:=(KN.out _ B_).out k (by rw[hm.out];omega);subst hA2;obtain⟨Ew,hhk⟩:∃x,hsL hs k=x:=⟨_,rfl⟩;rw[hhk]at hl2 hrg2;have HL2:=aa hl2;have YD:=aa hrg2;have YE:=aa hhk;rw[hhk,HRR.1]at hrq;have hbq:(!(Ew == RR))=false:=by rw[hrq];rfl
        clear hl2 hrg2 hhk;have HS2:Hid (zV os hs n (k+1)=true):=aa (by rw[zV,HST.out,DU,oI.out,QV.1,YE.out];simp[oG,hm.out,hrq,hkey,jd];omega);have YL:Hid (zn os (k+1)=k+1):=aa (by simp[zn,oI.out,hkey,si.out]);clear oG hkey jd hrq;have lY:=bI wz;have hO:=aa (fun(u:World) (h:Hid (Below w0.heap.size w0 u∧Below wz.heap.size wz u))=>kC.out u (aa h.out.1));refine uG (fun u=>Below w0.heap.size w0 u∧Below wz.heap.size wz u) [] (bb2 (aa ⟨B_.out,lY.out⟩) ((Below.refl _ _).drew)) (fun hHeld=>?_);refine aP 0 1 2 3 ?_;refine aP 4 5 6 7 ?_;refine aL 8 ?_;refine aL 9 ?_;refine Cf 10 (.agg (arr .u8 Ew)) rfl (mg 41 _ rfl b2 (f2+k*32) rfl (Ew.map (Value.int .u8)) _ (fun _ hq=>fF YD.out hq.out.2) Tryz.underlying41 rfl (ni HL2.out)) ?_;refine Cf 11 (.agg (arr .u8 RR)) rfl (ig 41 _ rfl B rfl _ _ _ _ (fun _ hq=>Kb.out.below hq.out.2) Tryz.underlying41 rfl (aH fQ.out)) ?_;refine Cf 12 (.bool false) rfl (iX _ _ _ rfl Ew RR HL2.out fQ.out rfl rfl _ hbq) ?_;refine aL 13 ?_;refine gM ?_;clear hO;have iE:=(aa hHeld.out.1);have mK:=(aa hHeld.out.2);clear hHeld;have zc:=kC.out _ iE;have zT:Hid (Below B W wz.drew):=aa (wJ.out.trans (mK.out.mono (by have:=wJ.out.size;have:=zy.out.1;omega)));have YA:Hid (bS .u8 41 wz.drew B RR):=aa (Kb.out.below mK.out);go_wp2
        go_roundw
        case rel=>exact⟨k+1,RR,by omega,by go_num,by rw[YL.out];go_num,HS2,QV,YA,zT⟩
        case measure=>simp[intOf];omega
       | false=>
        have oG:=J4.out;have hkey:=Yz.out;have jd:=Yp.out;have dm1:decide ((m:Int)≤(k:Int))=false:=by simp;omega
        have WU:k<m:=by omega
        obtain⟨b2,f2,hA2,hl2,hrg2⟩:=(KN.out _ B_).out k (by rw[hm.out];omega);subst hA2;obtain⟨Ew,hhk⟩:∃x,hsL hs k=x:=⟨_,rfl⟩;rw[hhk]at hl2 hrg2;have HL2:=aa hl2;have YD:=aa hrg2;have YE:=aa hhk;rw[hhk,HRR.1]at hrq;have hbq:(!(Ew == RR))=true:=by rw[hrq];rfl
        clear hl2 hrg2 hhk;obtain rfl:r=false:=hr.1.symm.trans (mM hn.out hlt (by rw[DU,oI.out];simp[oG,hkey,jd,hm.out,YE.out,QV.1,hrq]));clear oG hkey jd hrq;have lY:=bI wz;have hO:=aa (fun(u:World) (h:Hid (Below w0.heap.size w0 u∧Below wz.heap.size wz u))=>kC.out u (aa h.out.1));refine uG (fun u=>Below w0.heap.size w0 u∧Below wz.heap.size wz u) [] (bb2 (aa ⟨B_.out,lY.out⟩) ((Below.refl _ _).drew)) (fun hHeld=>?_);refine aP 0 1 2 3 ?_;refine aP 4 5 6 7 ?_;refine aL 8 ?_;refine aL 9 ?_;refine Cf 10 (.agg (arr .u8 Ew)) rfl (mg 41 _ rfl b2 (f2+k*32) rfl (Ew.map (Value.int .u8)) _ (fun _ hq=>fF YD.out hq.out.2) Tryz.underlying41 rfl (ni HL2.out)) ?_;refine Cf 11 (.agg (arr .u8 RR)) rfl (ig 41 _ rfl B rfl _ _ _ _ (fun _ hq=>Kb.out.below hq.out.2) Tryz.underlying41 rfl (aH fQ.out)) ?_;refine Cf 12 (.bool true) rfl (iX _ _ _ rfl Ew RR HL2.out fQ.out rfl rfl _ hbq) ?_;refine aL 13 ?_;refine gM ?_;clear hO;have iE:=(aa hHeld.out.1);have mK:=(aa hHeld.out.2);clear hHeld;have zc:=kC.out _ iE;have zT:Hid (Below B W wz.drew):=aa (wJ.out.trans (mK.out.mono (by have:=wJ.out.size;have:=zy.out.1;omega)));go_wp2;go_ret;exact⟨rfl,f_ ai iE⟩
    ·
     have Iz:(o.num != (k:Int))=true:=by simpa using jd
     obtain rfl:r=false:=hr.1.symm.trans (mM hn.out hlt (by rw[DU,oI.out];simp[oG,jd]));clear oG jd;go_wp2;go_ret;exact⟨rfl,f_ ai aW⟩
   | false=>
    have oG:=J4.out;obtain rfl:r=false:=hr.1.symm.trans (mM hn.out hlt (by rw[DU,oI.out];simp[oG]));clear oG;go_wp2;go_ret;exact⟨rfl,f_ ai aW⟩
  ·
   obtain rfl:k=n:=by omega
   have hre:((((zn os k:Nat):Int)) == ((m:Nat):Int))=r:=by
    rw[←hr.1,gJ,hn.out,HST.out,hm.out,decide_eq_true Xl];simp only[Bool.true_and];rw[Bool.eq_iff_iff];simp;omega
   have Pd:((((m:Nat):Int)) == ((zn os k:Nat):Int))=r:=by rw[←hre,BEq.comm]
   obtain⟨q,hq⟩:∃q,zn os k=q:=⟨_,rfl⟩;rw[hq]at hre Pd ⊢;clear hq;have zc:=kC.out _ jw;have bT:=ag ai.out jw.out;go_wp2;go_ret;exact⟨by first | rfl | rw[hre] | rw[Pd],bT⟩
theorem jX (O:Option Addr)(os:List aG)(n c:Nat)(K:Option Addr)(hs:List (List Int))(m d:Nat)(hn:Hid (os.length=n))(hm:Hid (hs.length=m))(hI:∀k,k<n→dD (bz os k))(hb1:n≤1000000)(hb2:m≤1000000)(r:Bool)(hr:Kp (gJ os hs=r))(w:World)(hv:Hid (bB w))(hO:Hid (Os w O os))(hK:Hid (Hs w K hs)) :
  Calls Tryz.prog 66 #[iA O n c K m d] w (Rt w (.bool r)):=by
 by_cases h:n≤100
 · exact Vv O os n c K hs m d hn hm hI hb1 hb2 h r hr w hv hO hK
 ·
  obtain rfl:r=false:=hr.1.symm.trans (by rw[gJ,hn.out,decide_eq_false h];rfl);exact Vw O n c K m d h hb1 w
end Go.Proofs.YtchcllcbknfikaaGreatDoor
namespace Go.Proofs.YtchcllcbknfikaaGreatDoor
open Go.ChangeShapes Go.WideShapes Go.ChangeAt Go.RowKit sH
theorem Hr:Tryz.prog.cellsOf 104=9:=by kernel_rfl
theorem P9:Tryz.prog.cellsOf 52=2:=by kernel_rfl
theorem Qa:Tryz.prog.cellsOf 9=1:=by kernel_rfl
theorem Qb:Tryz.prog.cellsOf 102=1:=by kernel_rfl
theorem Qc:Tryz.prog.cellsOf 49=1:=by kernel_rfl
theorem Qd:Tryz.prog.cellsOf 50=1:=by kernel_rfl
section
variable {H : Type} {enc : TypeId × Value → H} {w : World} {base : Nat} {held : Bool}
theorem tZ {x:Int} (h:(Lit.int .i64 x).wf=true):i64 x:=by
 simp[Lit.wf,IntKind.min,IntKind.max,IntKind.signed,IntKind.bits]at h
 unfold i64;omega
theorem Dg {n:Nat} {cs:List Value} {x:DataW H × List MemPlace} (h:DataW.trod enc Tryz.prog w base (fun _=>true) held n 24 cs=some x) :
  ∃R:Row,cs = [R.val]∧BQ w R∧∀x∈R.xs,i64 x:=by
 rcases open_ints Tryz.underlying24 Tryz.underlying3 nG h with⟨rfl,_⟩ | ⟨a,len,cap,zs,rfl,_,hlc,_,hz,_,hcell,hw⟩
 · exact⟨dI,rfl,⟨rfl,fun k hk=>absurd hk (by simp)⟩,fun x hx=>absurd hx (by simp)⟩
 ·
  simp at hz
  refine⟨⟨some a,len,cap,zs.take len⟩,rfl,⟨by show(zs.take len).length=len;rw[List.length_take];omega,fun k hk=>?_⟩,fun x hx=>tZ (hw x (List.mem_of_mem_take hx))⟩
  dsimp only at hk ⊢
  rw[List.length_take]at hk;obtain⟨b,off,rfl,hc⟩:=ints_at hcell (by omega);refine⟨b,off,rfl, ?_⟩;rw[hc k (by omega),List.getD_eq_getElem?_getD,List.getD_eq_getElem?_getD,List.getElem?_take_of_lt (by omega)]
theorem sF {n:Nat} {cs:List Value} {x:DataW H × List MemPlace} (h:DataW.trod enc Tryz.prog w base (fun _=>true) held n 54 cs=some x) :
  ∃(A:Option Addr) (na ca:Nat) (al:List Int) (C:Int) (Z:Option Addr) (nz cz:Nat) (zs:List Int),cs = [.slice A na ca, .int .i64 C, .slice Z nz cz]∧al.length=na∧zs.length=nz∧Sl w A al∧Sl w Z zs∧(∀x∈al,i64 x)∧(∀x∈zs,i64 x)∧i64 C:=by
 obtain⟨xs,m,rfl,_,hl,hxl,hf⟩:=DataW.trod_struct Tryz.underlying54 h;rw[BK]at hl
 match cs,hl with
 | [c0,c1,c2],_=>
  have f0:DataW.trod enc Tryz.prog w base (fun _=>true) held m 24 (([c0,c1,c2].drop 0).take (Tryz.prog.cellsOf 24))=xs[0]? :=hf 0 _ rfl;have f1:DataW.trod enc Tryz.prog w base (fun _=>true) held m 3 (([c0,c1,c2].drop 1).take (Tryz.prog.cellsOf 3))=xs[1]? :=hf 1 _ rfl;have f2:DataW.trod enc Tryz.prog w base (fun _=>true) held m 24 (([c0,c1,c2].drop 2).take (Tryz.prog.cellsOf 24))=xs[2]? :=hf 2 _ rfl;rw[Hq]at f0 f2;rw[nG]at f1;have hl3:xs.length=3:=hxl
  match xs,hl3 with
  | [x0,x1,x2],_=>
   obtain⟨RA,hA,oA,bA⟩:=Dg f0;obtain⟨C,hC,_,wC⟩:=DataW.trod_int Tryz.underlying3 f1;obtain⟨RZ,hZ,oZ,bZ⟩:=Dg f2
   simp at hA hC hZ
   subst hA;subst hC;subst hZ;exact⟨RA.p,RA.n,RA.c,RA.xs,C,RZ.p,RZ.n,RZ.c,RZ.xs,rfl,oA.1,oZ.1,oA.2,oZ.2,bA,bZ,tZ wC⟩
theorem yI {n:Nat} {cs:List Value} {x:DataW H × List MemPlace} (h:DataW.trod enc Tryz.prog w base (fun _=>true) held n 56 cs=some x) :
  ∃p:aS,cs = [.int .i64 p.ix, .int .i64 p.v, .slice p.A p.na p.ca, .int .i64 p.C, .slice p.Z p.nz p.cz]∧yT w p∧BS p:=by
 obtain⟨xs,m,rfl,_,hl,hxl,hf⟩:=DataW.trod_struct Tryz.underlying56 h;rw[Dy]at hl
 match cs,hl with
 | [c0,c1,c2,c3,c4],_=>
  have f0:DataW.trod enc Tryz.prog w base (fun _=>true) held m 3 (([c0,c1,c2,c3,c4].drop 0).take (Tryz.prog.cellsOf 3))=xs[0]? :=hf 0 _ rfl;have f1:DataW.trod enc Tryz.prog w base (fun _=>true) held m 3 (([c0,c1,c2,c3,c4].drop 1).take (Tryz.prog.cellsOf 3))=xs[1]? :=hf 1 _ rfl;have f2:DataW.trod enc Tryz.prog w base (fun _=>true) held m 54 (([c0,c1,c2,c3,c4].drop 2).take (Tryz.prog.cellsOf 54))=xs[2]? :=hf 2 _ rfl;rw[nG]at f0 f1;rw[BK]at f2;have hl3:xs.length=3:=hxl
  match xs,hl3 with
  | [x0,x1,x2],_=>
   obtain⟨E1,hE1,_,w1⟩:=DataW.trod_int Tryz.underlying3 f0;obtain⟨E2,hE2,_,w2⟩:=DataW.trod_int Tryz.underlying3 f1;obtain⟨A,na,ca,al,C,Z,nz,cz,zs,hP,h1,h2,h3,h4,h5,h6,h7⟩:=sF f2
   simp at hE1 hE2 hP
   obtain⟨rfl,rfl,rfl⟩:=hP;subst hE1;subst hE2;exact⟨⟨E1,E2,A,na,ca,al,C,Z,nz,cz,zs⟩,rfl,⟨h1,h2,h3,h4⟩,tZ w1,tZ w2,h7,h5,h6⟩
theorem yH {n:Nat} {cs:List Value} {x:DataW H × List MemPlace} (h:DataW.trod enc Tryz.prog w base (fun _=>true) held n 102 cs=some x) :
  ∃(L:Option Addr) (n c:Nat) (l:List aS),cs = [.slice L n c]∧l.length=n∧n≤c∧Pa w L l∧∀p∈l,BS p:=by
 rcases Go.Deep.open_slice Tryz.underlying102 h with⟨h0,_⟩ | ⟨a',len,cap,m,n',D,Pl,h0,_,hlc,_,hm,_,hx⟩
 · exact⟨none,0,0, [],h0,rfl,Nat.le_refl _,fun k hk=>absurd hk (by simp),fun p hp=>absurd hp (by simp)⟩
 ·
  simp at hm
  haveI:Inhabited aS:=⟨aC⟩
  obtain⟨f,hf⟩:=Go.Deep.choose_lt (α:=aS) (n:=len) (p:=fun i p=>(∀r,r<5→w.cell? ((a'.add (i*5)).add r)=(paC p)[r]?)∧yT w p∧BS p) (fun i hi=>by
   obtain⟨cs',h1,h2⟩:=hx i (by omega);rw[Dy]at h1;obtain⟨_,hlen,hcell⟩:=World.cells?_some h1;obtain⟨p,hp,hok,hr⟩:=yI h2
   exact⟨p,fun r hr=>by rw[hcell r hr,hp];rfl,hok,hr⟩)
  have e:∀k,k<len→((List.range len).map f).getD k aC=f k:=fun k hk=>by
   rw[List.getD_eq_getElem?_getD,List.getElem?_eq_getElem (by simpa using hk)]
   simp
  refine⟨some a',len,cap,(List.range len).map f,h0,by simp,hlc,fun k hk=>?_,fun p hp=>by
   obtain⟨k,hk,rfl⟩:=List.mem_map.1 hp
   exact(hf k (by simpa using hk)).2.2⟩
  have hk':k<len:=by simpa using hk
  rw[e k hk'];obtain⟨h1,h2,h3⟩:=hf k hk';obtain⟨b,off,spot⟩:=a'
  have hspot:spot=none:=by
   have:=World.cell?_spot ((hf 0 (by omega)).1 0 (by omega));rw[Nat.zero_mul]at this;have h9:(((⟨b,off,spot⟩:Addr).add 0).add 0)=⟨b,off,spot⟩:=by unfold Addr.add;simp
   rw[h9]at this;exact this
  subst hspot
  have key:∀r,r<5→w.cell? ⟨b,off+k*5+r,none⟩=(paC (f k))[r]? :=fun r hr=>by
   have:=h1 r hr;rw[uQ _ _ _ _ rfl,uQ _ _ _ _ rfl]at this;exact this
  exact⟨b,off,rfl,key 0 (by omega),key 1 (by omega),key 2 (by omega),key 3 (by omega),key 4 (by omega),h2⟩
abbrev V9 (o:aG):List Value:= [.int .i64 o.num, .string o.rs, .int .i64 o.E1, .int .i64 o.E2, .slice o.A o.na o.ca, .int .i64 o.C, .slice o.Z o.nz o.cz, .slice o.L o.np o.cp, .int .i64 o.key]
theorem yJ {n:Nat} {cs:List Value} {x:DataW H × List MemPlace} (h:DataW.trod enc Tryz.prog w base (fun _=>true) held n 104 cs=some x) :
  ∃o:aG,cs=V9 o∧dM w o∧dD o:=by
 obtain⟨xs,m,rfl,_,hl,hxl,hf⟩:=DataW.trod_struct Tryz.underlying104 h;rw[Hr]at hl
 match cs,hl with
 | [c0,c1,c2,c3,c4,c5,c6,c7,c8],_=>
  have f0:DataW.trod enc Tryz.prog w base (fun _=>true) held m 3 (([c0,c1,c2,c3,c4,c5,c6,c7,c8].drop 0).take (Tryz.prog.cellsOf 3))=xs[0]? :=hf 0 _ rfl;have f1:DataW.trod enc Tryz.prog w base (fun _=>true) held m 9 (([c0,c1,c2,c3,c4,c5,c6,c7,c8].drop 1).take (Tryz.prog.cellsOf 9))=xs[1]? :=hf 1 _ rfl;have f2:DataW.trod enc Tryz.prog w base (fun _=>true) held m 99 (([c0,c1,c2,c3,c4,c5,c6,c7,c8].drop 2).take (Tryz.prog.cellsOf 99))=xs[2]? :=hf 2 _ rfl;have f3:DataW.trod enc Tryz.prog w base (fun _=>true) held m 102 (([c0,c1,c2,c3,c4,c5,c6,c7,c8].drop 7).take (Tryz.prog.cellsOf 102))=xs[3]? :=hf 3 _ rfl;have f4:DataW.trod enc Tryz.prog w base (fun _=>true) held m 3 (([c0,c1,c2,c3,c4,c5,c6,c7,c8].drop 8).take (Tryz.prog.cellsOf 3))=xs[4]? :=hf 4 _ rfl;rw[nG]at f0 f4;rw[Qa]at f1;rw[Qe]at f2;rw[Qb]at f3;have hl5:xs.length=5:=hxl
  match xs,hl5 with
  | [x0,x1,x2,x3,x4],_=>
   obtain⟨N,hN,_,wN⟩:=DataW.trod_int Tryz.underlying3 f0;obtain⟨s,hs,_,_⟩:=DataW.trod_string Tryz.underlying9 f1;obtain⟨ys,m2,_,_,_,hyl,hg⟩:=DataW.trod_struct Tryz.underlying99 f2;have g0:DataW.trod enc Tryz.prog w base (fun _=>true) held m2 3 (([c2,c3,c4,c5,c6].drop 0).take (Tryz.prog.cellsOf 3))=ys[0]? :=hg 0 _ rfl;have g1:DataW.trod enc Tryz.prog w base (fun _=>true) held m2 3 (([c2,c3,c4,c5,c6].drop 1).take (Tryz.prog.cellsOf 3))=ys[1]? :=hg 1 _ rfl;have g2:DataW.trod enc Tryz.prog w base (fun _=>true) held m2 54 (([c2,c3,c4,c5,c6].drop 2).take (Tryz.prog.cellsOf 54))=ys[2]? :=hg 2 _ rfl;rw[nG]at g0 g1;rw[BK]at g2;have hl3:ys.length=3:=hyl
   match ys,hl3 with
   | [y0,y1,y2],_=>
    obtain⟨E1,hE1,_,w1⟩:=DataW.trod_int Tryz.underlying3 g0;obtain⟨E2,hE2,_,w2⟩:=DataW.trod_int Tryz.underlying3 g1;obtain⟨A,na,ca,al,C,Z,nz,cz,zs,hP,h1,h2,h3,h4,h5,h6,h7⟩:=sF g2;obtain⟨L,np,cp,ps,hL,k1,k2,k3,k4⟩:=yH f3;obtain⟨K,hK,_,wK⟩:=DataW.trod_int Tryz.underlying3 f4
    simp at hN hs hE1 hE2 hP hL hK
    obtain⟨rfl,rfl,rfl⟩:=hP;subst hN;subst hs;subst hE1;subst hE2;subst hL;subst hK;exact⟨⟨N,s,E1,E2,A,na,ca,al,C,Z,nz,cz,zs,L,np,cp,ps,K⟩,rfl,⟨h1,h2,⟨k1,k2⟩,h3,h4,k3⟩,tZ wN,tZ w1,tZ w2,h7,tZ wK,h5,h6,k4⟩
theorem xG {n:Nat} {cs:List Value} {x:DataW H × List MemPlace} (h:DataW.trod enc Tryz.prog w base (fun _=>true) held n 49 cs=some x) :
  ∃(O:Option Addr) (n c:Nat) (os:List aG),cs = [.slice O n c]∧os.length=n∧Os w O os∧∀k,k<n→dD (bz os k):=by
 rcases Go.Deep.open_slice Tryz.underlying49 h with⟨h0,_⟩ | ⟨a',len,cap,m,n',D,Pl,h0,_,hlc,_,hm,_,hx⟩
 · exact⟨none,0,0, [],h0,rfl,fun k hk=>absurd hk (by simp),fun k hk=>absurd hk (by omega)⟩
 ·
  simp at hm
  haveI:Inhabited aG:=⟨dN⟩
  obtain⟨f,hf⟩:=Go.Deep.choose_lt (α:=aG) (n:=len) (p:=fun i o=>(∀r,r<9→w.cell? ((a'.add (i*9)).add r)=(V9 o)[r]?)∧dM w o∧dD o) (fun i hi=>by
   obtain⟨cs',h1,h2⟩:=hx i (by omega);rw[Hr]at h1;obtain⟨_,hlen,hcell⟩:=World.cells?_some h1;obtain⟨o,ho,hok,hr⟩:=yJ h2
   exact⟨o,fun r hr=>by rw[hcell r hr,ho],hok,hr⟩)
  have e:∀k,k<len→((List.range len).map f).getD k dN=f k:=fun k hk=>by
   rw[List.getD_eq_getElem?_getD,List.getElem?_eq_getElem (by simpa using hk)]
   simp
  refine⟨some a',len,cap,(List.range len).map f,h0,by simp,fun k hk=>?_,fun k hk=>by rw[bz,e k hk];exact(hf k hk).2.2⟩;have hk':k<len:=by simpa using hk
  rw[e k hk'];obtain⟨h1,h2,h3⟩:=hf k hk';obtain⟨b,off,spot⟩:=a'
  have hspot:spot=none:=by
   have:=World.cell?_spot ((hf 0 (by omega)).1 0 (by omega));rw[Nat.zero_mul]at this;have h9:(((⟨b,off,spot⟩:Addr).add 0).add 0)=⟨b,off,spot⟩:=by unfold Addr.add;simp
   rw[h9]at this;exact this
  subst hspot
  have key:∀r,r<9→w.cell? ⟨b,off+k*9+r,none⟩=(V9 (f k))[r]? :=fun r hr=>by
   have:=h1 r hr;rw[uQ _ _ _ _ rfl,uQ _ _ _ _ rfl]at this;exact this
  exact⟨b,off,rfl,⟨key 0 (by omega),key 1 (by omega),key 2 (by omega),key 3 (by omega),key 4 (by omega),key 5 (by omega),key 6 (by omega),key 7 (by omega),key 8 (by omega)⟩,h2⟩
theorem zF {n:Nat} {cs:List Value} {x:DataW H × List MemPlace} (h:DataW.trod enc Tryz.prog w base (fun _=>true) held n 41 cs=some x) :
  ∃l:List Int,cs=l.map (Value.int .u8)∧l.length=32∧aF l=true:=by
 obtain⟨ys,m',_,_,hcl,hyl,hfy⟩:=DataW.trod_array Tryz.underlying41 h;rw[Dz]at hcl
 obtain⟨hh,h1,h2,h3⟩:=Hg (cl:=cs) 32 (fun i hi=>by
  have fi:=hfy i hi;rw[K_,Nat.mul_one,List.getElem?_eq_getElem (by rw[hyl];exact hi)]at fi;obtain⟨z,hz,_,wz⟩:=DataW.trod_int Tryz.underlying5 fi;refine⟨z,hz, ?_⟩
  simp[Lit.wf,IntKind.min,IntKind.max,IntKind.signed,IntKind.bits]at wz
  omega)
 exact⟨hh,by rw[←h2,List.take_of_length_le (by rw[hcl];exact Nat.le_refl _)],h1,h3⟩
theorem xH {n:Nat} {cs:List Value} {x:DataW H × List MemPlace} (h:DataW.trod enc Tryz.prog w base (fun _=>true) held n 50 cs=some x) :
  ∃(K:Option Addr) (n c:Nat) (hs:List (List Int)),cs = [.slice K n c]∧hs.length=n∧Hs w K hs:=by
 rcases Go.Deep.open_slice Tryz.underlying50 h with⟨h0,_⟩ | ⟨a',len,cap,m,n',D,Pl,h0,_,hlc,_,hm,_,hx⟩
 · exact⟨none,0,0, [],h0,rfl,fun k hk=>absurd hk (by simp)⟩
 ·
  simp at hm
  obtain⟨f,hf⟩:=Go.Deep.choose_lt (α:=List Int) (n:=len) (p:=fun i l=>(∀r,r<32→w.cell? ((a'.add (i*32)).add r)=(l.map (Value.int .u8))[r]?)∧l.length=32) (fun i hi=>by
   obtain⟨cs',h1,h2⟩:=hx i (by omega);rw[Dz]at h1;obtain⟨_,hlen,hcell⟩:=World.cells?_some h1;obtain⟨o,ho,hok,_⟩:=zF h2
   exact⟨o,fun r hr=>by rw[hcell r hr,ho],hok⟩)
  have e:∀k,k<len→hsL ((List.range len).map f) k=f k:=fun k hk=>by
   rw[hsL,List.getD_eq_getElem?_getD,List.getElem?_eq_getElem (by simpa using hk)]
   simp
  refine⟨some a',len,cap,(List.range len).map f,h0,by simp,fun k hk=>?_⟩;have hk':k<len:=by simpa using hk
  rw[e k hk'];obtain⟨h1,h2⟩:=hf k hk';obtain⟨b,off,spot⟩:=a'
  have hspot:spot=none:=by
   have h8:=(hf 0 (by omega)).1 0 (by omega);rw[List.getElem?_eq_getElem (by rw[List.length_map,(hf 0 (by omega)).2];decide)]at h8;have:=World.cell?_spot h8;rw[Nat.zero_mul]at this;have h9:(((⟨b,off,spot⟩:Addr).add 0).add 0)=⟨b,off,spot⟩:=by unfold Addr.add;simp
   rw[h9]at this;exact this
  subst hspot;refine⟨b,off,rfl,h2,fun j v hj=>?_⟩;have hj2:j<32:=by have:=(List.getElem?_eq_some_iff.1 hj).1;rw[List.length_map,h2]at this;exact this
  have:=h1 j hj2;rw[uQ _ _ _ _ rfl,uQ _ _ _ _ rfl]at this;rw[this];exact hj
theorem Ow {r:Reach} {b0:Nat} {v:Value} {d:DataW H} {ps:List MemPlace} (hval:Value.okWide Tryz.prog w r b0 52 v)(hd:DataW.Trod enc Tryz.prog w base (fun _=>true) held 52 v d ps) :
  ∃(O:Option Addr) (n c:Nat) (os:List aG) (K:Option Addr) (m d:Nat) (hs:List (List Int)),v = .agg #[.slice O n c, .slice K m d]∧os.length=n∧hs.length=m∧Os w O os∧Hs w K hs∧∀k,k<n→dD (bz os k):=by
 obtain⟨cs,rfl,hsz⟩:=okWide_struct Tryz.underlying52 hval;obtain⟨n,h⟩:=hd;obtain⟨xs,m,rfl,_,hl,hxl,hf⟩:=DataW.trod_struct Tryz.underlying52 h;rw[P9]at hl;obtain⟨cl⟩:=cs
 simp only[Value.cells]at hl hf
 match cl,hl with
 | [c0,c1],_=>
  have f0:DataW.trod enc Tryz.prog w base (fun _=>true) held m 49 (([c0,c1].drop 0).take (Tryz.prog.cellsOf 49))=xs[0]? :=hf 0 _ rfl;have f1:DataW.trod enc Tryz.prog w base (fun _=>true) held m 50 (([c0,c1].drop 1).take (Tryz.prog.cellsOf 50))=xs[1]? :=hf 1 _ rfl;rw[Qc]at f0;rw[Qd]at f1;have hl2:xs.length=2:=hxl
  match xs,hl2 with
  | [x0,x1],_=>
   obtain⟨O,n,c,os,hO,h1,h2,h3⟩:=xG f0;obtain⟨K,m,d,hs,hK,k1,k2⟩:=xH f1
   simp at hO hK
   subst hO;subst hK;exact⟨O,n,c,os,K,m,d,hs,rfl,h1,k1,h2,k2,h3⟩
end
end Go.Proofs.YtchcllcbknfikaaGreatDoor
namespace Go.Proofs.YtchcllcbknfikaaGreatDoor
open Go.RowKit sH
theorem oD (A:Option Addr)(l:List Int)(n c:Nat)(hn:Hid (l.length=n))(hbig:n≤1000000)(w:World)(hs:Hid (Sl w A l)) :
  Calls Tryz.prog 176 #[.slice A n c] w (pG (.lst (l.map .int)) w):=by
 obtain⟨i0,hi,hz0,hz1,hz2⟩:=info_parts j_;obtain⟨W,hW⟩:∃W,(w.alloc (.cells #[.int .i64 0, .int .i64 0, .slice none 0 0, .slice none 0 0] 117)).alloc (.cells #[.int .i64 3, .int .i64 0, .slice none 0 0, .slice none 0 0] 117)=W:=⟨_,rfl⟩;have cu:Hid (Below w.heap.size w W):=aa (by rw[←hW];exact aO (Below.refl _ _));have l8:Hid (W.heap.size=w.heap.size+2):=aa (by rw[←hW];simp)
 have hF:Four W (w.heap.size+1) 0 ⟨3,0,none,0,0,none,0,0⟩:=by
  rw[←hW];have h:=heap_alloc2_new w (.cells #[.int .i64 0, .int .i64 0, .slice none 0 0, .slice none 0 0] 117) (.cells #[.int .i64 3, .int .i64 0, .slice none 0 0, .slice none 0 0] 117);exact⟨au h 0,au h 1,au h 2,au h 3⟩
 have hf0:∀j,W.frozen? ⟨w.heap.size+1,j,none⟩=false:=by
  rw[←hW];exact fun j=>ay (heap_alloc2_new _ _ _) j
 have HG:Hid ((Four W w.heap.size 0 ⟨0,0,none,0,0,none,0,0⟩)∧∀j,W.frozen? ⟨w.heap.size,j,none⟩=false):=aa (by
  rw[←hW];have h:=heap_alloc2_old w (.cells #[.int .i64 0, .int .i64 0, .slice none 0 0, .slice none 0 0] 117) (.cells #[.int .i64 3, .int .i64 0, .slice none 0 0, .slice none 0 0] 117)
  exact⟨⟨au h 0,au h 1,au h 2,au h 3⟩,fun j=>ay h j⟩)
 have MX:Hid (W.heap[w.heap.size]? = some (.cells #[.int .i64 0, .int .i64 0, .slice none 0 0, .slice none 0 0] 117 (0,0))):=aa (by rw[←hW];exact heap_alloc2_old w _ _);have HS:=aa hs.out;have HW:=aa hW;have HX:Hid (Own W ⟨w.heap.size+1,0,none⟩ (.int .i64 3)∧Own W ⟨w.heap.size+1,1,none⟩ (.int .i64 0)∧Own W ⟨w.heap.size+1,2,none⟩ (.slice none 0 0)):=aa ⟨⟨hF.1,hf0 0⟩,⟨hF.2.1,hf0 1⟩,⟨hF.2.2.1,hf0 2⟩⟩;have HL:Hid (Own W ⟨w.heap.size+1,3,none⟩ (.slice none 0 0)):=aa ⟨hF.2.2.2,hf0 3⟩;clear hW hs hF hf0;go_in;go_wp2;rw[HW.out]
 go_loopw [4] (fun i u=>∃(k:Nat) (v:Value),k≤n∧i = .int .i64 k∧Hid (Own u ⟨w.heap.size+1,3,none⟩ v)∧Hid (d_ u (w.heap.size+2) v ((l.take k).map aR))∧Hid (Own u ⟨w.heap.size+1,0,none⟩ (.int .i64 3)∧Own u ⟨w.heap.size+1,1,none⟩ (.int .i64 0)∧Own u ⟨w.heap.size+1,2,none⟩ (.slice none 0 0))∧Hid (Below (w.heap.size+1) W u)) (fun i _=>n-(intOf i).toNat)
 case atStart=>exact⟨0,_,by omega,rfl,HL,aa (tV _ _),HX,aa (Below.refl _ _)⟩
 case round=>
  obtain⟨k,v,hk,rfl,HV,HO,qh,aD⟩:=hrel
  by_cases hlt:k<n
  ·
   have hkl:k<l.length:=by rw[hn.out];exact hlt
   obtain⟨b,o,hA,hc⟩:=(HS.out.below (cu.out.trans (aD.out.mono (Nat.le_succ _)))) k hkl;subst hA;have zO:=aa (vV hkl);obtain⟨x,hx⟩:∃x,l.getD k 0=x:=⟨_,rfl⟩;rw[hx]at hc zO;have tC:Hid (((l.take k).map aR).length=k):=aa (by rw[List.length_map,List.length_take];omega);have hown:wr.ownsRow (w.heap.size+2) 117 4 v k (((l.take k).map aR).flatMap aY):=by have h:=HO.out;unfold d_ at h;rwa [tC.out]at h
   have hbs:w.heap.size+2≤wr.heap.size:=by have:=aD.out.size;have:=l8.out;omega
   have hno:v.ownBlock≠some (w.heap.size+1):=HO.out.no (by omega);obtain⟨v3,IQ⟩:=HV.out;have hS:=aa (show ∀u1:World,Hid (Below wr.drew.heap.size wr.drew u1)→(u1.cell? ⟨w.heap.size+1,3,none⟩=some v∧u1.cell? ⟨b,o+k,none⟩=some (.int .i64 x)∧Hid (Below wr.drew.heap.size wr.drew u1))from fun u1 h1=>⟨cell_below (w:=wr.drew) v3 h1.out,cell_below (w:=wr.drew) hc h1.out,h1⟩);have HOWN:=aa hown;clear hx hkl hown v3 IQ hc;go_wp2;refine bV (S:=fun w'=>w'.cell? ⟨w.heap.size+1,3,none⟩=some v∧w'.cell? ⟨b,o+k,none⟩=some (.int .i64 x)∧Hid (Below wr.drew.heap.size wr.drew w')) (E:= [8,9,10]) (by kernel_rfl) (hS.out _ (aa (Below.refl _ _))) (fun hHeld=>?_);refine b_ 0 ?_;refine b_ 1 ?_;refine b_ 2 ?_;refine b_ 3 ?_;refine b_ 4 ?_;refine b_ 5 ?_;refine b_ 6 ?_;refine dh 7 fun K hK=>?_;go_simp;refine hK.out _ _ ?_ (fun hHeld=>?_)
   · exact hS.out _ (aa (af _ _))
   clear hK K
   try simp only[qq]
   refine oz 8 fun K hK=>?_
   refine step_append_lies _ (by rfl) _ _ _ (by rfl) (w.heap.size+2) 117 i0 _ 4 64 Tryz.underlying115 hi hz0 hz1 hz2 rfl (by omega) v k (((l.take k).map aR).flatMap aY) (by rfl) ((HOWN.out.alloc _).drew)
    ⟨wr.heap.size,0,none⟩ 1 1 [.int .i64 1, .int .i64 x, .slice none 0 0, .slice none 0 0] (by rfl) (by rfl) (World.news_of_block (cs:=#[.int .i64 1, .int .i64 x, .slice none 0 0, .slice none 0 0]) (t:=117) (fr:=(0,0)) (heap_alloc_new wr _)) (by simp[Value.oneCell'])
    (by omega) (by unfold maxLen;omega) (by omega) (by simp;omega) (wr.heap.size+1) (by simp) ?_;intro gg cap wz hown1 hgrow hat hlt2
   have JZ:=aJ (w:=(wr.alloc (.cells #[.int .i64 1, .int .i64 x, .slice none 0 0, .slice none 0 0] 117)).drew) (HV.out.below (af wr (.cells #[.int .i64 1, .int .i64 x, .slice none 0 0, .slice none 0 0] 117)).drew) hgrow hno;have XQ:=JZ;obtain⟨p2,f2⟩:=XQ;refine hK.out _ _ ?_;clear hK K
   try simp only[qq]
   refine oz 9 fun K hK=>?_;go_simp;refine hK.out _ _ ?_;clear hK K
   try simp only[qq]
   refine oz 10 fun K hK=>?_;go_simp;refine hK.out _ _ ?_;clear hK K
   try simp only[qq]
   refine gM ?_;have HB2:Hid (Below (w.heap.size+1) W wz):=aa (((aD.out.alloc (by omega) (.cells #[.int .i64 1, .int .i64 x, .slice none 0 0, .slice none 0 0] 117)).drew).grown hgrow (by simp;omega) (fun j hj=>by have:=(World.ownsRow.lt HOWN.out j hj).1;omega))
   have tu:Hid (d_ wz (w.heap.size+2) (.slice (some ⟨gg,0,none⟩) (k+1) cap) ((l.take (k+1)).map aR)):=aa (by
    rw[zO.out]
    exact d_.app tC.out.symm hown1)
   have hd:=(Below.refl wr.heap.size wr);have a0:=aJ (w:=(wr.alloc (.cells #[.int .i64 1, .int .i64 x, .slice none 0 0, .slice none 0 0] 117)).drew) (qh.out.1.below (af wr (.cells #[.int .i64 1, .int .i64 x, .slice none 0 0, .slice none 0 0] 117)).drew) hgrow hno;have a1:=aJ (w:=(wr.alloc (.cells #[.int .i64 1, .int .i64 x, .slice none 0 0, .slice none 0 0] 117)).drew) (qh.out.2.1.below (af wr (.cells #[.int .i64 1, .int .i64 x, .slice none 0 0, .slice none 0 0] 117)).drew) hgrow hno;have a2:=aJ (w:=(wr.alloc (.cells #[.int .i64 1, .int .i64 x, .slice none 0 0, .slice none 0 0] 117)).drew) (qh.out.2.2.below (af wr (.cells #[.int .i64 1, .int .i64 x, .slice none 0 0, .slice none 0 0] 117)).drew) hgrow hno;have wu:Hid (Own (wz.setCell ⟨w.heap.size+1,3,none⟩ (.slice (some ⟨gg,0,none⟩) (k+1) cap)) ⟨w.heap.size+1,3,none⟩ (.slice (some ⟨gg,0,none⟩) (k+1) cap)):=aa (bu JZ);have Aq:Hid (d_ (wz.setCell ⟨w.heap.size+1,3,none⟩ (.slice (some ⟨gg,0,none⟩) (k+1) cap)) (w.heap.size+2) (.slice (some ⟨gg,0,none⟩) (k+1) cap) ((l.take (k+1)).map aR)):=aa (tu.out.set (by omega))
   have TZ:Hid (Own (wz.setCell ⟨w.heap.size+1,3,none⟩ (.slice (some ⟨gg,0,none⟩) (k+1) cap)) ⟨w.heap.size+1,0,none⟩ (.int .i64 3)∧Own (wz.setCell ⟨w.heap.size+1,3,none⟩ (.slice (some ⟨gg,0,none⟩) (k+1) cap)) ⟨w.heap.size+1,1,none⟩ (.int .i64 0)∧Own (wz.setCell ⟨w.heap.size+1,3,none⟩ (.slice (some ⟨gg,0,none⟩) (k+1) cap)) ⟨w.heap.size+1,2,none⟩ (.slice none 0 0)):=
    aa ⟨ak a0 (by simp),ak a1 (by simp),ak a2 (by simp)⟩
   have l5:Hid (Below (w.heap.size+1) W (wz.setCell ⟨w.heap.size+1,3,none⟩ (.slice (some ⟨gg,0,none⟩) (k+1) cap))):=aa (HB2.out.setCell (Nat.le_refl _) _);clear hown1 hgrow HO qh HV p2 f2 a0 a1 a2 HB2 tu JZ hd;go_wp2
   go_roundw
   case rel=>exact⟨k+1,_,by omega,by go_num,wu,Aq,TZ,l5⟩
   case measure=>simp[intOf];omega
  ·
   have yY:Hid (d_ wr (w.heap.size+2) v (l.map aR)):=aa (by
    have h:=HO.out
    rwa [List.take_of_length_le (by have:=hn.out;omega)]at h)
   obtain⟨L,cl,UX⟩:=yY.out.len;rw[List.length_map,hn.out]at UX;subst UX;obtain⟨p0,p0f⟩:=qh.out.1;obtain⟨p1,p1f⟩:=qh.out.2.1;obtain⟨p2,p2f⟩:=qh.out.2.2;obtain⟨p3,p3f⟩:=HV.out;have HGr:=HG.out;have r0:=(aD.out.cell (p:=⟨w.heap.size,0,none⟩) (Nat.lt_succ_self _)).trans HG.out.1.1;have r1:=(aD.out.cell (p:=⟨w.heap.size,1,none⟩) (Nat.lt_succ_self _)).trans HG.out.1.2.1;have r2:=(aD.out.cell (p:=⟨w.heap.size,2,none⟩) (Nat.lt_succ_self _)).trans HG.out.1.2.2.1;have r3:=(aD.out.cell (p:=⟨w.heap.size,3,none⟩) (Nat.lt_succ_self _)).trans HG.out.1.2.2.2;have z0:=(aD.out.frozen (p:=⟨w.heap.size,0,none⟩) (Nat.lt_succ_self _)).trans (HG.out.2 0);have z1:=(aD.out.frozen (p:=⟨w.heap.size,1,none⟩) (Nat.lt_succ_self _)).trans (HG.out.2 1);have z2:=(aD.out.frozen (p:=⟨w.heap.size,2,none⟩) (Nat.lt_succ_self _)).trans (HG.out.2 2);have z3:=(aD.out.frozen (p:=⟨w.heap.size,3,none⟩) (Nat.lt_succ_self _)).trans (HG.out.2 3);have u_:=aa (cu.out.trans (aD.out.mono (Nat.le_succ _)));clear qh HV HO HGr;obtain⟨WF,uY⟩:∃u,(((wr.setCell ⟨w.heap.size,0,none⟩ (.int .i64 3)).setCell ⟨w.heap.size,1,none⟩ (.int .i64 0)).setCell ⟨w.heap.size,2,none⟩ (.slice none 0 0)).setCell ⟨w.heap.size,3,none⟩ (.slice L n cl)=u:=⟨_,rfl⟩
   have hgB:WF.heap[w.heap.size]? = some (.cells #[.int .i64 3, .int .i64 0, .slice none 0 0, .slice L n cl] 117 (0,0)):=by
    have h0:=(aD.out.block w.heap.size (Nat.lt_succ_self _)).trans MX.out;rw[←uY,heap_setCell_same _ _ _ _ _ _ (heap_setCell_same _ _ _ _ _ _ (heap_setCell_same _ _ _ _ _ _ (heap_setCell_same _ _ _ _ _ _ h0)))]
    rfl
   have Fs:Hid (d_ WF (w.heap.size+2) (.slice L n cl) (l.map aR)):=aa (by
    rw[←uY]
    exact(((yY.out.set (by omega)).set (by omega)).set (by omega)).set (by omega))
   have gU:Hid (Below w.heap.size w WF):=aa (by
    rw[←uY]
    exact(((u_.out.setCell (Nat.le_refl _) _).setCell (Nat.le_refl _) _).setCell (Nat.le_refl _) _).setCell (Nat.le_refl _) _)
   have Bz:=Gw (lo:=w.heap.size) Fs.out (by omega);rw[hn.out]at Bz;have HIT:=aa Bz;have Yu:Kp ((loadVar 117 ⟨w.heap.size,0,none⟩).run Tryz.prog WF = .ok (.agg #[.int .i64 3, .int .i64 0, .slice none 0 0, .slice L n cl]) WF):=⟨run_loadVar_row _ _ _ _ _ _ _ hgB Tryz.underlying117 rfl (by kernel_rfl)⟩;have HWF:=aa uY;clear Bz yY Fs hgB uY;go_wp2;rw[HWF.out];exact bodyPost_ret (v:= .agg #[.int .i64 3, .int .i64 0, .slice none 0 0, .slice L n cl]) (aK (p:=2) (ty:=117) rfl _ _ ⟨w.heap.size,0,none⟩ _ rfl Yu.out) rfl ⟨⟨3,0,none,0,0,L,n,cl⟩,rfl,HIT.out,gU.out⟩
theorem xy (h:List Int)(hl:Hid (h.length=32))(w:World) :
  Calls Tryz.prog 146 #[.agg (arr .u8 h)] w (pG (.byt h) w):=by
 obtain⟨i1,hi1,hy0,hy1,hy2⟩:=info_parts eB;obtain⟨W,hW⟩:∃W,((w.alloc (.cells (arr .u8 h) 41)).alloc (.cells #[.int .i64 0, .int .i64 0, .slice none 0 0, .slice none 0 0] 117)).alloc (.cells #[.int .i64 2, .int .i64 0, .slice none 0 0, .slice none 0 0] 117)=W:=⟨_,rfl⟩;have cu:Hid (Below w.heap.size w W):=aa (by rw[←hW];exact ag (ag (af _ _) (af _ _)) (af _ _));have l8:Hid (W.heap.size=w.heap.size+3):=aa (by rw[←hW];simp);have yZ:Hid (bS .u8 41 W w.heap.size h):=aa (by rw[←hW];exact((bS.new w h).old _).old _);have MX:Hid (W.heap[w.heap.size+1]? = some (.cells #[.int .i64 0, .int .i64 0, .slice none 0 0, .slice none 0 0] 117)):=aa (by rw[←hW];exact bQ (heap_alloc2_new _ _ _) (af _ _));have hb2:W.heap[w.heap.size+2]? = some (.cells #[.int .i64 2, .int .i64 0, .slice none 0 0, .slice none 0 0] 117):=by rw[←hW];exact iZ _ _ _ _
 have HX:Hid (Own W ⟨w.heap.size+2,0,none⟩ (.int .i64 2)∧Own W ⟨w.heap.size+2,1,none⟩ (.int .i64 0)∧Own W ⟨w.heap.size+2,3,none⟩ (.slice none 0 0)):=aa ⟨⟨au hb2 0,ay hb2 0⟩,⟨au hb2 1,ay hb2 1⟩,⟨au hb2 3,ay hb2 3⟩⟩;have HL:Hid (Own W ⟨w.heap.size+2,2,none⟩ (.slice none 0 0)):=aa ⟨au hb2 2,ay hb2 2⟩;have HW:=aa hW;clear hW hb2;go_in;go_wp2;rw[HW.out]
 go_loopw [4] (fun i u=>∃(k:Nat) (v:Value),k≤32∧i = .int .i64 k∧Hid (Own u ⟨w.heap.size+2,2,none⟩ v)∧Hid (aV .u8 5 u (w.heap.size+3) v (h.take k))∧Hid (Own u ⟨w.heap.size+2,0,none⟩ (.int .i64 2)∧Own u ⟨w.heap.size+2,1,none⟩ (.int .i64 0)∧Own u ⟨w.heap.size+2,3,none⟩ (.slice none 0 0))∧Hid (Below (w.heap.size+2) W u)) (fun i _=>32-(intOf i).toNat)
 case atStart=>exact⟨0,_,by omega,rfl,HL,aa (tT _ _),HX,aa (Below.refl _ _)⟩
 case round=>
  obtain⟨k,v,hk,rfl,HV,HO,qh,aD⟩:=hrel
  by_cases hlt:k<32
  ·
   have hc:=(aD.out.cell (p:=⟨w.heap.size,k,none⟩) (by simp)).trans (yZ.out.cell (j:=k) (by rw[hl.out];exact hlt));have zO:=aa (take_one (xs:=h) (k:=k) (by rw[hl.out];exact hlt));obtain⟨x,hx⟩:∃x,h.getD k 0=x:=⟨_,rfl⟩;rw[hx]at hc zO;have tC:Hid ((h.take k).length=k):=aa (by rw[List.length_take,hl.out];omega);have hown:wr.ownsRow (w.heap.size+3) 5 1 v k ((h.take k).map (Value.int .u8)):=HO.out.row tC.out;have hbs:w.heap.size+3≤wr.heap.size:=by have:=aD.out.size;have:=l8.out;omega
   have hno:v.ownBlock≠some (w.heap.size+2):=fun e=>by have:=(HO.out.lt _ e).1;omega
   obtain⟨v3,IQ⟩:=HV.out;have hS:=aa (show ∀u1:World,Hid (Below wr.drew.heap.size wr.drew u1)→(u1.cell? ⟨w.heap.size+2,2,none⟩=some v∧u1.cell? ⟨w.heap.size,k,none⟩=some (.int .u8 x)∧Hid (Below wr.drew.heap.size wr.drew u1))from fun u1 h1=>⟨cell_below (w:=wr.drew) v3 h1.out,cell_below (w:=wr.drew) hc h1.out,h1⟩);have HOWN:=aa hown;clear hx hown v3 IQ hc;go_wp2;refine bV (S:=fun w'=>w'.cell? ⟨w.heap.size+2,2,none⟩=some v∧w'.cell? ⟨w.heap.size,k,none⟩=some (.int .u8 x)∧Hid (Below wr.drew.heap.size wr.drew w')) (E:= [6,7,8]) (by kernel_rfl) (hS.out _ (aa (Below.refl _ _))) (fun hHeld=>?_);refine b_ 0 ?_;refine b_ 1 ?_;refine b_ 2 ?_;refine b_ 3 ?_;refine b_ 4 ?_;refine dh 5 fun K hK=>?_;go_simp;refine hK.out _ _ ?_ (fun hHeld=>?_)
   · exact hS.out _ (aa (af _ _))
   clear hK K
   try simp only[qq]
   refine oz 6 fun K hK=>?_
   refine step_append_lies _ (by rfl) _ _ _ (by rfl) (w.heap.size+3) 5 i1 _ 1 1 Tryz.underlying114 hi1 hy0 hy1 hy2 rfl (by omega) v k ((h.take k).map (Value.int .u8)) (by rfl) ((HOWN.out.alloc _).drew)
    ⟨wr.heap.size,0,none⟩ 1 1 [.int .u8 x] (by rfl) (by rfl) (World.news_of_block (cs:=#[.int .u8 x]) (t:=5) (fr:=(0,0)) (heap_alloc_new wr _)) (by simp[Value.oneCell'])
    (by omega) (by unfold maxLen;omega) (by omega) (by simp;omega) (wr.heap.size+1) (by simp) ?_;intro gg cap wz hown1 hgrow hat hlt2
   have JZ:=aJ (w:=(wr.alloc (.cells #[.int .u8 x] 5)).drew) (HV.out.below (af wr (.cells #[.int .u8 x] 5)).drew) hgrow hno;have XQ:=JZ;obtain⟨p2,f2⟩:=XQ;refine hK.out _ _ ?_;clear hK K
   try simp only[qq]
   refine oz 7 fun K hK=>?_;go_simp;refine hK.out _ _ ?_;clear hK K
   try simp only[qq]
   refine oz 8 fun K hK=>?_;go_simp;refine hK.out _ _ ?_;clear hK K
   try simp only[qq]
   refine gM ?_;have HB2:Hid (Below (w.heap.size+2) W wz):=aa (((aD.out.alloc (by omega) (.cells #[.int .u8 x] 5)).drew).grown hgrow (by simp;omega) (fun j hj=>by have:=(World.ownsRow.lt HOWN.out j hj).1;omega))
   have tu:Hid (aV .u8 5 wz (w.heap.size+3) (.slice (some ⟨gg,0,none⟩) (k+1) cap) (h.take (k+1))):=aa (by
    rw[zO.out]
    exact aV.app tC.out.symm rfl hown1)
   have a0:=aJ (w:=(wr.alloc (.cells #[.int .u8 x] 5)).drew) (qh.out.1.below (af wr (.cells #[.int .u8 x] 5)).drew) hgrow hno;have a1:=aJ (w:=(wr.alloc (.cells #[.int .u8 x] 5)).drew) (qh.out.2.1.below (af wr (.cells #[.int .u8 x] 5)).drew) hgrow hno;have a2:=aJ (w:=(wr.alloc (.cells #[.int .u8 x] 5)).drew) (qh.out.2.2.below (af wr (.cells #[.int .u8 x] 5)).drew) hgrow hno;have wu:Hid (Own (wz.setCell ⟨w.heap.size+2,2,none⟩ (.slice (some ⟨gg,0,none⟩) (k+1) cap)) ⟨w.heap.size+2,2,none⟩ (.slice (some ⟨gg,0,none⟩) (k+1) cap)):=aa (bu JZ);have Aq:Hid (aV .u8 5 (wz.setCell ⟨w.heap.size+2,2,none⟩ (.slice (some ⟨gg,0,none⟩) (k+1) cap)) (w.heap.size+3) (.slice (some ⟨gg,0,none⟩) (k+1) cap) (h.take (k+1))):=aa (tu.out.kept (jF _ _ _ _) (Or.inr (fun e=>by have:=(tu.out.lt _ e).1;omega)));have TZ:Hid (Own (wz.setCell ⟨w.heap.size+2,2,none⟩ (.slice (some ⟨gg,0,none⟩) (k+1) cap)) ⟨w.heap.size+2,0,none⟩ (.int .i64 2)∧Own (wz.setCell ⟨w.heap.size+2,2,none⟩ (.slice (some ⟨gg,0,none⟩) (k+1) cap)) ⟨w.heap.size+2,1,none⟩ (.int .i64 0)∧Own (wz.setCell ⟨w.heap.size+2,2,none⟩ (.slice (some ⟨gg,0,none⟩) (k+1) cap)) ⟨w.heap.size+2,3,none⟩ (.slice none 0 0)):=aa ⟨ak a0 (by simp),ak a1 (by simp),ak a2 (by simp)⟩;have l5:Hid (Below (w.heap.size+2) W (wz.setCell ⟨w.heap.size+2,2,none⟩ (.slice (some ⟨gg,0,none⟩) (k+1) cap))):=aa (HB2.out.setCell (Nat.le_refl _) _);clear hown1 hgrow HO qh HV p2 f2 a0 a1 a2 HB2 tu JZ;go_wp2
   go_roundw
   case rel=>exact⟨k+1,_,by omega,by go_num,wu,Aq,TZ,l5⟩
   case measure=>simp[intOf];omega
  ·
   obtain rfl:k=32:=by omega
   have yY:Hid (aV .u8 5 wr (w.heap.size+3) v h):=aa (by
    have h9:=HO.out
    rwa [List.take_of_length_le (by rw[hl.out];exact Nat.le_refl _)]at h9)
   obtain⟨g,cap,hv,hg,-,-,hsk⟩:=yY.out.cells (by rw[hl.out];decide);rw[hl.out]at hv;subst hv;obtain⟨p0,p0f⟩:=qh.out.1;obtain⟨p1,p1f⟩:=qh.out.2.1;obtain⟨p2,p2f⟩:=qh.out.2.2;obtain⟨p3,p3f⟩:=HV.out;have IB:=aa hsk;have jU:Hid (wr.heap[w.heap.size+1]? = some (.cells #[.int .i64 0, .int .i64 0, .slice none 0 0, .slice none 0 0] 117)):=aa ((aD.out.block _ (by omega)).trans MX.out);have u_:=aa (cu.out.trans (aD.out.mono (by omega)));clear qh HV HO yY hsk
   go_wp2_with ((with_reducible show wpList _ _ _ (⟨none,_,_,_,_,_⟩::_) _ _);refine wpList_store_row rfl 117 _ _ rfl (w.heap.size+1) (Ic.cs (aQ (some ⟨g,0,none⟩) 32 cap)) rfl rfl _ _ jU.out (dz _) rfl (kQ _) ?_)
   have hit:rY w.heap.size (wr.setRow (w.heap.size+1) (Ic.cs (aQ (some ⟨g,0,none⟩) 32 cap))) (.byt h) (aQ (some ⟨g,0,none⟩) 32 cap):=Er (IB.out.setRow (by omega)) (by omega) hl.out;have bT:=aj u_.out (cs:=Ic.cs (aQ (some ⟨g,0,none⟩) 32 cap)) (Nat.le_add_right w.heap.size 1);have hrw:=setRow_heap _ _ _ (Ic.cs (aQ (some ⟨g,0,none⟩) 32 cap)) _ _ jU.out;exact bodyPost_ret (v:=(aQ (some ⟨g,0,none⟩) 32 cap).val) (aK (p:=2) (ty:=117) rfl _ _ ⟨w.heap.size+1,0,none⟩ _ rfl (run_loadVar_row _ _ _ _ _ _ _ hrw Tryz.underlying117 rfl (dz _))) rfl ⟨_,rfl,hit,bT⟩
theorem p8 (n:Int)(w:World) :
  Calls Tryz.prog 134 #[.int .i64 n] w fun e w'=>e = .returned (aR n).val∧Below w.heap.size w w':=by
 have fH:Hid ((w.alloc (.cells #[.int .i64 0, .int .i64 0, .slice none 0 0, .slice none 0 0] 117)).heap[w.heap.size]? = some (.cells #[.int .i64 0, .int .i64 0, .slice none 0 0, .slice none 0 0] 117 (0,0))):=aa (heap_alloc_new _ _);go_in
 go_wp2_with ((with_reducible show wpList _ _ _ (⟨none,_,_,_,_,_⟩::_) _ _);refine wpList_store_row rfl 117 _ _ rfl w.heap.size (Ic.cs (aR n)) rfl rfl _ _ fH.out (dz _) rfl (kQ _) ?_)
 have hrw:=setRow_heap _ _ _ (Ic.cs (aR n)) _ _ fH.out;exact bodyPost_ret (v:=(aR n).val) (aK (p:=2) (ty:=117) rfl _ _ ⟨w.heap.size,0,none⟩ _ rfl (run_loadVar_row _ _ _ _ _ _ _ hrw Tryz.underlying117 rfl (dz _))) rfl ⟨rfl,aj (af _ _) (Nat.le_refl _)⟩
theorem tK (L:Option Addr)(n c:Nat)(w:World) :
  Calls Tryz.prog 133 #[.slice L n c] w fun e w'=>e = .returned (Ic.mk 3 0 none 0 0 L n c).val∧Below w.heap.size w w':=by
 have fH:Hid ((w.alloc (.cells #[.int .i64 0, .int .i64 0, .slice none 0 0, .slice none 0 0] 117)).heap[w.heap.size]? = some (.cells #[.int .i64 0, .int .i64 0, .slice none 0 0, .slice none 0 0] 117 (0,0))):=aa (heap_alloc_new _ _);go_in
 go_wp2_with ((with_reducible show wpList _ _ _ (⟨none,_,_,_,_,_⟩::_) _ _);refine wpList_store_row rfl 117 _ _ rfl w.heap.size (Ic.cs (Ic.mk 3 0 none 0 0 L n c)) rfl rfl _ _ fH.out (dz _) rfl (kQ _) ?_)
 have hrw:=setRow_heap _ _ _ (Ic.cs (Ic.mk 3 0 none 0 0 L n c)) _ _ fH.out;exact bodyPost_ret (v:=(Ic.mk 3 0 none 0 0 L n c).val) (aK (p:=2) (ty:=117) rfl _ _ ⟨w.heap.size,0,none⟩ _ rfl (run_loadVar_row _ _ _ _ _ _ _ hrw Tryz.underlying117 rfl (dz _))) rfl ⟨rfl,aj (af _ _) (Nat.le_refl _)⟩
theorem FZ (s:ByteArray)(hs0:1≤s.size)(hs1:s.size≤1000)(w:World) :
  Calls Tryz.prog 135 #[.string s] w (pG (.byt (bq s)) w):=by
 have hcv:=fun w=>run_bytes_of_string (P:=Tryz.prog) w 9 114 5 s Tryz.underlying9 Tryz.underlying114 Tryz.underlying5;obtain⟨W,hW⟩:∃W,w.alloc (.cells #[.int .i64 0, .int .i64 0, .slice none 0 0, .slice none 0 0] 117)=W:=⟨_,rfl⟩;have l8:Hid (W.heap.size=w.heap.size+1):=aa (by rw[←hW];simp);have fH:Hid (W.heap[w.heap.size]? = some (.cells #[.int .i64 0, .int .i64 0, .slice none 0 0, .slice none 0 0] 117 (0,0))):=aa (by rw[←hW];exact heap_alloc_new _ _);have HB0:Hid (Below w.heap.size w W):=aa (by rw[←hW];exact af _ _);have HW:=aa hW;clear hW;obtain⟨gc,hgc⟩:∃g,grownCap W s.size 0 5=g:=⟨_,rfl⟩;obtain⟨Wc,hWc⟩:∃u,(W.alloc (.cells (bytesRow s gc) 5 ((bytesRow s gc).size,(bytesRow s gc).size+1))).drew=u:=⟨_,rfl⟩;have uC:Hid (Below W.heap.size W Wc):=aa (by rw[←hWc];exact(af _ _).drew);have HSc:Hid (Sk .u8 Wc (some ⟨W.heap.size,0,none⟩) (bq s)):=aa (by rw[←hWc];exact(nN (heap_alloc_new W _)).below ((Below.refl _ _).drew));have HRc:Hid (Wc.heap[w.heap.size]? = some (.cells #[.int .i64 0, .int .i64 0, .slice none 0 0, .slice none 0 0] 117 (0,0))):=aa (bQ fH.out uC.out);go_in
 go_upto_region 1 with(fail)
 rw[HW.out]
 go_wp2_with ((with_reducible show wpList _ _ _ (⟨none,_,_,_,_,_⟩::_) _ _);refine wpList_store_row rfl 117 _ _ rfl w.heap.size (Ic.cs (aQ (some ⟨W.heap.size,0,none⟩) s.size gc)) rfl rfl _ _ HRc.out (dz _) rfl (kQ _) ?_)
 have hit:rY w.heap.size (Wc.setRow w.heap.size (Ic.cs (aQ (some ⟨W.heap.size,0,none⟩) s.size gc))) (.byt (bq s)) (aQ (some ⟨W.heap.size,0,none⟩) s.size gc):=Er (HSc.out.setRow (by have:=l8.out;omega)) (by have:=l8.out;omega) (bP s);have bT:=aj (ag HB0.out uC.out) (cs:=Ic.cs (aQ (some ⟨W.heap.size,0,none⟩) s.size gc)) (Nat.le_refl w.heap.size);have hrw:=setRow_heap _ _ _ (Ic.cs (aQ (some ⟨W.heap.size,0,none⟩) s.size gc)) _ _ HRc.out;exact bodyPost_ret (v:=(aQ (some ⟨W.heap.size,0,none⟩) s.size gc).val) (aK (p:=2) (ty:=117) rfl _ _ ⟨w.heap.size,0,none⟩ _ rfl (run_loadVar_row _ _ _ _ _ _ _ hrw Tryz.underlying117 rfl (dz _))) rfl ⟨_,rfl,hit,bT⟩
theorem Bf (E1 E2:Int)(A:Option Addr)(na ca:Nat)(al:List Int)(C:Int)(Z:Option Addr)(nz cz:Nat)(zs:List Int)(hna:Hid (al.length=na))(hnz:Hid (zs.length=nz))(hb1:na≤1000)(hb2:nz≤1000)(w:World)(hA:Hid (Sl w A al))(hZ:Hid (Sl w Z zs)) :
  Calls Tryz.prog 136 #[CE E1 E2 A na ca C Z nz cz] w (pG (M8 E1 E2 al C zs) w):=by
 obtain⟨w0,HW,ai,kC⟩:=st2 (GY E1 E2 A na ca C Z nz cz) MN (.cells #[.int .i64 0, .int .i64 0, .slice none 0 0, .slice none 0 0] 117) sZ w;have kA:=mkS ai hA;have kZ:=mkS ai hZ;have nZ:=Cj (w0:=w0) (o:= .cells #[.int .i64 0, .int .i64 0, .slice none 0 0, .slice none 0 0] 117) (w.heap.size+1) (by rw[←HW.out];exact heap_alloc2_new _ _ _);have ah:=bI w0;clear hA hZ;go_in
 go_wp2_with fail
 rw[HW.out];have zc:=kC.out _ ah;have lV:Hid (w0.heap.size=w.heap.size+2):=aa (by rw[←HW.out];simp)
 go_upto_region 1 with(fail)
 clear zc;have hO:=kC;have pJ:=bJ (aa ah.out) (Below.refl _ _).drew;refine uG (fun u=>Below w0.heap.size w0 u) [20] pJ (fun hHeld=>?_);obtain⟨wD,pq⟩:∃u,w0.drew=u:=⟨_,rfl⟩;rw[pq]at pJ hHeld ⊢;have BV:Hid (w0.heap.size≤wD.heap.size):=aa (by rw[←pq];exact Nat.le_refl _);clear pq;refine aP 0 1 2 3 ?_;refine aP 6 7 8 10 ?_;refine aP 11 12 13 14 ?_;refine aL 15 ?_;refine aL 16 ?_;have FB:=pJ;obtain⟨u1,hw,HQ,-,-,-⟩:=pO (.cells #[.int .i64 (E1), .int .i64 (E2)] 3) sZ wD;have pI:=aa hw;clear hw;refine dh 4 fun K hK=>?_;go_simp;rw[pI.out];have aX:=bJ FB HQ.out;refine hK.out _ _ aX (fun hHeld=>?_);clear hK K hHeld;have FE:Hid (Fj u1 (wD.heap.size) (E1) (E2)):=by rw[←pI.out];exact(aa (Fj.new wD (E1) (E2)))
 obtain⟨gE,hg⟩:∃x,wD.heap.size=x:=⟨_,rfl⟩;rw[hg]at FE ⊢;clear hg;have FB:=aX;clear aX pI HQ
 try simp only[qq,Ic.val,Ic.cs,aR,aQ]
 refine dh 5 fun K hK=>?_;go_simp;refine(oD (some ⟨gE,0,none⟩) [E1,E2] 2 2 (aa rfl) (by omega) _ (aa FE.out.sl)).mono ?_;rintro e u2 ⟨cE,rfl,hit,hq⟩;have aX:=bJ FB hq;refine hK.out _ _ aX (fun hHeld=>?_);clear hK K hHeld;have FE:=aa (FE.out.below hq);have HE:=(aa (hit.mono (by have:=FB.out.size;omega)));have FB:=aX;clear aX
 try simp only[qq,Ic.val,Ic.cs,aR,aQ]
 refine dh 9 fun K hK=>?_;go_simp;refine(oD A al na ca hna (by omega) _ (kA.out _ (aa FB.out))).mono ?_;rintro e u3 ⟨cA,rfl,hit,hq⟩;have aX:=bJ FB hq;refine hK.out _ _ aX (fun hHeld=>?_);clear hK K hHeld;have FE:=aa (FE.out.below hq);have HE:=aa (HE.out.kept hq);have HA:=(aa (hit.mono (by have:=FB.out.size;omega)));have FB:=aX;clear aX
 try simp only[qq,Ic.val,Ic.cs,aR,aQ]
 refine dh 17 fun K hK=>?_;go_simp;refine(oD Z zs nz cz hnz (by omega) _ (kZ.out _ (aa FB.out))).mono ?_;rintro e u4 ⟨cZ,rfl,hit,hq⟩;have aX:=bJ FB hq;refine hK.out _ _ aX (fun hHeld=>?_);clear hK K hHeld;have FE:=aa (FE.out.below hq);have HE:=aa (HE.out.kept hq);have HA:=aa (HA.out.kept hq);have HZ:=(aa (hit.mono (by have:=FB.out.size;omega)));have FB:=aX;clear aX
 try simp only[qq,Ic.val,Ic.cs,aR,aQ]
 obtain⟨u,hw,HQ,-,-,-⟩:=pO (.cells #[.int .i64 cE.kind, .int .i64 cE.n, .slice cE.B cE.nb cE.cb, .slice cE.L cE.nl cE.cl, .int .i64 cA.kind, .int .i64 cA.n, .slice cA.B cA.nb cA.cb, .slice cA.L cA.nl cA.cl, .int .i64 1, .int .i64 C, .slice none 0 0, .slice none 0 0, .int .i64 cZ.kind, .int .i64 cZ.n, .slice cZ.B cZ.nb cZ.cb, .slice cZ.L cZ.nl cZ.cl] 117) sZ u4;have pI:=aa hw;clear hw;refine dh 18 fun K hK=>?_;go_simp;rw[pI.out];have aX:=bJ FB HQ.out;refine hK.out _ _ aX (fun hHeld=>?_);clear hK K hHeld;have FE:=aa (FE.out.below HQ.out);have HE:=aa (HE.out.kept HQ.out);have HA:=aa (HA.out.kept HQ.out);have HZ:=aa (HZ.out.kept HQ.out);have FL:Hid (u.heap[(u4.heap.size)]? = some (.cells #[.int .i64 cE.kind, .int .i64 cE.n, .slice cE.B cE.nb cE.cb, .slice cE.L cE.nl cE.cl, .int .i64 cA.kind, .int .i64 cA.n, .slice cA.B cA.nb cA.cb, .slice cA.L cA.nl cA.cl, .int .i64 1, .int .i64 C, .slice none 0 0, .slice none 0 0, .int .i64 cZ.kind, .int .i64 cZ.n, .slice cZ.B cZ.nb cZ.cb, .slice cZ.L cZ.nl cZ.cl] 117)):=by rw[←pI.out];exact(aa (heap_alloc_new u4 _))
 have nJ:Hid (w0.heap.size≤(u4.heap.size)):=(aa (by have:=FB.out.size;omega));obtain⟨gL,hg⟩:∃x,u4.heap.size=x:=⟨_,rfl⟩;rw[hg]at FL nJ ⊢;clear hg;have FB:=aX;clear aX pI HQ
 try simp only[qq,Ic.val,Ic.cs,aR,aQ]
 have hHeld:=FB;have hT:=trivial;have ha0:=trivial;have vJ:=FB;refine b_ 19 ?_;have qZ:=nZ.out _ (aa FB.out);refine oz 20 fun K hK=>?_;rw[show(if Region.wanted _ _=true then _ else _:Prop)=_ from if_pos rfl];refine wp_store_row 117 _ _ rfl (w.heap.size+1) (Ic.cs ⟨3,0,none,0,0,some ⟨gL,0,none⟩,4,4⟩) rfl rfl 117 _ qZ.out (dz _) rfl (kQ _) ?_;refine hK.out _ _ ?_;clear hK K
 try simp only[qq]
 refine gM ?_
 have hit:rY w0.heap.size u (M8 E1 E2 al C zs) ⟨3,0,none,0,0,some ⟨gL,0,none⟩,4,4⟩:=uK (fun k=>match k with | 0=>cE | 1=>cA | 2=>aR C | _=>cZ) FL.out nJ.out rfl (fun k hk=>by
   rcases (show k=0∨k=1∨k=2∨k=3 by omega)with rfl | rfl | rfl | rfl <;> exact⟨rfl,rfl,rfl,rfl⟩) (fun k hk=>by
   rcases (show k=0∨k=1∨k=2∨k=3 by omega)with rfl | rfl | rfl | rfl
   · exact HE.out
   · exact HA.out
   · exact qb _ _ _
   · exact HZ.out)
 have hit2:=(hit.setRow (g:=w.heap.size+1) (by have:=lV.out;omega) (Ic.cs ⟨3,0,none,0,0,some ⟨gL,0,none⟩,4,4⟩)).mono (lo':=w.heap.size) (by have:=lV.out;omega);have bT:=aj (ag ai.out FB.out) (cs:=Ic.cs ⟨3,0,none,0,0,some ⟨gL,0,none⟩,4,4⟩) (Nat.le_add_right w.heap.size 1);have hrw:=setRow_heap _ _ _ (Ic.cs ⟨3,0,none,0,0,some ⟨gL,0,none⟩,4,4⟩) _ _ qZ.out;go_wp2;exact bodyPost_ret (v:=(Ic.mk 3 0 none 0 0 (some ⟨gL,0,none⟩) 4 4).val) (aK (p:=2) (ty:=117) rfl _ _ ⟨w.heap.size+1,0,none⟩ _ rfl (run_loadVar_row _ _ _ _ _ _ _ hrw Tryz.underlying117 rfl (dz _))) rfl ⟨_,rfl,hit2,bT⟩
theorem jD (A:Option Addr)(na ca:Nat)(C:Int)(Z:Option Addr)(nz cz:Nat)(r:Bool)(hr:Hid (wO na nz=r))(w:World) :
  Calls Tryz.prog 129 #[jL A na ca C Z nz cz] w (Rt w (.bool r)):=by
 have HX:=af w (fU A na ca C Z nz cz);have hr1:=hr.out;unfold wO at hr1
 by_cases h0:na≤20
 ·
  have d0:decide ((na:Int)≤20)=true:=by simp;omega
  by_cases h1:nz≤20
  ·
   have d1:decide ((nz:Int)≤20)=true:=by simp;omega
   obtain rfl:r=true:=by rw[←hr1];simp;omega
   clear hr1 hr;go_in;go_wp2;go_ret;exact⟨rfl,HX⟩
  ·
   have d1:decide ((nz:Int)≤20)=false:=by simp;omega
   obtain rfl:r=false:=by rw[←hr1];simp;omega
   clear hr1 hr;go_in;go_wp2;go_ret;exact⟨rfl,HX⟩
 ·
  have d0:decide ((na:Int)≤20)=false:=by simp;omega
  obtain rfl:r=false:=by rw[←hr1];simp;omega
  clear hr1 hr;go_in;go_wp2;go_ret;exact⟨rfl,HX⟩
theorem EA (L:Option Addr)(ps:List aS)(n c:Nat)(x:Int)(r:Bool)(hr:Hid (EC ps x n=r))(hn:Hid (n≤ps.length))(hbig:n<1000000)(w:World)(hs:Hid (Pa w L ps)) :
  Calls Tryz.prog 78 #[.slice L n c, .int .i64 x] w (Rt w (.bool (!r))):=by
 go_in;go_wp2
 go_loopw [5] (fun i wr=>∃k:Nat,k≤n∧i = .int .i64 k∧Hid (EC ps x k=true)∧Hid (Below w.heap.size w wr)) (fun i _=>n-(intOf i).toNat)
 case atStart=>exact⟨0,by omega,rfl,aa rfl,aa (Below.refl _ _)⟩
 case round=>
  obtain⟨k,hk,rfl,HR,aD⟩:=hrel
  by_cases hlt:k<n
  ·
   have hkl:k<ps.length:=by have:=hn.out;omega
   obtain⟨b,o,hA,i0,i1,i2,i3,i4,_⟩:=(hs.out.below aD.out) k hkl;subst hA
   cases hpx:((ps.getD k aC).ix == x)with
   | false=>
    have HN:Hid (EC ps x (k+1)=true):=aa (by rw[EC,HR.out,bne,hpx];rfl);obtain⟨p,hp⟩:∃p,ps.getD k aC=p:=⟨_,rfl⟩;rw[hp]at i0 hpx;clear hp hkl HR i1 i2 i3 i4;go_wp2
    go_roundw
    case rel=>exact⟨k+1,by omega,by go_num,HN,aD⟩
    case measure=>simp[intOf];omega
   | true=>
    obtain rfl:r=false:=by
     cases hrr:r with
     | false=>rfl
     | true=>exact absurd (by simpa using hpx) (uL (hr.out.trans hrr) k hlt)
    obtain⟨p,hp⟩:∃p,ps.getD k aC=p:=⟨_,rfl⟩;rw[hp]at i0 hpx;clear hp hkl HR i1 i2 i3 i4;go_wp2;go_ret;exact⟨rfl,aD.out⟩
  ·
   obtain rfl:k=n:=by omega
   obtain rfl:r=true:=hr.out.symm.trans HR.out;clear HR;go_wp2;go_ret;exact⟨rfl,aD.out⟩
theorem VZ (o:aG)(h:o.num<0)(w:World) :
  Calls Tryz.prog 139 #[zD o] w (Rt w (.bool false)):=by
 have K4:decide (o.num<0)=true:=by simp;omega
 obtain⟨w0,HW,ai,kC⟩:=st1 (l6 o) zq w;have ah:=bI w0;go_in
 go_upto_region 1 with(fail)
 rw[HW.out];have zc:=kC.out _ ah;go_wp2;go_ret;exact⟨rfl,f_ ai ah⟩
theorem VY (o:aG)(h1:0≤o.num)(h:100≤o.num)(w:World) :
  Calls Tryz.prog 139 #[zD o] w (Rt w (.bool false)):=by
 have K4:decide (o.num<0)=false:=by simp;omega
 have Iz:decide ((100:Int)≤o.num)=true:=by simp;omega
 obtain⟨w0,HW,ai,kC⟩:=st1 (l6 o) zq w;have ah:=bI w0;go_in
 go_upto_region 1 with(fail)
 rw[HW.out];have zc:=kC.out _ ah;go_wp2;go_ret;exact⟨rfl,f_ ai ah⟩
theorem RY (o:aG)(h1:0≤o.num)(h2:o.num<100)(h:o.rs.size<1)(w:World) :
  Calls Tryz.prog 139 #[zD o] w (Rt w (.bool false)):=by
 have K4:decide (o.num<0)=false:=by simp;omega
 have Iz:decide ((100:Int)≤o.num)=false:=by simp;omega
 have dr0:decide ((o.rs.size:Int)<1)=true:=by simp;omega
 obtain⟨w0,HW,ai,kC⟩:=st1 (l6 o) zq w;have ah:=bI w0;go_in
 go_upto_region 1 with(fail)
 rw[HW.out];have zc:=kC.out _ ah;go_wp2;go_ret;exact⟨rfl,f_ ai ah⟩
theorem RX (o:aG)(h1:0≤o.num)(h2:o.num<100)(h5:1≤o.rs.size)(h:200<o.rs.size)(w:World) :
  Calls Tryz.prog 139 #[zD o] w (Rt w (.bool false)):=by
 have K4:decide (o.num<0)=false:=by simp;omega
 have Iz:decide ((100:Int)≤o.num)=false:=by simp;omega
 have dr0:decide ((o.rs.size:Int)<1)=false:=by simp;omega
 have dr1:decide ((200:Int)<(o.rs.size:Int))=true:=by simp;omega
 obtain⟨w0,HW,ai,kC⟩:=st1 (l6 o) zq w;have ah:=bI w0;go_in
 go_upto_region 1 with(fail)
 rw[HW.out];have zc:=kC.out _ ah;go_wp2;go_ret;exact⟨rfl,f_ ai ah⟩
theorem VX (o:aG)(h1:0≤o.num)(h2:o.num<100)(h5:1≤o.rs.size)(h6:o.rs.size≤200)(hsh:Hid (wO o.na o.nz=false))(w:World) :
  Calls Tryz.prog 139 #[zD o] w (Rt w (.bool false)):=by
 have K4:decide (o.num<0)=false:=by simp;omega
 have Iz:decide ((100:Int)≤o.num)=false:=by simp;omega
 have dr0:decide ((o.rs.size:Int)<1)=false:=by simp;omega
 have dr1:decide ((200:Int)<(o.rs.size:Int))=false:=by simp;omega
 obtain⟨w0,HW,ai,kC⟩:=st1 (l6 o) zq w;have ah:=bI w0;go_in
 go_upto_region 1 with(fail)
 rw[HW.out];have zc:=kC.out _ ah
 go_wp2_with fail
 clear zc;refine fe kC ah (jD o.A o.na o.ca o.C o.Z o.nz o.cz false hsh _) fun w1 ax zc=>?_;go_wp2;go_ret;exact⟨rfl,f_ ai ax⟩
theorem VW (o:aG)(h1:0≤o.num)(h2:o.num<100)(h5:1≤o.rs.size)(h6:o.rs.size≤200)(hsh:Hid (wO o.na o.nz=true))(h3:¬o.np≤8)(w:World) :
  Calls Tryz.prog 139 #[zD o] w (Rt w (.bool false)):=by
 have K4:decide (o.num<0)=false:=by simp;omega
 have Iz:decide ((100:Int)≤o.num)=false:=by simp;omega
 have dr0:decide ((o.rs.size:Int)<1)=false:=by simp;omega
 have dr1:decide ((200:Int)<(o.rs.size:Int))=false:=by simp;omega
 have dp8:decide ((8:Int)<(o.np:Int))=true:=by simp;omega
 obtain⟨w0,HW,ai,kC⟩:=st1 (l6 o) zq w;have ah:=bI w0;go_in
 go_upto_region 1 with(fail)
 rw[HW.out];have zc:=kC.out _ ah
 go_wp2_with fail
 clear zc;refine fe kC ah (jD o.A o.na o.ca o.C o.Z o.nz o.cz true hsh _) fun w1 ax zc=>?_;go_wp2;go_ret;exact⟨rfl,f_ ai ax⟩
theorem VV (o:aG)(h1:0≤o.num)(h2:o.num<100)(h5:1≤o.rs.size)(h6:o.rs.size≤200)(hsh:Hid (wO o.na o.nz=true))(h3:o.np≤8)(h4:¬0≤o.key)(w:World) :
  Calls Tryz.prog 139 #[zD o] w (Rt w (.bool false)):=by
 have K4:decide (o.num<0)=false:=by simp;omega
 have Iz:decide ((100:Int)≤o.num)=false:=by simp;omega
 have dr0:decide ((o.rs.size:Int)<1)=false:=by simp;omega
 have dr1:decide ((200:Int)<(o.rs.size:Int))=false:=by simp;omega
 have dp8:decide ((8:Int)<(o.np:Int))=false:=by simp;omega
 have dk0:decide (o.key<0)=true:=by simp;omega
 obtain⟨w0,HW,ai,kC⟩:=st1 (l6 o) zq w;have ah:=bI w0;go_in
 go_upto_region 1 with(fail)
 rw[HW.out];have zc:=kC.out _ ah
 go_wp2_with fail
 clear zc;refine fe kC ah (jD o.A o.na o.ca o.C o.Z o.nz o.cz true hsh _) fun w1 ax zc=>?_;go_wp2;go_ret;exact⟨rfl,f_ ai ax⟩
theorem VU (o:aG)(h1:0≤o.num)(h2:o.num<100)(h5:1≤o.rs.size)(h6:o.rs.size≤200)(hsh:Hid (wO o.na o.nz=true))(h3:o.np≤8)(h4:0≤o.key)(w:World)(ho:Hid (dM w o)) :
  Calls Tryz.prog 139 #[zD o] w (Rt w (.bool (mo o.ps o.np))):=by
 have K4:decide (o.num<0)=false:=by simp;omega
 have Iz:decide ((100:Int)≤o.num)=false:=by simp;omega
 have dr0:decide ((o.rs.size:Int)<1)=false:=by simp;omega
 have dr1:decide ((200:Int)<(o.rs.size:Int))=false:=by simp;omega
 have dp8:decide ((8:Int)<(o.np:Int))=false:=by simp;omega
 have dk0:decide (o.key<0)=false:=by simp;omega
 obtain⟨w0,HW,ai,kC⟩:=st1 (l6 o) zq w;have kO:=fo (fun u=>dM u o) ai ho (·.below);have ah:=bI w0;clear ho;go_in
 go_upto_region 1 with(fail)
 rw[HW.out];have zc:=kC.out _ ah
 go_wp2_with fail
 clear zc;refine fe kC ah (jD o.A o.na o.ca o.C o.Z o.nz o.cz true hsh _) fun w1 ax zc=>?_;go_wp2;clear zc
 go_loopw [3] (fun i wr=>∃k:Nat,k≤o.np∧i = .int .i64 k∧Hid (mo o.ps k=true)∧Hid (Below w0.heap.size w0 wr)) (fun i _=>o.np-(intOf i).toNat)
 case atStart=>exact⟨0,by omega,rfl,aa rfl,ax⟩
 case round=>
  obtain⟨k,hk,rfl,HR,aD⟩:=hrel
  by_cases hlt:k<o.np
  ·
   obtain⟨ok1,Me,⟨Md,UG⟩,UI,UH,Mc⟩:=(kO.out _ aD).out;have hkl:k<o.ps.length:=by rw[Md];exact hlt
   obtain⟨b,f,hA,j0,j1,j2,j3,j4,j5⟩:=Mc k hkl;clear j5;have Ih:=aa Mc;have HKP:Hid (k≤o.ps.length):=aa (by omega);have hkc:k≤o.cp:=by omega
   clear ok1 Me Md UI UH Mc hkl;obtain⟨p,hp⟩:∃p,o.ps.getD k aC=p:=⟨_,rfl⟩;have oI:=aa hp;rw[hp]at j0 j1 j2 j3 j4;obtain⟨LA,Xh⟩:∃x,o.L=x:=⟨_,rfl⟩;have Ar:=aa Xh;rw[Xh]at hA Ih;subst hA;clear hp Xh
   by_cases hx0:p.ix<1
   ·
    have Y6:decide (p.ix<1)=true:=by simp;omega
    have HF:Hid (mo o.ps o.np=false):=aa (ng (k:=k) (by rw[xA,oI.out];simp;omega) hlt);clear HR;have eZ:=bI wr;have kP:=nQ (w:=wr) (fun u=>Pa u (some ⟨b,f,none⟩) o.ps) Ih.out (·.below);obtain⟨yw,yu,za,y_,Ct,EZ,EY,AB,IK⟩:=kC.out _ aD;rw[Ar.out]at AB
    have kC:=aa (show ∀u:World,Hid (Below w0.heap.size w0 u)→u.cell? ⟨w.heap.size,0,none⟩=some (.int .i64 o.num)∧u.cell? ⟨w.heap.size,1,none⟩=some (.string o.rs)∧u.cell? ⟨w.heap.size,2,none⟩=some (.int .i64 o.E1)∧u.cell? ⟨w.heap.size,3,none⟩=some (.int .i64 o.E2)∧u.cell? ⟨w.heap.size,4,none⟩=some (.slice o.A o.na o.ca)∧u.cell? ⟨w.heap.size,5,none⟩=some (.int .i64 o.C)∧u.cell? ⟨w.heap.size,6,none⟩=some (.slice o.Z o.nz o.cz)∧u.cell? ⟨w.heap.size,7,none⟩=some (.slice (some ⟨b,f,none⟩) o.np o.cp)∧u.cell? ⟨w.heap.size,8,none⟩=some (.int .i64 o.key)from fun u h=>by
     have hk:=kC.out u h;rw[Ar.out]at hk
     exact hk)
    obtain⟨w2,hw,lW,yV,-,kS⟩:=pO (sM p) vF wr;have az:=iW aD lW;have bM:=iW eZ lW;have aM:=bI w2;clear lW;have pK:=kC.out _ az;have l_:=kS.out _ aM
    go_upto_region 7 with(fail)
    clear yw yu za y_ Ct EZ EY AB IK pK l_ hw;have zc:=kC.out _ az;have jW:=kS.out _ aM;clear j0 j1 j2 j3 j4;clear zc jW;have hO:=aa (fun(u:World) (h:Hid (Below w0.heap.size w0 u∧Below wr.heap.size wr u∧Below w2.heap.size w2 u))=>And.intro (kC.out u (aa h.out.1)) (kS.out u (aa h.out.2.2)));refine uG (fun u=>Below w0.heap.size w0 u∧Below wr.heap.size wr u∧Below w2.heap.size w2 u) [] (bb3 (aa ⟨az.out,bM.out,aM.out⟩) ((Below.refl _ _).drew)) (fun hHeld=>?_);refine aP 0 1 2 3 ?_;refine lC 4 ?_;refine lC 5 ?_;refine lC 6 ?_;refine aL 7 ?_;refine aL 8 ?_;refine eO 9 10 11 12 ?_;refine lC 13 ?_;refine lC 14 ?_;refine lC 15 ?_;refine aL 16 ?_;refine aL 17 ?_;refine eO 18 19 20 21 ?_;refine aL 22 ?_;refine gM ?_;clear hO;have fP:=(aa hHeld.out.1);have nP:=(aa hHeld.out.2.1);have r_:=(aa hHeld.out.2.2);clear hHeld;have zc:=kC.out _ fP;have jW:=kS.out _ r_;have bT:=ag ai.out fP.out;go_wp2;go_ret;exact⟨(by rw[HF.out];try rfl),bT⟩
   ·
    by_cases hx1:8<p.ix
    ·
     have Y6:decide (p.ix<1)=false:=by simp;omega
     have dx1:decide ((8:Int)<p.ix)=true:=by simp;omega
     have HF:Hid (mo o.ps o.np=false):=aa (ng (k:=k) (by rw[xA,oI.out];simp;omega) hlt);clear HR;have eZ:=bI wr;have kP:=nQ (w:=wr) (fun u=>Pa u (some ⟨b,f,none⟩) o.ps) Ih.out (·.below);obtain⟨yw,yu,za,y_,Ct,EZ,EY,AB,IK⟩:=kC.out _ aD;rw[Ar.out]at AB
     have kC:=aa (show ∀u:World,Hid (Below w0.heap.size w0 u)→u.cell? ⟨w.heap.size,0,none⟩=some (.int .i64 o.num)∧u.cell? ⟨w.heap.size,1,none⟩=some (.string o.rs)∧u.cell? ⟨w.heap.size,2,none⟩=some (.int .i64 o.E1)∧u.cell? ⟨w.heap.size,3,none⟩=some (.int .i64 o.E2)∧u.cell? ⟨w.heap.size,4,none⟩=some (.slice o.A o.na o.ca)∧u.cell? ⟨w.heap.size,5,none⟩=some (.int .i64 o.C)∧u.cell? ⟨w.heap.size,6,none⟩=some (.slice o.Z o.nz o.cz)∧u.cell? ⟨w.heap.size,7,none⟩=some (.slice (some ⟨b,f,none⟩) o.np o.cp)∧u.cell? ⟨w.heap.size,8,none⟩=some (.int .i64 o.key)from fun u h=>by
      have hk:=kC.out u h;rw[Ar.out]at hk
      exact hk)
     obtain⟨w2,hw,lW,yV,-,kS⟩:=pO (sM p) vF wr;have az:=iW aD lW;have bM:=iW eZ lW;have aM:=bI w2;clear lW;have pK:=kC.out _ az;have l_:=kS.out _ aM
     go_upto_region 7 with(fail)
     clear yw yu za y_ Ct EZ EY AB IK pK l_ hw;have zc:=kC.out _ az;have jW:=kS.out _ aM;clear j0 j1 j2 j3 j4;clear zc jW;have hO:=aa (fun(u:World) (h:Hid (Below w0.heap.size w0 u∧Below wr.heap.size wr u∧Below w2.heap.size w2 u))=>And.intro (kC.out u (aa h.out.1)) (kS.out u (aa h.out.2.2)));refine uG (fun u=>Below w0.heap.size w0 u∧Below wr.heap.size wr u∧Below w2.heap.size w2 u) [] (bb3 (aa ⟨az.out,bM.out,aM.out⟩) ((Below.refl _ _).drew)) (fun hHeld=>?_);refine aP 0 1 2 3 ?_;refine aP 4 5 6 7 ?_;refine aL 8 ?_;refine eO 9 10 11 12 ?_;refine lC 13 ?_;refine lC 14 ?_;refine lC 15 ?_;refine aL 16 ?_;refine aL 17 ?_;refine eO 18 19 20 21 ?_;refine aL 22 ?_;refine gM ?_;clear hO;have fP:=(aa hHeld.out.1);have nP:=(aa hHeld.out.2.1);have r_:=(aa hHeld.out.2.2);clear hHeld;have zc:=kC.out _ fP;have jW:=kS.out _ r_;have bT:=ag ai.out fP.out;go_wp2;go_ret;exact⟨(by rw[HF.out];try rfl),bT⟩
    ·
     cases hfr:EC o.ps p.ix k with
     | true=>
      cases hss:wO p.na p.nz with
      | true=>
       have Y6:decide (p.ix<1)=false:=by simp;omega
       have dx1:decide ((8:Int)<p.ix)=false:=by simp;omega
       have HS:Hid (mo o.ps (k+1)=true):=aa (by rw[mo,HR.out,xA,oI.out];simp[hfr,hss];omega);have QX:=aa hfr;have Fp:=aa hss;clear hfr hss HR;have eZ:=bI wr;have kP:=nQ (w:=wr) (fun u=>Pa u (some ⟨b,f,none⟩) o.ps) Ih.out (·.below);obtain⟨yw,yu,za,y_,Ct,EZ,EY,AB,IK⟩:=kC.out _ aD;rw[Ar.out]at AB
       have kC:=aa (show ∀u:World,Hid (Below w0.heap.size w0 u)→u.cell? ⟨w.heap.size,0,none⟩=some (.int .i64 o.num)∧u.cell? ⟨w.heap.size,1,none⟩=some (.string o.rs)∧u.cell? ⟨w.heap.size,2,none⟩=some (.int .i64 o.E1)∧u.cell? ⟨w.heap.size,3,none⟩=some (.int .i64 o.E2)∧u.cell? ⟨w.heap.size,4,none⟩=some (.slice o.A o.na o.ca)∧u.cell? ⟨w.heap.size,5,none⟩=some (.int .i64 o.C)∧u.cell? ⟨w.heap.size,6,none⟩=some (.slice o.Z o.nz o.cz)∧u.cell? ⟨w.heap.size,7,none⟩=some (.slice (some ⟨b,f,none⟩) o.np o.cp)∧u.cell? ⟨w.heap.size,8,none⟩=some (.int .i64 o.key)from fun u h=>by
        have hk:=kC.out u h;rw[Ar.out]at hk
        exact hk)
       obtain⟨w2,hw,lW,yV,-,kS⟩:=pO (sM p) vF wr;have az:=iW aD lW;have bM:=iW eZ lW;have aM:=bI w2;clear lW;have pK:=kC.out _ az;have l_:=kS.out _ aM
       go_upto_region 7 with(fail)
       clear yw yu za y_ Ct EZ EY AB IK pK l_ hw;have zc:=kC.out _ az;have jW:=kS.out _ aM;clear j0 j1 j2 j3 j4;clear zc jW;have hO:=aa (fun(u:World) (h:Hid (Below w0.heap.size w0 u∧Below wr.heap.size wr u∧Below w2.heap.size w2 u))=>And.intro (kC.out u (aa h.out.1)) (kS.out u (aa h.out.2.2)));refine uG (fun u=>Below w0.heap.size w0 u∧Below wr.heap.size wr u∧Below w2.heap.size w2 u) [] (bb3 (aa ⟨az.out,bM.out,aM.out⟩) ((Below.refl _ _).drew)) (fun hHeld=>?_);refine aP 0 1 2 3 ?_;refine aP 4 5 6 7 ?_;refine aP 8 9 10 11 ?_;refine aL 12 ?_;refine aL 13 ?_;refine aL 14 ?_;refine dh 15 fun K hK=>?_;go_simp;refine(EA (some ⟨b,f,none⟩) o.ps k o.cp p.ix true QX HKP (by omega) _ (kP.out _ (aa hHeld.out.2.1))).mono ?_;rintro e wA ⟨rfl,bN⟩;refine hK.out _ _ (bb3 hHeld bN) (fun hHeld=>?_);clear hK K;refine aP 16 17 18 19 ?_;refine dh 20 fun K hK=>?_;go_simp;refine(jD p.A p.na p.ca p.C p.Z p.nz p.cz true Fp _).mono ?_;rintro e wA ⟨rfl,bN⟩;refine hK.out _ _ (bb3 hHeld bN) (fun hHeld=>?_);clear hK K;refine aL 21 ?_;refine aL 22 ?_;refine gM ?_;clear hO;have fP:=(aa hHeld.out.1);have nP:=(aa hHeld.out.2.1);have r_:=(aa hHeld.out.2.2);clear hHeld;have zc:=kC.out _ fP;have jW:=kS.out _ r_;go_wp2
       go_roundw
       case rel=>exact⟨k+1,by omega,by go_num,HS,fP⟩
       case measure=>simp[intOf];omega
      | false=>
       have Y6:decide (p.ix<1)=false:=by simp;omega
       have dx1:decide ((8:Int)<p.ix)=false:=by simp;omega
       have HF:Hid (mo o.ps o.np=false):=aa (ng (k:=k) (by rw[xA,oI.out];simp[hss]) hlt);have QX:=aa hfr;have Fp:=aa hss;clear hfr hss HR;have eZ:=bI wr;have kP:=nQ (w:=wr) (fun u=>Pa u (some ⟨b,f,none⟩) o.ps) Ih.out (·.below);obtain⟨yw,yu,za,y_,Ct,EZ,EY,AB,IK⟩:=kC.out _ aD;rw[Ar.out]at AB
       have kC:=aa (show ∀u:World,Hid (Below w0.heap.size w0 u)→u.cell? ⟨w.heap.size,0,none⟩=some (.int .i64 o.num)∧u.cell? ⟨w.heap.size,1,none⟩=some (.string o.rs)∧u.cell? ⟨w.heap.size,2,none⟩=some (.int .i64 o.E1)∧u.cell? ⟨w.heap.size,3,none⟩=some (.int .i64 o.E2)∧u.cell? ⟨w.heap.size,4,none⟩=some (.slice o.A o.na o.ca)∧u.cell? ⟨w.heap.size,5,none⟩=some (.int .i64 o.C)∧u.cell? ⟨w.heap.size,6,none⟩=some (.slice o.Z o.nz o.cz)∧u.cell? ⟨w.heap.size,7,none⟩=some (.slice (some ⟨b,f,none⟩) o.np o.cp)∧u.cell? ⟨w.heap.size,8,none⟩=some (.int .i64 o.key)from fun u h=>by
        have hk:=kC.out u h;rw[Ar.out]at hk
        exact hk)
       obtain⟨w2,hw,lW,yV,-,kS⟩:=pO (sM p) vF wr;have az:=iW aD lW;have bM:=iW eZ lW;have aM:=bI w2;clear lW;have pK:=kC.out _ az;have l_:=kS.out _ aM
       go_upto_region 7 with(fail)
       clear yw yu za y_ Ct EZ EY AB IK pK l_ hw;have zc:=kC.out _ az;have jW:=kS.out _ aM;clear j0 j1 j2 j3 j4;clear zc jW;have hO:=aa (fun(u:World) (h:Hid (Below w0.heap.size w0 u∧Below wr.heap.size wr u∧Below w2.heap.size w2 u))=>And.intro (kC.out u (aa h.out.1)) (kS.out u (aa h.out.2.2)));refine uG (fun u=>Below w0.heap.size w0 u∧Below wr.heap.size wr u∧Below w2.heap.size w2 u) [] (bb3 (aa ⟨az.out,bM.out,aM.out⟩) ((Below.refl _ _).drew)) (fun hHeld=>?_);refine aP 0 1 2 3 ?_;refine aP 4 5 6 7 ?_;refine aP 8 9 10 11 ?_;refine aL 12 ?_;refine aL 13 ?_;refine aL 14 ?_;refine dh 15 fun K hK=>?_;go_simp;refine(EA (some ⟨b,f,none⟩) o.ps k o.cp p.ix true QX HKP (by omega) _ (kP.out _ (aa hHeld.out.2.1))).mono ?_;rintro e wA ⟨rfl,bN⟩;refine hK.out _ _ (bb3 hHeld bN) (fun hHeld=>?_);clear hK K;refine aP 16 17 18 19 ?_;refine dh 20 fun K hK=>?_;go_simp;refine(jD p.A p.na p.ca p.C p.Z p.nz p.cz false Fp _).mono ?_;rintro e wA ⟨rfl,bN⟩;refine hK.out _ _ (bb3 hHeld bN) (fun hHeld=>?_);clear hK K;refine aL 21 ?_;refine aL 22 ?_;refine gM ?_;clear hO;have fP:=(aa hHeld.out.1);have nP:=(aa hHeld.out.2.1);have r_:=(aa hHeld.out.2.2);clear hHeld;have zc:=kC.out _ fP;have jW:=kS.out _ r_;have bT:=ag ai.out fP.out;go_wp2;go_ret;exact⟨(by rw[HF.out];try rfl),bT⟩
     | false=>
      have Y6:decide (p.ix<1)=false:=by simp;omega
      have dx1:decide ((8:Int)<p.ix)=false:=by simp;omega
      have HF:Hid (mo o.ps o.np=false):=aa (ng (k:=k) (by rw[xA,oI.out];simp[hfr]) hlt);have QX:=aa hfr;clear hfr HR;have eZ:=bI wr;have kP:=nQ (w:=wr) (fun u=>Pa u (some ⟨b,f,none⟩) o.ps) Ih.out (·.below);obtain⟨yw,yu,za,y_,Ct,EZ,EY,AB,IK⟩:=kC.out _ aD;rw[Ar.out]at AB
      have kC:=aa (show ∀u:World,Hid (Below w0.heap.size w0 u)→u.cell? ⟨w.heap.size,0,none⟩=some (.int .i64 o.num)∧u.cell? ⟨w.heap.size,1,none⟩=some (.string o.rs)∧u.cell? ⟨w.heap.size,2,none⟩=some (.int .i64 o.E1)∧u.cell? ⟨w.heap.size,3,none⟩=some (.int .i64 o.E2)∧u.cell? ⟨w.heap.size,4,none⟩=some (.slice o.A o.na o.ca)∧u.cell? ⟨w.heap.size,5,none⟩=some (.int .i64 o.C)∧u.cell? ⟨w.heap.size,6,none⟩=some (.slice o.Z o.nz o.cz)∧u.cell? ⟨w.heap.size,7,none⟩=some (.slice (some ⟨b,f,none⟩) o.np o.cp)∧u.cell? ⟨w.heap.size,8,none⟩=some (.int .i64 o.key)from fun u h=>by
       have hk:=kC.out u h;rw[Ar.out]at hk
       exact hk)
      obtain⟨w2,hw,lW,yV,-,kS⟩:=pO (sM p) vF wr;have az:=iW aD lW;have bM:=iW eZ lW;have aM:=bI w2;clear lW;have pK:=kC.out _ az;have l_:=kS.out _ aM
      go_upto_region 7 with(fail)
      clear yw yu za y_ Ct EZ EY AB IK pK l_ hw;have zc:=kC.out _ az;have jW:=kS.out _ aM;clear j0 j1 j2 j3 j4;clear zc jW;have hO:=aa (fun(u:World) (h:Hid (Below w0.heap.size w0 u∧Below wr.heap.size wr u∧Below w2.heap.size w2 u))=>And.intro (kC.out u (aa h.out.1)) (kS.out u (aa h.out.2.2)));refine uG (fun u=>Below w0.heap.size w0 u∧Below wr.heap.size wr u∧Below w2.heap.size w2 u) [] (bb3 (aa ⟨az.out,bM.out,aM.out⟩) ((Below.refl _ _).drew)) (fun hHeld=>?_);refine aP 0 1 2 3 ?_;refine aP 4 5 6 7 ?_;refine aP 8 9 10 11 ?_;refine aL 12 ?_;refine aL 13 ?_;refine aL 14 ?_;refine dh 15 fun K hK=>?_;go_simp;refine(EA (some ⟨b,f,none⟩) o.ps k o.cp p.ix false QX HKP (by omega) _ (kP.out _ (aa hHeld.out.2.1))).mono ?_;rintro e wA ⟨rfl,bN⟩;refine hK.out _ _ (bb3 hHeld bN) (fun hHeld=>?_);clear hK K;refine aL 16 ?_;refine aL 17 ?_;refine eO 18 19 20 21 ?_;refine aL 22 ?_;refine gM ?_;clear hO;have fP:=(aa hHeld.out.1);have nP:=(aa hHeld.out.2.1);have r_:=(aa hHeld.out.2.2);clear hHeld;have zc:=kC.out _ fP;have jW:=kS.out _ r_;have bT:=ag ai.out fP.out;go_wp2;go_ret;exact⟨(by rw[HF.out];try rfl),bT⟩
  ·
   have hke:k=o.np:=by omega
   have HF:Hid (mo o.ps o.np=true):=aa (by rw[←hke];exact HR.out);have zc:=kC.out _ aD;have bT:=ag ai.out aD.out;rw[hke];go_wp2;go_ret;exact⟨(by rw[HF.out];try rfl),bT⟩
theorem IZ (o:aG)(r:Bool)(hr:Hid (Cw o=r))(w:World)(ho:Hid (dM w o)) :
  Calls Tryz.prog 139 #[zD o] w (Rt w (.bool r)):=by
 rw[←hr.out];unfold Cw
 by_cases h1:0≤o.num
 ·
  rw[decide_eq_true h1,Bool.true_and]
  by_cases h2:o.num<100
  ·
   rw[decide_eq_true h2,Bool.true_and];unfold LK
   by_cases h5:1≤o.rs.size
   ·
    rw[decide_eq_true h5,Bool.true_and]
    by_cases h6:o.rs.size≤200
    ·
     rw[decide_eq_true h6,Bool.true_and]
     cases hsh:wO o.na o.nz with
     | false=>exact VX o h1 h2 h5 h6 (aa hsh) w
     | true=>
      by_cases h3:o.np≤8
      ·
       rw[decide_eq_true h3]
       by_cases h4:0≤o.key
       ·
        rw[decide_eq_true h4];exact VU o h1 h2 h5 h6 (aa hsh) h3 h4 w ho
       ·
        rw[decide_eq_false h4];exact VV o h1 h2 h5 h6 (aa hsh) h3 h4 w
      ·
       rw[decide_eq_false h3];exact VW o h1 h2 h5 h6 (aa hsh) h3 w
    ·
     rw[decide_eq_false h6];exact RX o h1 h2 h5 (by omega) w
   ·
    rw[decide_eq_false h5];exact RY o h1 h2 (by omega) w
  ·
   rw[decide_eq_false h2];exact VY o h1 (by omega) w
 ·
  rw[decide_eq_false h1];exact VZ o (by omega) w
theorem LM (p:aS)(hna:Hid (p.al.length=p.na))(hnz:Hid (p.zs.length=p.nz))(hb1:p.na≤1000)(hb2:p.nz≤1000)(w:World)(hA:Hid (Sl w p.A p.al))(hZ:Hid (Sl w p.Z p.zs)) :
  Calls Tryz.prog 132 #[Gc p] w (pG (Ci p) w):=by
 obtain⟨w0,HW,ai,kC⟩:=st2 (sM p) MN (.cells #[.int .i64 0, .int .i64 0, .slice none 0 0, .slice none 0 0] 117) sZ w;have kA:=mkS ai hA;have kZ:=mkS ai hZ;have nZ:=Cj (w0:=w0) (o:= .cells #[.int .i64 0, .int .i64 0, .slice none 0 0, .slice none 0 0] 117) (w.heap.size+1) (by rw[←HW.out];exact heap_alloc2_new _ _ _);have ah:=bI w0;clear hA hZ;go_in
 go_wp2_with fail
 rw[HW.out];have zc:=kC.out _ ah;have lV:Hid (w0.heap.size=w.heap.size+2):=aa (by rw[←HW.out];simp)
 go_upto_region 1 with(fail)
 clear zc;have hO:=kC;have pJ:=bJ (aa ah.out) (Below.refl _ _).drew;refine uG (fun u=>Below w0.heap.size w0 u) [20] pJ (fun hHeld=>?_);obtain⟨wD,pq⟩:∃u,w0.drew=u:=⟨_,rfl⟩;rw[pq]at pJ hHeld ⊢;have BV:Hid (w0.heap.size≤wD.heap.size):=aa (by rw[←pq];exact Nat.le_refl _);clear pq;refine aP 0 1 2 3 ?_;refine aP 6 7 8 10 ?_;refine aP 11 12 14 15 ?_;refine aL 16 ?_;have FB:=pJ;obtain⟨u1,hw,HQ,-,-,-⟩:=pO (.cells #[.int .i64 (p.ix), .int .i64 (p.v)] 3) sZ wD;have pI:=aa hw;clear hw;refine dh 4 fun K hK=>?_;go_simp;rw[pI.out];have aX:=bJ FB HQ.out;refine hK.out _ _ aX (fun hHeld=>?_);clear hK K hHeld;have FE:Hid (Fj u1 (wD.heap.size) (p.ix) (p.v)):=by rw[←pI.out];exact(aa (Fj.new wD (p.ix) (p.v)))
 obtain⟨gE,hg⟩:∃x,wD.heap.size=x:=⟨_,rfl⟩;rw[hg]at FE ⊢;clear hg;have FB:=aX;clear aX pI HQ
 try simp only[qq,Ic.val,Ic.cs,aR,aQ]
 refine dh 5 fun K hK=>?_;go_simp;refine(oD (some ⟨gE,0,none⟩) [p.ix,p.v] 2 2 (aa rfl) (by omega) _ (aa FE.out.sl)).mono ?_;rintro e u2 ⟨cE,rfl,hit,hq⟩;have aX:=bJ FB hq;refine hK.out _ _ aX (fun hHeld=>?_);clear hK K hHeld;have FE:=aa (FE.out.below hq);have HE:=(aa (hit.mono (by have:=FB.out.size;omega)));have FB:=aX;clear aX
 try simp only[qq,Ic.val,Ic.cs,aR,aQ]
 refine dh 9 fun K hK=>?_;go_simp;refine(oD p.A p.al p.na p.ca hna (by omega) _ (kA.out _ (aa FB.out))).mono ?_;rintro e u3 ⟨cA,rfl,hit,hq⟩;have aX:=bJ FB hq;refine hK.out _ _ aX (fun hHeld=>?_);clear hK K hHeld;have FE:=aa (FE.out.below hq);have HE:=aa (HE.out.kept hq);have HA:=(aa (hit.mono (by have:=FB.out.size;omega)));have FB:=aX;clear aX
 try simp only[qq,Ic.val,Ic.cs,aR,aQ]
 refine dh 13 fun K hK=>?_;go_simp;refine(p8 p.C _).mono ?_;rintro e u4 ⟨rfl,hq⟩;have aX:=bJ FB hq;refine hK.out _ _ aX (fun hHeld=>?_);clear hK K hHeld;have FE:=aa (FE.out.below hq);have HE:=aa (HE.out.kept hq);have HA:=aa (HA.out.kept hq);have FB:=aX;clear aX
 try simp only[qq,Ic.val,Ic.cs,aR,aQ]
 refine dh 17 fun K hK=>?_;go_simp;refine(oD p.Z p.zs p.nz p.cz hnz (by omega) _ (kZ.out _ (aa FB.out))).mono ?_;rintro e u5 ⟨cZ,rfl,hit,hq⟩;have aX:=bJ FB hq;refine hK.out _ _ aX (fun hHeld=>?_);clear hK K hHeld;have FE:=aa (FE.out.below hq);have HE:=aa (HE.out.kept hq);have HA:=aa (HA.out.kept hq);have HZ:=(aa (hit.mono (by have:=FB.out.size;omega)));have FB:=aX;clear aX
 try simp only[qq,Ic.val,Ic.cs,aR,aQ]
 obtain⟨u6,hw,HQ,-,-,-⟩:=pO (.cells #[.int .i64 cE.kind, .int .i64 cE.n, .slice cE.B cE.nb cE.cb, .slice cE.L cE.nl cE.cl, .int .i64 cA.kind, .int .i64 cA.n, .slice cA.B cA.nb cA.cb, .slice cA.L cA.nl cA.cl, .int .i64 1, .int .i64 p.C, .slice none 0 0, .slice none 0 0, .int .i64 cZ.kind, .int .i64 cZ.n, .slice cZ.B cZ.nb cZ.cb, .slice cZ.L cZ.nl cZ.cl] 117) sZ u5;have pI:=aa hw;clear hw;refine dh 18 fun K hK=>?_;go_simp;rw[pI.out];have aX:=bJ FB HQ.out;refine hK.out _ _ aX (fun hHeld=>?_);clear hK K hHeld;have FE:=aa (FE.out.below HQ.out);have HE:=aa (HE.out.kept HQ.out);have HA:=aa (HA.out.kept HQ.out);have HZ:=aa (HZ.out.kept HQ.out);have FL:Hid (u6.heap[(u5.heap.size)]? = some (.cells #[.int .i64 cE.kind, .int .i64 cE.n, .slice cE.B cE.nb cE.cb, .slice cE.L cE.nl cE.cl, .int .i64 cA.kind, .int .i64 cA.n, .slice cA.B cA.nb cA.cb, .slice cA.L cA.nl cA.cl, .int .i64 1, .int .i64 p.C, .slice none 0 0, .slice none 0 0, .int .i64 cZ.kind, .int .i64 cZ.n, .slice cZ.B cZ.nb cZ.cb, .slice cZ.L cZ.nl cZ.cl] 117)):=by rw[←pI.out];exact(aa (heap_alloc_new u5 _))
 have nJ:Hid (w0.heap.size≤(u5.heap.size)):=(aa (by have:=FB.out.size;omega));obtain⟨gL,hg⟩:∃x,u5.heap.size=x:=⟨_,rfl⟩;rw[hg]at FL nJ ⊢;clear hg;have FB:=aX;clear aX pI HQ
 try simp only[qq,Ic.val,Ic.cs,aR,aQ]
 refine dh 19 fun K hK=>?_;go_simp;refine(tK (some ⟨gL,0,none⟩) 4 4 _).mono ?_;rintro e u ⟨rfl,hq⟩;have aX:=bJ FB hq;refine hK.out _ _ aX (fun hHeld=>?_);clear hK K hHeld;have FE:=aa (FE.out.below hq);have HE:=aa (HE.out.kept hq);have HA:=aa (HA.out.kept hq);have HZ:=aa (HZ.out.kept hq);have FL:=aa (bQ FL.out hq);have nJ:=nJ;have FB:=aX;clear aX
 try simp only[qq,Ic.val,Ic.cs,aR,aQ]
 have hHeld:=FB;have hT:=trivial;have ha0:=trivial;have vJ:=FB;have qZ:=nZ.out _ (aa FB.out);refine oz 20 fun K hK=>?_;rw[show(if Region.wanted _ _=true then _ else _:Prop)=_ from if_pos rfl];refine wp_store_row 117 _ _ rfl (w.heap.size+1) (Ic.cs (Ic.mk 3 0 none 0 0 (some ⟨gL,0,none⟩) 4 4)) rfl rfl 117 _ qZ.out (dz _) rfl (kQ _) ?_;refine hK.out _ _ ?_;clear hK K
 try simp only[qq]
 refine gM ?_
 have hit:rY w0.heap.size u (Ci p) (Ic.mk 3 0 none 0 0 (some ⟨gL,0,none⟩) 4 4):=uK (fun k9=>match k9 with | 0=>cE | 1=>cA | 2=>aR p.C | _=>cZ) FL.out nJ.out rfl (fun k9 hk=>by
   rcases (show k9=0∨k9=1∨k9=2∨k9=3 by omega)with rfl | rfl | rfl | rfl <;> exact⟨rfl,rfl,rfl,rfl⟩) (fun k9 hk=>by
   rcases (show k9=0∨k9=1∨k9=2∨k9=3 by omega)with rfl | rfl | rfl | rfl
   · exact HE.out
   · exact HA.out
   · exact qb _ _ _
   · exact HZ.out)
 have hit2:=(hit.setRow (g:=w.heap.size+1) (by have:=lV.out;omega) (Ic.cs (Ic.mk 3 0 none 0 0 (some ⟨gL,0,none⟩) 4 4))).mono (lo':=w.heap.size) (by have:=lV.out;omega);have bT:=aj (ag ai.out FB.out) (cs:=Ic.cs (Ic.mk 3 0 none 0 0 (some ⟨gL,0,none⟩) 4 4)) (Nat.le_add_right w.heap.size 1);have hrw:=setRow_heap _ _ _ (Ic.cs (Ic.mk 3 0 none 0 0 (some ⟨gL,0,none⟩) 4 4)) _ _ qZ.out;go_wp2;exact bodyPost_ret (v:=(Ic.mk 3 0 none 0 0 (some ⟨gL,0,none⟩) 4 4).val) (aK (p:=2) (ty:=117) rfl _ _ ⟨w.heap.size+1,0,none⟩ _ rfl (run_loadVar_row _ _ _ _ _ _ _ hrw Tryz.underlying117 rfl (dz _))) rfl ⟨_,rfl,hit2,bT⟩
theorem yD (o:aG)(hs:fE o)(w:World)(ho:Hid (dM w o)) :
  Calls Tryz.prog 82 #[zD o] w (pG (xJ o) w):=by
 obtain⟨w0,HW,ai,kC⟩:=st2 (l6 o) bp9 (.cells #[.int .i64 0, .int .i64 0, .slice none 0 0, .slice none 0 0] 117) sZ w;have kO:=fo (fun u=>dM u o) ai ho (·.below);have nZ:=Cj (w0:=w0) (o:= .cells #[.int .i64 0, .int .i64 0, .slice none 0 0, .slice none 0 0] 117) (w.heap.size+1) (by rw[←HW.out];exact heap_alloc2_new _ _ _);have ah:=bI w0;clear ho;go_in
 go_wp2_with fail
 rw[HW.out];have zc:=kC.out _ ah;have lV:Hid (w0.heap.size=w.heap.size+2):=aa (by rw[←HW.out];simp);go_wp2;clear zc;obtain⟨i0,hi,hz0,hz1,hz2⟩:=info_parts j_;obtain⟨⟨okn,UG⟩,ok8⟩:(o.ps.length=o.np∧o.np≤o.cp)∧o.ps.length≤8:=⟨((kO.out _ ah).out).2.2.1,hs.n⟩
 go_loopw [3,4] (fun v i u=>∃(k:Nat) (cs:List Ic),k≤o.np∧i = .int .i64 k∧Hid (cs.length=k)∧Hid (d_ u w0.heap.size v cs)∧Hid (∀j,j<k→IA v.ownBlock w0.heap.size u (Ci (o.ps.getD j aC)) (cs.getD j default))∧Hid (Below w0.heap.size w0 u)) (fun _ i _=>o.np-(intOf i).toNat)
 case atStart=>exact⟨0, [],by omega,rfl,aa rfl,aa (tV _ _),aa (fun j h=>absurd h (by omega)),ah⟩
 case round=>
  obtain⟨k,cs,hk,rfl,si,HO,HG,aD⟩:=hrel;obtain⟨v,rfl⟩:∃v9,v9=u3:=⟨_,rfl⟩
  by_cases hlt:k<o.np
  ·
   have hkl:k<o.ps.length:=by rw[okn];exact hlt
   obtain⟨b,f,hA,j0,j1,j2,j3,j4,j5⟩:=(kO.out _ aD).out.2.2.2.2.2 k hkl;have Ar:=aa hA;have hps:=hs.p _ (iL hkl);obtain⟨p,hp⟩:∃p,o.ps.getD k aC=p:=⟨_,rfl⟩;have oI:=aa hp;rw[hp]at j0 j1 j2 j3 j4 j5 hps;obtain⟨x1,x2,x3,x4⟩:=j5;have Zh:=aa x1;have Zg:=aa x2;have Re:=aa x3;have l8:=aa x4;obtain⟨Pf,Pe⟩:=hps;have U8:p.na≤20:=by rw[←x1];exact Pf
   have U7:p.nz≤20:=by rw[←x2];exact Pe
   clear hp hA hkl x1 x2 x3 x4 Pf Pe;obtain⟨LA,Xh⟩:∃x,o.L=x:=⟨_,rfl⟩;rw[Xh]at Ar;have HLB:=aa Xh;have aef:=Ar.out;subst aef;clear Xh;obtain⟨yw,yu,za,y_,Ct,EZ,EY,AB,IK,-⟩:=kC.out _ aD;rw[HLB.out]at AB;have jl:=bI wr
   go_wp2_with fail
   refine(LM p Zh Zg (by omega) (by omega) _ (aa Re.out) (aa l8.out)).mono ?_;rintro e w1 ⟨cP,rfl,hit,hb0⟩;have HIT:=aa hit;clear hit;rw[show cP.val = .agg #[.int .i64 cP.kind, .int .i64 cP.n, .slice cP.B cP.nb cP.cb, .slice cP.L cP.nl cP.cl]from rfl];have ax:=bJ aD hb0;have eZ:=bJ jl hb0;clear yw yu za y_ Ct EZ EY AB IK hb0;clear j0 j1 j2 j3 j4
   have hown:w1.ownsRow w0.heap.size 117 4 v k (cs.flatMap aY):=by
    have h:=HO.out.keep eZ.out;unfold d_ at h
    rwa [si.out]at h
   have hbz:=ax.out.size;have b1:k+1≤maxLen:=by unfold maxLen;omega
   have b2:(k+1)*64≤140737488355328:=by omega
   have b3:w0.heap.size≤(w1.alloc (.cells #[.int .i64 cP.kind, .int .i64 cP.n, .slice cP.B cP.nb cP.cb, .slice cP.L cP.nl cP.cl] 117)).heap.size:=by simp;omega
   go_wp2_with (at_builtin;refine wpList_append_lies rfl _ _ 115 rfl w0.heap.size 117 i0 (.agg #[.int .i64 0, .int .i64 0, .slice none 0 0, .slice none 0 0]) 4 64 Tryz.underlying115 hi hz0 hz1 hz2 rfl (by decide) v _ _ rfl (hown.alloc _) ⟨w1.heap.size,0,none⟩ 1 1 [.int .i64 cP.kind, .int .i64 cP.n, .slice cP.B cP.nb cP.cb, .slice cP.L cP.nl cP.cl] rfl rfl (World.news_of_block (cs:=#[.int .i64 cP.kind, .int .i64 cP.n, .slice cP.B cP.nb cP.cb, .slice cP.L cP.nl cP.cl]) (t:=117) (fr:=(0,0)) (heap_alloc_new w1 _)) (by simp[Value.oneCell']) (by decide) b1 b2 b3 _ rfl ?_;intro gg cap wz hown1 hgrow hgg hlt2)
   have hgz:(w1.alloc (.cells #[.int .i64 cP.kind, .int .i64 cP.n, .slice cP.B cP.nb cP.cb, .slice cP.L cP.nl cP.cl] 117)).heap.size≤wz.heap.size:=hgrow.size;have ah6:=eZ.out.size;have hsq:(w1.alloc (.cells #[.int .i64 cP.kind, .int .i64 cP.n, .slice cP.B cP.nb cP.cb, .slice cP.L cP.nl cP.cl] 117)).heap.size=w1.heap.size+1:=by simp
   have Aq:Hid (d_ wz w0.heap.size (.slice (some ⟨gg,0,none⟩) (k+1) cap) (cs ++ [cP])):=aa (d_.app si.out.symm (by simpa [aY]using hown1))
   have Ex:∀b,((.slice (some ⟨gg,0,none⟩) (k+1) cap):Value).ownBlock=some b→v.ownBlock=some b∨(w1.alloc (.cells #[.int .i64 cP.kind, .int .i64 cP.n, .slice cP.B cP.nb cP.cb, .slice cP.L cP.nl cP.cl] 117)).heap.size≤b:=fun b e=>by
    cases e
    rcases hgg with e | e
    · exact Or.inl e
    · exact Or.inr (show(w1.alloc (.cells #[.int .i64 cP.kind, .int .i64 cP.n, .slice cP.B cP.nb cP.cb, .slice cP.L cP.nl cP.cl] 117)).heap.size≤gg by omega)
   have xR:∀b,v.ownBlock=some b→b<wr.heap.size:=fun b e=>(World.ownsRow.lt HO.out b e).2
   have Uo:Hid (∀j,j<k+1→IA ((.slice (some ⟨gg,0,none⟩) (k+1) cap):Value).ownBlock w0.heap.size wz (Ci (o.ps.getD j aC)) ((cs ++ [cP]).getD j default)):=aa (fun j hj=>by
    by_cases e:j=k
    ·
     subst e;rw[oI.out,show(cs ++ [cP]).getD j default=cP by rw[List.getD_eq_getElem?_getD,List.getElem?_append_right (by rw[si.out];exact Nat.le_refl _),si.out,Nat.sub_self];rfl];exact(((HIT.out.kept (af _ (.cells #[.int .i64 cP.kind, .int .i64 cP.n, .slice cP.B cP.nb cP.cb, .slice cP.L cP.nl cP.cl] 117))).g (lo:=w0.heap.size) (by have:=aD.out.size;omega) (fun b e=>xR b e)).grown hgrow hgz Ex)
    ·
     rw[show(cs ++ [cP]).getD j default=cs.getD j default by rw[List.getD_eq_getElem?_getD,List.getElem?_append_left (by rw[si.out];omega),←List.getD_eq_getElem?_getD]]
     exact(((HG.out j (by omega)).kept (ag eZ.out (af _ (.cells #[.int .i64 cP.kind, .int .i64 cP.n, .slice cP.B cP.nb cP.cb, .slice cP.L cP.nl cP.cl] 117)))).grown hgrow hgz Ex))
   have l5:Hid (Below w0.heap.size w0 wz):=aa ((ax.out.alloc (by omega) (.cells #[.int .i64 cP.kind, .int .i64 cP.n, .slice cP.B cP.nb cP.cb, .slice cP.L cP.nl cP.cl] 117)).grown hgrow (by simp;omega) (fun j hj=>by have:=(World.ownsRow.lt HO.out j hj).1;omega));have YN:Hid ((cs ++ [cP]).length=k+1):=aa (by rw[List.length_append,si.out];rfl);clear hown hown1 hgrow hgg hlt2 Ex xR b1 b2 b3
   go_roundw
   case rel=>exact⟨k+1,_,by omega,by go_num,YN,Aq,Uo,l5⟩
   case measure=>simp[intOf];omega
  ·
   have hke:k=o.np:=by omega
   obtain⟨L5,M9,hv5,Po⟩:=KO (l:=o.ps.map Ci) (lo:=w0.heap.size) HO.out si.out (by rw[List.length_map,okn,hke]) (Nat.le_refl _) (fun j hj=>by
    rw[show(o.ps.map Ci).getD j default=Ci (o.ps.getD j aC) by rw[List.getD_eq_getElem?_getD,List.getElem?_map,List.getD_eq_getElem?_getD,List.getElem?_eq_getElem (show j<o.ps.length by omega)];rfl]
    exact(HG.out j hj).s)
   subst hv5;have YB:=aa Po;have Zk:=aa hke;clear Po HO HG hke;have jl:=bI wr;have kA:=aa (show ∀u:World,Hid (Below wr.heap.size wr u)→Hid (Sl u o.A o.al)from fun u h=>aa ((kO.out _ aD).out.2.2.2.1.below h.out));have kZ:=aa (show ∀u:World,Hid (Below wr.heap.size wr u)→Hid (Sl u o.Z o.zs)from fun u h=>aa ((kO.out _ aD).out.2.2.2.2.1.below h.out));obtain⟨q1,q2⟩:Hid (o.al.length=o.na)∧Hid (o.zs.length=o.nz):=⟨aa (kO.out _ aD).out.1,aa (kO.out _ aD).out.2.1⟩;have U8:o.na≤20:=by rw[←q1.out];exact hs.a
   have U7:o.nz≤20:=by rw[←q2.out];exact hs.z
   have zc:=kC.out _ aD
   go_upto_region 6 with(fail)
   clear zc;have hO:=aa (fun(u:World) (h:Hid (Below w0.heap.size w0 u∧Below wr.heap.size wr u))=>kC.out u (aa h.out.1));have pJ:=bb2 (aa ⟨aD.out,jl.out⟩) (Below.refl _ _).drew;refine uG (fun u=>Below w0.heap.size w0 u∧Below wr.heap.size wr u) [16] pJ (fun hHeld=>?_);obtain⟨wD,pq⟩:∃u,wr.drew=u:=⟨_,rfl⟩;rw[pq]at pJ hHeld ⊢;have BV:Hid (wr.heap.size≤wD.heap.size):=aa (by rw[←pq];exact Nat.le_refl _);clear pq;refine aP 0 1 3 4 ?_;refine aP 6 7 9 11 ?_;refine aL 12 ?_;have FB:=pJ;refine dh 2 fun K hK=>?_;go_simp;refine(p8 o.num _).mono ?_;rintro e u1 ⟨rfl,hq⟩;have aX:=bb2 FB hq;refine hK.out _ _ aX (fun hHeld=>?_);clear hK K hHeld;have FB:=aX;clear aX
   try simp only[qq,Ic.val,Ic.cs,aR,aQ]
   refine dh 5 fun K hK=>?_;go_simp;refine(FZ o.rs hs.r0 (by have:=hs.r1;omega) _).mono ?_;rintro e u2 ⟨cR,rfl,hit,hq⟩;have aX:=bb2 FB hq;refine hK.out _ _ aX (fun hHeld=>?_);clear hK K hHeld;have HR:=(aa (hit.mono (by have:=FB.out.1.size;omega)));have FB:=aX;clear aX
   try simp only[qq,Ic.val,Ic.cs,aR,aQ]
   refine dh 8 fun K hK=>?_;go_simp;refine(Bf o.E1 o.E2 o.A o.na o.ca o.al o.C o.Z o.nz o.cz o.zs q1 q2 (by omega) (by omega) _ (kA.out _ (aa FB.out.2)) (kZ.out _ (aa FB.out.2))).mono ?_;rintro e u3 ⟨cE,rfl,hit,hq⟩;have aX:=bb2 FB hq;refine hK.out _ _ aX (fun hHeld=>?_);clear hK K hHeld;have HR:=aa (HR.out.kept hq);have HE:=(aa (hit.mono (by have:=FB.out.1.size;omega)));have FB:=aX;clear aX
   try simp only[qq,Ic.val,Ic.cs,aR,aQ]
   refine dh 10 fun K hK=>?_;go_simp;refine(tK L5 k M9 _).mono ?_;rintro e u4 ⟨rfl,hq⟩;have aX:=bb2 FB hq;refine hK.out _ _ aX (fun hHeld=>?_);clear hK K hHeld;have HR:=aa (HR.out.kept hq);have HE:=aa (HE.out.kept hq);have FB:=aX;clear aX
   try simp only[qq,Ic.val,Ic.cs,aR,aQ]
   refine dh 13 fun K hK=>?_;go_simp;refine(p8 o.key _).mono ?_;rintro e u5 ⟨rfl,hq⟩;have aX:=bb2 FB hq;refine hK.out _ _ aX (fun hHeld=>?_);clear hK K hHeld;have HR:=aa (HR.out.kept hq);have HE:=aa (HE.out.kept hq);have FB:=aX;clear aX
   try simp only[qq,Ic.val,Ic.cs,aR,aQ]
   obtain⟨u6,hw,HQ,-,-,-⟩:=pO (.cells #[.int .i64 1, .int .i64 o.num, .slice none 0 0, .slice none 0 0, .int .i64 cR.kind, .int .i64 cR.n, .slice cR.B cR.nb cR.cb, .slice cR.L cR.nl cR.cl, .int .i64 cE.kind, .int .i64 cE.n, .slice cE.B cE.nb cE.cb, .slice cE.L cE.nl cE.cl, .int .i64 3, .int .i64 0, .slice none 0 0, .slice L5 k M9, .int .i64 1, .int .i64 o.key, .slice none 0 0, .slice none 0 0] 117) sZ u5;have pI:=aa hw;clear hw;refine dh 14 fun K hK=>?_;go_simp;rw[pI.out];have aX:=bb2 FB HQ.out;refine hK.out _ _ aX (fun hHeld=>?_);clear hK K hHeld;have HR:=aa (HR.out.kept HQ.out);have HE:=aa (HE.out.kept HQ.out);have FL:Hid (u6.heap[(u5.heap.size)]? = some (.cells #[.int .i64 1, .int .i64 o.num, .slice none 0 0, .slice none 0 0, .int .i64 cR.kind, .int .i64 cR.n, .slice cR.B cR.nb cR.cb, .slice cR.L cR.nl cR.cl, .int .i64 cE.kind, .int .i64 cE.n, .slice cE.B cE.nb cE.cb, .slice cE.L cE.nl cE.cl, .int .i64 3, .int .i64 0, .slice none 0 0, .slice L5 k M9, .int .i64 1, .int .i64 o.key, .slice none 0 0, .slice none 0 0] 117)):=by rw[←pI.out];exact(aa (heap_alloc_new u5 _))
   have nJ:Hid (w0.heap.size≤(u5.heap.size)):=(aa (by have:=FB.out.1.size;omega));obtain⟨gL,hg⟩:∃x,u5.heap.size=x:=⟨_,rfl⟩;rw[hg]at FL nJ ⊢;clear hg;have FB:=aX;clear aX pI HQ
   try simp only[qq,Ic.val,Ic.cs,aR,aQ]
   refine dh 15 fun K hK=>?_;go_simp;refine(tK (some ⟨gL,0,none⟩) 5 5 _).mono ?_;rintro e u ⟨rfl,hq⟩;have aX:=bb2 FB hq;refine hK.out _ _ aX (fun hHeld=>?_);clear hK K hHeld;have HR:=aa (HR.out.kept hq);have HE:=aa (HE.out.kept hq);have FL:=aa (bQ FL.out hq);have nJ:=nJ;have FB:=aX;clear aX
   try simp only[qq,Ic.val,Ic.cs,aR,aQ]
   have hHeld:=FB;have hT:=trivial;have ha0:=trivial;have vJ:=aa FB.out.1;have Vj:=aa FB.out.2;have qZ:=nZ.out _ (aa FB.out.1);refine oz 16 fun K hK=>?_;rw[show(if Region.wanted _ _=true then _ else _:Prop)=_ from if_pos rfl];refine wp_store_row 117 _ _ rfl (w.heap.size+1) (Ic.cs (Ic.mk 3 0 none 0 0 (some ⟨gL,0,none⟩) 5 5)) rfl rfl 117 _ qZ.out (dz _) rfl (kQ _) ?_;refine hK.out _ _ ?_;clear hK K
   try simp only[qq]
   refine gM ?_
   have hit:rY w0.heap.size u (xJ o) (Ic.mk 3 0 none 0 0 (some ⟨gL,0,none⟩) 5 5):=uK (fun k9=>match k9 with | 0=>aR o.num | 1=>cR | 2=>cE | 3=>⟨3,0,none,0,0,L5,k,M9⟩ | _=>aR o.key) FL.out nJ.out rfl (fun k9 hk=>by
     rcases (show k9=0∨k9=1∨k9=2∨k9=3∨k9=4 by omega)with rfl | rfl | rfl | rfl | rfl <;> exact⟨rfl,rfl,rfl,rfl⟩) (fun k9 hk=>by
     rcases (show k9=0∨k9=1∨k9=2∨k9=3∨k9=4 by omega)with rfl | rfl | rfl | rfl | rfl
     · exact qb _ _ _
     · exact HR.out
     · exact HE.out
     · exact YB.out.kept FB.out.2
     · exact qb _ _ _)
   have hit2:=(hit.setRow (g:=w.heap.size+1) (by have:=lV.out;omega) (Ic.cs (Ic.mk 3 0 none 0 0 (some ⟨gL,0,none⟩) 5 5))).mono (lo':=w.heap.size) (by have:=lV.out;omega);have bT:=aj (ag ai.out FB.out.1) (cs:=Ic.cs (Ic.mk 3 0 none 0 0 (some ⟨gL,0,none⟩) 5 5)) (Nat.le_add_right w.heap.size 1);have hrw:=setRow_heap _ _ _ (Ic.cs (Ic.mk 3 0 none 0 0 (some ⟨gL,0,none⟩) 5 5)) _ _ qZ.out;go_wp2;exact bodyPost_ret (v:=(Ic.mk 3 0 none 0 0 (some ⟨gL,0,none⟩) 5 5).val) (aK (p:=2) (ty:=117) rfl _ _ ⟨w.heap.size+1,0,none⟩ _ rfl (run_loadVar_row _ _ _ _ _ _ _ hrw Tryz.underlying117 rfl (dz _))) rfl ⟨_,rfl,hit2,bT⟩
theorem C9 (h:List Int)(hl:Hid (h.length=32))(hb:Hid (aF h=true))(o:aG)(hi:Hid (dD o))(hs:fE o)(w:World)(hv:Hid (bB w))(ho:Hid (dM w o)) :
  Calls Tryz.prog 90 #[.agg (arr .u8 h),zD o] w (Rt w (.agg (arr .u8 (zI h o)))):=by
 obtain⟨RR,hRR⟩:∃R,tagged (bq wY) (enc (Ck h o))=R:=⟨_,rfl⟩;rw[show zI h o=tagged (bq wY) (enc (Ck h o))from rfl,hRR];have HRR:Kp (tagged (bq wY) (enc (Ck h o))=RR):=⟨hRR⟩;have fQ:Hid (RR.length=32):=aa (by rw[←hRR];exact dR _ _);have lX:Hid (fits 8 (Ck h o)):=aa (PL hl.out hb.out hi.out hs);have HLEN:Hid ((enc (Ck h o)).length≤16384):=aa (U0 hl.out hs);clear hRR;obtain⟨E,hE⟩:∃E,enc (Ck h o)=E:=⟨_,rfl⟩;have MZ:Hid (aF E=true):=aa (by rw[←hE];exact mI lX.out);have yz:Hid (0<E.length∧E.length≤16384):=aa (by rw[←hE];exact⟨qd _,HLEN.out⟩);have J_:Kp (enc (Ck h o)=E):=⟨hE⟩;obtain⟨nE,Te⟩:∃n,E.length=n:=⟨_,rfl⟩;have HEN:=aa Te;have he0:0<nE:=by rw[←Te];exact yz.out.1
 have he1:nE≤16384:=by rw[←Te];exact yz.out.2
 clear hE Te;obtain⟨w0,HW,ai,kC⟩:=qD (.cells (arr .u8 h) 41) bp0 (l6 o) bp9 (.cells z32 41) sZ w;have kO:=fo (fun u=>dM u o) ai ho (·.below);have kD:=oF ai hv;have kHB:=aa (show ∀u:World,Hid (Below w0.heap.size w0 u)→Hid (bS .u8 41 u w.heap.size h)from fun u h9=>aa (bS.below (by rw[←HW.out];exact((bS.new w h).old _).old _) h9.out));have nZ:=aa (show ∀u:World,Hid (Below w0.heap.size w0 u)→Hid (bS .u8 41 u (w.heap.size+2) (dL 32))from fun u h9=>aa (bS.below (by rw[←HW.out,jR];exact iZ _ _ _ _) h9.out));have ah:=bI w0;clear ho hv;go_in
 go_upto_region 1 with(fail)
 rw[HW.out];have zc:=kC.out _ ah;have lV:Hid (w0.heap.size=w.heap.size+3):=aa (by rw[←HW.out];simp);have kHg:=aa (show ∀u:World,Hid (Below w0.heap.size w0 u)→bS .u8 41 u w.heap.size h from fun u h9=>(kHB.out u h9).out);clear zc;have hO:=aa (fun(u:World) (h:Hid (Below w0.heap.size w0 u))=>And.intro (kC.out u h) (kHg.out u h));have pJ:=bJ (aa ah.out) (Below.refl _ _).drew;refine uG (fun u=>Below w0.heap.size w0 u) [8] pJ (fun hHeld=>?_);obtain⟨wD,pq⟩:∃u,w0.drew=u:=⟨_,rfl⟩;rw[pq]at pJ hHeld ⊢;have BV:Hid (w0.heap.size≤wD.heap.size):=aa (by rw[←pq];exact Nat.le_refl _);clear pq;refine Cf 0 (.agg (arr .u8 h)) rfl (ig 41 _ rfl w.heap.size rfl _ _ _ _ (fun _ hq=>kHg.out _ hq) Tryz.underlying41 rfl (aH hl.out)) ?_;refine aL 2 ?_;have FB:=pJ;refine dh 1 fun K hK=>?_;go_simp;refine(xy h hl _).mono ?_;rintro e u1 ⟨gq,rfl,hit,hq⟩;have aX:=bJ FB hq;refine hK.out _ _ aX (fun hHeld=>?_);clear hK K hHeld;have HB:=(aa (hit.mono (by have:=FB.out.size;omega)));have FB:=aX;clear aX
 try simp only[qq,Ic.val,Ic.cs,aR,aQ]
 refine dh 3 fun K hK=>?_;go_simp;refine(yD o hs _ (kO.out _ (aa FB.out))).mono ?_;rintro e u2 ⟨cO,rfl,hit,hq⟩;have aX:=bJ FB hq;refine hK.out _ _ aX (fun hHeld=>?_);clear hK K hHeld;have HB:=aa (HB.out.kept hq);have HO:=(aa (hit.mono (by have:=FB.out.size;omega)));have FB:=aX;clear aX
 try simp only[qq,Ic.val,Ic.cs,aR,aQ]
 obtain⟨u3,hw,HQ,-,-,-⟩:=pO (.cells #[.int .i64 gq.kind, .int .i64 gq.n, .slice gq.B gq.nb gq.cb, .slice gq.L gq.nl gq.cl, .int .i64 cO.kind, .int .i64 cO.n, .slice cO.B cO.nb cO.cb, .slice cO.L cO.nl cO.cl] 117) sZ u2;have pI:=aa hw;clear hw;refine dh 4 fun K hK=>?_;go_simp;rw[pI.out];have aX:=bJ FB HQ.out;refine hK.out _ _ aX (fun hHeld=>?_);clear hK K hHeld;have HB:=aa (HB.out.kept HQ.out);have HO:=aa (HO.out.kept HQ.out);have FL:Hid (u3.heap[(u2.heap.size)]? = some (.cells #[.int .i64 gq.kind, .int .i64 gq.n, .slice gq.B gq.nb gq.cb, .slice gq.L gq.nl gq.cl, .int .i64 cO.kind, .int .i64 cO.n, .slice cO.B cO.nb cO.cb, .slice cO.L cO.nl cO.cl] 117)):=by rw[←pI.out];exact(aa (heap_alloc_new u2 _))
 have nJ:Hid (w0.heap.size≤(u2.heap.size)):=(aa (by have:=FB.out.size;omega));obtain⟨gL,hg⟩:∃x,u2.heap.size=x:=⟨_,rfl⟩;rw[hg]at FL nJ ⊢;clear hg;have FB:=aX;clear aX pI HQ
 try simp only[qq,Ic.val,Ic.cs,aR,aQ]
 refine dh 5 fun K hK=>?_;go_simp;refine(tK (some ⟨gL,0,none⟩) 2 2 _).mono ?_;rintro e u4 ⟨rfl,hq⟩;have aX:=bJ FB hq;refine hK.out _ _ aX (fun hHeld=>?_);clear hK K hHeld;have HB:=aa (HB.out.kept hq);have HO:=aa (HO.out.kept hq);have FL:=aa (bQ FL.out hq);have nJ:=nJ;have FB:=aX;clear aX
 try simp only[qq,Ic.val,Ic.cs,aR,aQ]
 refine dh 6 fun K hK=>?_;go_simp
 have hit:pV u4 (Ck h o) (Ic.mk 3 0 none 0 0 (some ⟨gL,0,none⟩) 2 2):=xN (fun k=>match k with | 0=>gq | _=>cO) FL.out rfl (fun k hk=>by
   rcases (show k=0∨k=1 by omega)with rfl | rfl <;> exact⟨rfl,rfl,rfl,rfl⟩) (fun k hk=>by
   rcases (show k=0∨k=1 by omega)with rfl | rfl
   · exact HB.out.it
   · exact HO.out.it)
 refine(xx 8 (Ck h o) (Ic.mk 3 0 none 0 0 (some ⟨gL,0,none⟩) 2 2) _ lX.out hit HLEN.out).mono ?_;rintro e u5 ⟨v4,rfl,Cz,hq⟩;rw[J_.1]at Cz;obtain⟨gE,cE,e4,hg4,-,-,t_⟩:=Cz.cells yz.out.1;rw[HEN.out]at e4;subst e4;clear hit Cz;have aX:=bJ FB hq;refine hK.out _ _ aX (fun hHeld=>?_);clear hK K hHeld;have HB:=aa (HB.out.kept hq);have HO:=aa (HO.out.kept hq);have FL:=aa (bQ FL.out hq);have nJ:=nJ;have FE:=(aa t_);have FB:=aX;clear aX
 try simp only[qq,Ic.val,Ic.cs,aR,aQ]
 refine dh 7 fun K hK=>?_;go_simp;refine(mY wY (by decide) (by decide) gE 0 cE E nE HEN he0 (by omega) MZ _ FE).mono ?_;rintro e u ⟨rfl,hq⟩;rw[←J_.1,HRR.1];have aX:=bJ FB hq;refine hK.out _ _ aX (fun hHeld=>?_);clear hK K hHeld;have HB:=aa (HB.out.kept hq);have HO:=aa (HO.out.kept hq);have FL:=aa (bQ FL.out hq);have nJ:=nJ;have FE:=aa (FE.out.below hq);have FB:=aX;clear aX
 try simp only[qq,Ic.val,Ic.cs,aR,aQ]
 have hHeld:=FB;have hT:=trivial;have ha0:=trivial;have vJ:=FB;have qZ:=nZ.out _ (aa FB.out);refine oz 8 fun K hK=>?_;rw[show(if Region.wanted _ _=true then _ else _:Prop)=_ from if_pos rfl];refine wp_store_row 41 _ _ rfl (w.heap.size+2) (arr .u8 RR) rfl rfl 41 _ qZ.out (aH fQ.out) (fu (l:=dL 32) rfl fQ.out) (dG _) ?_;refine hK.out _ _ ?_;clear hK K
 try simp only[qq]
 refine gM ?_;have bT:=aj (ag ai.out FB.out) (cs:=arr .u8 RR) (Nat.le_add_right w.heap.size 2);have hrw:=qZ.out.setRow (l':=RR);go_wp2;exact bodyPost_ret (v:= .agg (arr .u8 RR)) (aK (p:=4) (ty:=41) rfl _ _ ⟨w.heap.size+2,0,none⟩ _ rfl (run_loadVar_row _ _ _ _ _ _ _ hrw Tryz.underlying41 rfl (aH fQ.out))) rfl ⟨rfl,bT⟩
end Go.Proofs.YtchcllcbknfikaaGreatDoor