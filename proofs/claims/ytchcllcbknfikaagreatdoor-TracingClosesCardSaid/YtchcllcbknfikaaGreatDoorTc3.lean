/- Contracts and lemmas: LinD, LinE, LinF, Quiet, PolA, TruA, TruB, TruC, DigD, DigE, DigF, RdgA, Itm. -/
import Derived.Deep.RegionHeld3
import Derived.Deep.AppendLies
import Derived.Maps.OwnSet
import Derived.Test.YtchcllcbknfikaaGreatDoorTc2
set_option linter.unusedVariables false
set_option linter.unusedSimpArgs false
set_option maxRecDepth 100000
set_option maxHeartbeats 25600000
namespace Go.Proofs.YtchcllcbknfikaaGreatDoor
open Go.RowKit sH
theorem pow_eq (a e m v:Int)(hv:Hid (pw a e m=v))(h1:1≤m)(h2:m<2305843009213693952)(ha0:0≤a)(ha:a<m)(he0:0≤e)(he:e<9223372036854775808)(w:World) :
  Calls Tryz.prog 105 #[.int .i64 a, .int .i64 e, .int .i64 m] w fun e' w'=>e' = .returned (.tuple #[.int .i64 v, .int .i64 0])∧∃n,w'=w.drewN n:=by
 rw[←hv.out];exact Bj a e m h1 h2 ha0 ha he0 he w
theorem zU (a b m v:Int)(hv:Hid (a*b%m=v))(h2:m<2305843009213693952)(ha0:0≤a)(ha:a<m)(hb0:0≤b)(hb:b<m)(w:World) :
  Calls Tryz.prog 35 #[.int .i64 a, .int .i64 b, .int .i64 m] w fun e w'=>e = .returned (.tuple #[.int .i64 v, .int .i64 0])∧∃n,w'=w.drewN n:=by
 rw[←hv.out];exact Kk a b m h2 ha0 ha hb0 hb w
def dU (P:Int):Int→List Int→List Int→Int
 | acc,x::xs,e::es=>dU P (acc*pw x e P%P) xs es
 | acc,_,_=>acc
theorem Bi {P acc:Int} {k:Nat} {xs es:List Int} (hk:k<xs.length)(he:k<es.length) :
  dU P acc (xs.drop k) (es.drop k)=dU P (acc*pw (xs.getD k 0) (es.getD k 0) P%P) (xs.drop (k+1)) (es.drop (k+1)):=by
 rw[List.drop_eq_getElem_cons hk,List.drop_eq_getElem_cons he,dU,List.getD_eq_getElem?_getD,List.getElem?_eq_getElem hk,List.getD_eq_getElem?_getD,List.getElem?_eq_getElem he]
 rfl
theorem zh {P s V:Int} {xs es:List Int} (h:Hid (dU P s xs es=V)):Hid (dU P s (xs.drop 0) (es.drop 0)=V):=aa (by
 rw[List.drop_zero,List.drop_zero]
 exact h.out)
theorem Df {P acc V:Int} {k:Nat} {xs es:List Int} (hn:xs.length=k)(h:Hid (dU P acc (xs.drop k) (es.drop k)=V)):acc=V:=by
 have h2:=h.out;rw[←hn,List.drop_length]at h2;exact h2
theorem tJ {Q x:Int} (h:jc Q x=true):0≤x:=by simp[jc]at h;exact h.1
theorem vM {Q x:Int} (h:jc Q x=true):x<Q:=by simp[jc]at h;exact h.2
theorem En (P Q G start:Int)(A:Option Addr)(xs:List Int)(n c:Nat)(E:Option Addr)(es:List Int)(m d:Nat)(V:Int)(hV:Hid (dU P start xs es=V))(hn:Hid (xs.length=n))(hm:Hid (es.length=m))(hnm:n≤m)(hbig:m<1000000)
  (hx:Hid (xs.all (aN P Q)=true)) (he:Hid (es.all (jc Q)=true)) (hp2:2≤P) (hp:P<2305843009213693952) (hQ:Q<9223372036854775808) (hs0:0≤start) (hs1:start<P) (w:World) (hA:Hid (Sl w A xs)) (hE:Hid (Sl w E es)) :
  Calls Tryz.prog 269 #[gv P Q G, .int .i64 start, .slice A n c, .slice E m d] w (Rt w (.int .i64 V)):=by
 have cu:=aa (af w (bg P Q G));have HX0:=aa (bD w P Q G);have Ay:=aa (hA.out.below cu.out);have Vk:=aa (hE.out.below cu.out);obtain⟨W,hW⟩:∃W,w.alloc (bg P Q G)=W:=⟨_,rfl⟩;rw[hW]at HX0 Ay Vk cu;have HW:=aa hW;clear hW hA hE;go_in;go_wp2;rw[HW.out]
 go_loopw [9,17] (fun y i wr=>∃(k:Nat) (acc:Int),k≤n∧y = .int .i64 acc∧i = .int .i64 k∧0≤acc∧acc<P∧Hid (dU P acc (xs.drop k) (es.drop k)=V)∧Hid (Below W.heap.size W wr)) (fun _ i _=>n-(intOf i).toNat)
 case atStart=>exact⟨0,start,by omega,rfl,rfl,by omega,by omega,zh hV,aa (Below.refl _ _)⟩
 case round=>
  obtain⟨k,acc,hk,rfl,rfl,a0,a1,HJ,aD⟩:=hrel
  by_cases hlt:k<n
  ·
   have hkl:k<xs.length:=by rw[hn.out];exact hlt
   have hkm:k<m:=by omega
   have hke:k<es.length:=by rw[hm.out];exact hkm
   obtain⟨b,o,hA,hi0⟩:=Ay.out.below aD.out k hkl;obtain⟨b2,o2,hE,hi1⟩:=Vk.out.below aD.out k hke;subst hA;subst hE;obtain⟨c0,c1,c2⟩:=HX0.out.below aD.out;have hm1:=ji hx.out hkl;have hm2:=ji he.out hke;have hst:=Bi (P:=P) (acc:=acc) hkl hke;obtain⟨x,hxx⟩:∃x,xs.getD k 0=x:=⟨_,rfl⟩;obtain⟨ex,hee⟩:∃x,es.getD k 0=x:=⟨_,rfl⟩;rw[hxx]at hi0 hm1 hst;rw[hee]at hi1 hm2 hst;have x0:=gD hm1;have x1:=gF hm1;have e0:=tJ hm2;have e1:=vM hm2;obtain⟨p,hp1⟩:∃p,pw x ex P=p:=⟨_,rfl⟩;obtain⟨p0,p1⟩:0≤p∧p<P:=by rw[←hp1];exact zg _ _ _ (by omega)
   rw[hp1]at hst;obtain⟨BM,hac⟩:∃a,acc*p%P=a:=⟨_,rfl⟩;rw[hac]at hst;have q0:0≤BM:=by rw[←hac];exact Int.emod_nonneg _ (by omega)
   have q1:BM<P:=by rw[←hac];exact Int.emod_lt_of_pos _ (by omega)
   have HJ2:Hid (dU P BM (xs.drop (k+1)) (es.drop (k+1))=V):=aa (hst.symm.trans HJ.out);have Yj:=aa hp1;have HAC:=aa hac;clear hm1 hm2 hst hxx hee hp1 hac hkl hke HJ;go_wp2
   go_quiet ((go_at_call 105;exact Calls.quiet_of (pow_eq x ex P p Yj (by omega) hp (by omega) x1 e0 (by omega) _)))
   go_wp2_with fail
   refine(zU acc p P BM HAC hp a0 a1 p0 p1 _).mono ?_;rintro e w' ⟨rfl,n3,rfl⟩;have HB2:Hid (Below W.heap.size W (wr.drewN (nq+n3))):=aa (aI aD.out _);go_wp2
   go_roundw
   case rel=>exact⟨k+1,BM,by omega,rfl,by go_num,q0,q1,HJ2,HB2⟩
   case measure=>simp[intOf];omega
  ·
   obtain rfl:k=n:=by omega
   obtain rfl:=Df hn.out HJ;have bT:=ag cu.out aD.out;clear HJ hlt;go_wp2;go_ret;exact⟨rfl,bT⟩
theorem iD.keep {w w':World} {B:Nat} {v:Value} {xs:List Int} (h:iD w B v xs)(hb:Below w.heap.size w w'):iD w' B v xs:=by
 obtain⟨h1,h2⟩:=h;refine⟨h1,h2.imp id ?_⟩;rintro ⟨g,cap,cur,rfl,hg,hh,rest⟩;exact⟨g,cap,cur,rfl,hg,(hb.block g (Array.getElem?_eq_some_iff.1 hh).1).trans hh,rest⟩
theorem iD.mono {w:World} {B B':Nat} {v:Value} {xs:List Int} (h:iD w B v xs)(hb:B'≤B):iD w B' v xs:=by
 obtain⟨h1,h2⟩:=h;refine⟨h1,h2.imp id ?_⟩;rintro ⟨g,cap,cur,rfl,hg,rest⟩;exact⟨g,cap,cur,rfl,by omega,rest⟩
theorem DW {f:Row→Int} {rows:List Row} {k:Nat} (hk:k<rows.length):(rows.take (k+1)).map f=(rows.take k).map f ++ [f (rows.getD k dI)]:=by
 rw[List.take_add_one,List.map_append,List.getElem?_eq_getElem hk,List.getD_eq_getElem?_getD,List.getElem?_eq_getElem hk]
 rfl
theorem FM {f:Row→Int} {rows:List Row} {k:Nat} (hk:k≤rows.length):((rows.take k).map f).length=k:=by
 rw[List.length_map,List.length_take];omega
theorem rD {f:Row→Bool} {xs:List Row} (h:xs.all f=true) {k:Nat} (hk:k<xs.length):f (xs.getD k dI)=true:=by
 rw[List.getD_eq_getElem?_getD,List.getElem?_eq_getElem hk];exact List.all_eq_true.1 h _ (List.getElem_mem hk)
def EP (zs:List Int)(w:World)(e:Ending)(w':World):Prop:=∃v,e = .returned v∧iD w' w.heap.size v zs∧Below w.heap.size w w'
theorem Cy (P Q G:Int)(A:Option Addr)(rows:List Row)(n c:Nat)(E:Option Addr)(es:List Int)(m d:Nat)(hn:Hid (rows.length=n))(hm:Hid (es.length=m))(hbig:m<1000000)(agF:n<1000000)
  (hx:Hid (rows.all (oU P Q m)=true)) (he:Hid (es.all (jc Q)=true)) (hp2:2≤P) (hp:P<2305843009213693952) (hQ:Q<9223372036854775808) (w:World) (hA:Hid (Rw w A rows)) (hE:Hid (Sl w E es)) :
  Calls Tryz.prog 259 #[gv P Q G, .slice A n c, .slice E m d] w (EP (rows.map fun r=>dU P 1 r.xs es) w):=by
 obtain⟨i0,hi,hz0,hz1,hz2⟩:=info_parts n_;have cu:=aa (af w (bg P Q G));have HX0:=aa (bD w P Q G);have Ay:=aa (hA.out.below cu.out);have Vk:=aa (hE.out.below cu.out);obtain⟨W,hW⟩:∃W,w.alloc (bg P Q G)=W:=⟨_,rfl⟩;rw[hW]at HX0 Ay Vk cu;have HW:=aa hW;clear hW hA hE;go_in;go_wp2;rw[HW.out]
 go_loopw [7,12] (fun v i wr=>∃k:Nat,k≤n∧i = .int .i64 k∧Hid (iD wr W.heap.size v ((rows.take k).map fun r=>dU P 1 r.xs es))∧Hid (Below W.heap.size W wr)) (fun _ i _=>n-(intOf i).toNat)
 case atStart=>exact⟨0,by omega,rfl,aa (Bo _ _),aa (Below.refl _ _)⟩
 case round=>
  obtain⟨k,hk,rfl,HO,aD⟩:=hrel
  by_cases hlt:k<n
  ·
   have hkl:k<rows.length:=by rw[hn.out];exact hlt
   obtain⟨⟨b,o,hA,hi0⟩,hok⟩:=Ay.out.below aD.out k hkl;subst hA;obtain⟨c0,c1,c2⟩:=HX0.out.below aD.out;have HEr:=aa (Vk.out.below aD.out);have hrb:=rD hx.out hkl;have XV:=aa (DW (f:=fun r=>dU P 1 r.xs es) hkl);obtain⟨R,hR⟩:∃R,rows.getD k dI=R:=⟨_,rfl⟩;rw[hR]at hi0 hrb hok XV;obtain⟨p,rn,rc,xs⟩:=R
   simp only[oU,Bool.and_eq_true,decide_eq_true_eq]at hrb
   obtain⟨rfl,hmx⟩:=hrb;have HL:=aa hok.1;have HS:=aa hok.2;have HMX:=aa hmx;obtain⟨V,hV⟩:∃V,dU P 1 xs es=V:=⟨_,rfl⟩;have Va:=aa hV;have aeS:Hid ((rows.take (k+1)).map (fun r=>dU P 1 r.xs es)=(rows.take k).map (fun r=>dU P 1 r.xs es) ++ [V]):=aa (by rw[XV.out,←hV]);have Ao:=aa (FM (f:=fun r=>dU P 1 r.xs es) (Nat.le_of_lt hkl))
   dsimp only[Row.val]at hi0
   clear hR hok hmx hV hkl XV
   go_wp2_with fail
   refine(En P Q G 1 p xs rn rc E es rn d V Va HL hm (Nat.le_refl _) hbig HMX he hp2 hp hQ (by omega) (by omega) _ HS HEr).mono ?_;rintro e w2 ⟨rfl,hb0⟩;have BZ:=aa (HO.out.keep hb0);have HB1:=aa (ag aD.out hb0)
   have hown:w2.ownsRow W.heap.size 3 1 u7 k (((rows.take k).map fun r=>dU P 1 r.xs es).map (Value.int .i64)):=by
    have h3:=BZ.out;unfold iD at h3
    rwa [Ao.out]at h3
   have hbs:=HB1.out.size;clear hb0 c0 c1 c2 hi0 HO
   go_wp2_with (at_builtin;refine wpList_append_own _ rfl _ _ 24 rfl W.heap.size 3 i0 (.int .i64 0) 1 8 Tryz.underlying24 hi hz0 hz1 hz2 rfl (by decide) _ _ _ rfl (hown.alloc _) ⟨w2.heap.size,0,none⟩ 1 1 [.int .i64 V] rfl rfl (cell_one_new _ _ _) (ints_oneCell .i64 [V]) (by unfold maxLen;omega) (by omega) (by simp;omega) ?_;intro v' w3 hown1 hgrow1 _)
   have tu:Hid (iD w3 W.heap.size v' ((rows.take (k+1)).map fun r=>dU P 1 r.xs es)):=aa (by
    rw[aeS.out]
    exact iD.app Ao.out.symm hown1)
   have HB2:Hid (Below W.heap.size W w3):=aa (BZ.out.below HB1.out hbs hgrow1);clear hown hown1 hgrow1
   go_roundw
   case rel=>exact⟨k+1,by omega,by go_num,tu,HB2⟩
   case measure=>simp[intOf];omega
  ·
   obtain rfl:k=n:=by omega
   have HF:Hid (iD wr W.heap.size u7 (rows.map fun r=>dU P 1 r.xs es)):=aa (by
    have h3:=HO.out
    rwa [←hn.out,List.take_length]at h3)
   have bT:=ag cu.out aD.out;have hsz:=cu.out.size;clear HO hlt;go_wp2;go_ret;exact⟨_,rfl,HF.out.mono hsz,bT⟩
theorem bY {P Q G:Int} {ys:List Int} {rows:List Row} (h:fM P Q G ys rows=true) :
  a_ P Q G=true∧1≤ys.length∧ys.length≤8∧rows.length=ys.length∧ys.all (aN P Q)=true∧1≤iG rows∧iG rows≤12∧rows.all (oU P Q (iG rows))=true:=by
 simp only[fM,Bool.and_eq_true,decide_eq_true_eq]at h
 exact h
theorem iN {w:World} {b:Nat} {xs:List Int} (h:Cells w b xs):Sl w (some ⟨b,0,none⟩) xs:=fun k hk=>⟨b,0,rfl,by rw[Nat.zero_add];exact h k hk⟩
theorem Ko {Q c:Int} (h0:0≤c)(h1:c<Q): [c].all (jc Q)=true:=by simp[jc];omega
end Go.Proofs.YtchcllcbknfikaaGreatDoor
namespace Go.Proofs.YtchcllcbknfikaaGreatDoor
open Go.RowKit
theorem Kr {P:Program} {f:FuncId} {args:Array Value} {w:World} {n:Nat} {v:Value}
  (h:Calls P f args (w.drewN n) fun e w'=>e = .returned v∧∃m,w'=(w.drewN n).drewN m):Calls P f args (w.drewN n) fun e w''=>e = .returned v∧∃m,w''=w.drewN m:=
 h.mono fun _ _ ⟨he,m,hm⟩=>⟨he,n+m,by rw[hm,World.drewN_drewN]⟩
end Go.Proofs.YtchcllcbknfikaaGreatDoor
namespace Go.Proofs.YtchcllcbknfikaaGreatDoor
open Go.RowKit sH
theorem DV {a q v:Int} (h0:0≤a)(h:a%q=v):a.tmod q=v:=by rw[Int.tmod_eq_emod_of_nonneg h0];exact h
theorem Gd (q a b v:Int)(hv:Hid ((a-b+q)%q=v))(h1:1≤q)(h2:q<2305843009213693952)(a0:0≤a)(a1:a<q)(b0:0≤b)(b1:b<q)(w:World) :
  Calls Tryz.prog 94 #[.int .i64 q, .int .i64 a, .int .i64 b] w (Rt w (.int .i64 v)):=by
 have d1:IntKind.i64.wrap (a-b)=a-b:=IntWalk.i64_in _ (by omega);have d2:IntKind.i64.wrap (a-b+q)=a-b+q:=IntWalk.i64_in _ (by omega);have e1:wrap64 (a-b)=a-b:=IntWalk.wrap64_in _ (by omega);have e2:wrap64 (a-b+q)=a-b+q:=IntWalk.wrap64_in _ (by omega);have htm:(a-b+q).tmod q=v:=DV (by omega) hv.out;have v0:0≤v:=by rw[←hv.out];exact Int.emod_nonneg _ (by omega)
 have v1:v<q:=by rw[←hv.out];exact Int.emod_lt_of_pos _ (by omega)
 have hwt:IntKind.i64.wrap v=v:=IntWalk.i64_in _ (by omega);have hQn:¬(q=0):=by omega
 have hQz:((q:Int) == 0)=false:=by simp;omega
 go_in;go_wp2;go_ret;exact⟨rfl,Below.refl _ _⟩
theorem yE (q a b v:Int)(hv:Hid (a*b%q=v))(h2:q<2305843009213693952)(a0:0≤a)(a1:a<q)(b0:0≤b)(b1:b<q)(w:World) :
  Calls Tryz.prog 93 #[.int .i64 q, .int .i64 a, .int .i64 b] w (Rt w (.int .i64 v)):=by
 go_in
 go_wp2_with fail
 refine(zU a b q v hv h2 a0 a1 b0 b1 _).mono ?_;rintro e w' ⟨rfl,n3,rfl⟩;have hbq:=aI (Below.refl w.heap.size w) n3;go_wp2;go_ret;exact⟨rfl,hbq⟩
theorem Oq (q a v:Int)(hv:Hid (xO a q=v))(h1:2≤q)(h2:q<2305843009213693952)(a0:0≤a)(a1:a<q)(w:World) :
  Calls Tryz.prog 95 #[.int .i64 q, .int .i64 a] w fun e' w'=>e' = .returned (.int .i64 v)∧0≤v∧v<q∧Below w.heap.size w w':=by
 go_in
 go_wp2_with fail
 refine(Nq a q h1 h2 a0 a1 _).mono ?_;rintro e w' ⟨x,r,rfl,hx,n3,rfl⟩;obtain rfl:x=v:=(GD hx).symm.trans hv.out;have x0:=hx.1;have x1:=hx.2.1;have hbq:=aI (Below.refl w.heap.size w) n3;clear hx;go_wp2;go_ret;exact⟨rfl,x0,x1,hbq⟩
theorem Jl (q:Int)(h2:q<2305843009213693952)(hp:Hid (qc q=true))(w:World)(hv:Hid (Vars w)) :
  Calls Tryz.prog 116 #[.int .i64 q] w (Rt w (.bool true)):=by
 have d1:decide (q<2305843009213693952)=true:=by simp;omega
 go_in
 go_wp2_with fail
 refine(nM q (by omega) true hp.out _ hv.out).mono ?_;rintro e w' ⟨rfl,n3,rfl⟩;have hbq:=aI (Below.refl w.heap.size w) n3;go_wp2;go_ret;exact⟨rfl,hbq⟩
theorem NG (q:Int)(a:Nat)(W:World)(hx:Hid (W.cell? ⟨a,0,none⟩=some (.int .i64 q))) :
  Says 157 #[.pointer (some ⟨a,0,none⟩)] (fun x=> !jc q x) W:=fun x w1 hb=>by
 show Calls Tryz.prog 157 #[.int .i64 x, .pointer (some ⟨a,0,none⟩)] w1 fun e w'=>e = .returned (.bool (!jc q x))∧Below w1.heap.size w1 w'
 have c0:=cell_below hx.out hb
 by_cases h0:x<0
 ·
  have e:jc q x=false:=by simp[jc];omega
  rw[e];have d0:decide (x<0)=true:=by simp;omega
  clear hb e;go_in;go_wp2;go_ret;exact⟨rfl,Below.refl _ _⟩
 ·
  have d0:decide (x<0)=false:=by simp;omega
  obtain⟨t,ht⟩:∃t,decide (q≤x)=t:=⟨_,rfl⟩
  have e:jc q x = !t:=by
   rw[←ht,jc,decide_eq_true (show(0:Int)≤x by omega),Bool.true_and,←decide_not];exact decide_eq_decide.2 (by omega)
  rw[e,Bool.not_not];clear hb e;go_in;go_wp2;go_ret;exact⟨by first | rfl | rw[ht],Below.refl _ _⟩
theorem xw (q:Int)(A:Option Addr)(xs:List Int)(n c:Nat)(r:Bool)(hr:Hid (xs.all (jc q)=r))(hn:Hid (xs.length=n))(hbig:Hid (n<1000000))(w:World)(hs:Hid (Sl w A xs)) :
  Calls Tryz.prog 102 #[.int .i64 q, .slice A n c] w (Rt w (.bool r)):=by
 have HX0:Hid ((w.alloc (.cells #[.int .i64 q] 3)).cell? ⟨w.heap.size,0,none⟩=some (.int .i64 q)):=aa (au (heap_alloc_new _ _) 0);have Lh:=aa (hs.out.below (af w (.cells #[.int .i64 q] 3)));have XX:=aa (NG q w.heap.size _ HX0);have HP:Hid ((xs.any fun x=> !jc q x) = !r):=aa (by rw[uu,hr.out]);clear hs;go_in
 go_wp2_with fail
 refine(Xy (.pointer (some ⟨w.heap.size,0,none⟩)) (fun x=> !jc q x) (!r) A xs n c HP hn hbig _ Lh XX).mono ?_;rintro e w1 ⟨rfl,hb0⟩;have hb1:=ag (af _ _) hb0;clear hb0;go_wp2;go_ret;exact⟨by simp,hb1⟩
theorem OZ (A:Option Addr)(xs:List Int)(n c:Nat)(v:Int)(hn:Hid (xs.length=n))(hbig:n<1000000)(hno:Hid (∀k,k<n→v≠xs.getD k 0))(w:World)(hs:Hid (Sl w A xs)) :
  Calls Tryz.prog 183 #[.slice A n c, .int .i64 v] w (Rt w (.int .i64 (-1))):=by
 go_in;go_wp2
 go_loopw [8] (fun i wr=>∃k:Nat,k≤n∧i = .int .i64 k∧Hid (Below w.heap.size w wr)) (fun i _=>n-(intOf i).toNat)
 case atStart=>exact⟨0,by omega,rfl,aa (Below.refl _ _)⟩
 case round=>
  obtain⟨k,hk,rfl,aD⟩:=hrel
  by_cases hlt:k<n
  ·
   have hkl:k<xs.length:=by rw[hn.out];exact hlt
   obtain⟨b,o,hA,hi0⟩:=hs.out.below aD.out k hkl;subst hA;have hne:=hno.out k hlt;obtain⟨x,hx⟩:∃x,xs.getD k 0=x:=⟨_,rfl⟩;rw[hx]at hi0 hne;have hnq:(v == x)=false:=by simpa using hne
   clear hx hkl hne;go_wp2
   go_roundw
   case rel=>exact⟨k+1,by omega,by go_num,aD⟩
   case measure=>simp[intOf];omega
  ·
   obtain rfl:k=n:=by omega
   go_wp2;go_ret;exact⟨rfl,aD.out⟩
theorem G9 (A:Option Addr)(xs:List Int)(n c:Nat)(v:Int)(hn:Hid (xs.length=n))(hbig:n<1000000)(hno:Hid (∀k,k<n→v≠xs.getD k 0))(w:World)(hs:Hid (Sl w A xs)) :
  Calls Tryz.prog 147 #[.slice A n c, .int .i64 v] w (Rt w (.bool false)):=by
 go_in
 go_wp2_with fail
 refine(OZ A xs n c v hn hbig hno _ hs).mono ?_;rintro e w1 ⟨rfl,hb0⟩;go_wp2;go_ret;exact⟨rfl,hb0⟩
theorem DX {w:World} {A:Option Addr} {xs:List Int} (h:Sl w A xs)(k:Nat):Sl w A (xs.take k):=fun j hj=>by
 have hj2:j<k∧j<xs.length:=by rw[List.length_take]at hj;omega
 obtain⟨b,o,h1,h2⟩:=h j hj2.2;refine⟨b,o,h1, ?_⟩;rw[h2,List.getD_eq_getElem?_getD,List.getD_eq_getElem?_getD,List.getElem?_take_of_lt hj2.1]
def mQ (xs:List Int):Prop:=∀i j,i<xs.length→j<i→xs.getD i 0≠xs.getD j 0
theorem L_ (q:Int)(A:Option Addr)(xs:List Int)(n c:Nat)(O:Option Addr)(os:List Int)(m d:Nat)(h2:q<2305843009213693952)(hp:Hid (qc q=true))(hn:Hid (xs.length=n))(hbig:n≤100)(hcap:n≤c)(hm:Hid (os.length=m))(hmb:m≤100)
  (hx:Hid (xs.all (jc q)=true)) (ho:Hid (os.all (jc q)=true)) (hnt:Hid (mQ xs)) (w:World) (hv:Hid (Vars w)) (hs:Hid (Sl w A xs)) (hO:Hid (Sl w O os)) :
  Calls Tryz.prog 92 #[.int .i64 q, .slice A n c, .slice O m d] w (Rt w (.int .i64 0)):=by
 have d1:decide ((100:Int)<(n:Int))=false:=by simp;omega
 go_in
 go_wp2_with fail
 refine(Jl q h2 hp _ hv).mono ?_;rintro e w1 ⟨rfl,hb0⟩;have HB1:=aa hb0;clear hb0
 go_wp2_with fail
 refine(xw q A xs n c true hx hn (aa (by omega)) _ (aa (hs.out.below HB1.out))).mono ?_;rintro e w2 ⟨rfl,hb0⟩;have HB2:=aa (ag HB1.out hb0);clear hb0
 go_wp2_with fail
 refine(xw q O os m d true ho hm (aa (by omega)) _ (aa (hO.out.below HB2.out))).mono ?_;rintro e w3 ⟨rfl,hb0⟩;have HB3:=aa (ag HB2.out hb0);clear hb0;go_wp2
 go_loopw [31] (fun i wr=>∃k:Nat,k≤n∧i = .int .i64 k∧Hid (Below w.heap.size w wr)) (fun i _=>n-(intOf i).toNat)
 case atStart=>exact⟨0,by omega,rfl,HB3⟩
 case round=>
  obtain⟨k,hk,rfl,aD⟩:=hrel
  by_cases hlt:k<n
  ·
   have hkl:k<xs.length:=by rw[hn.out];exact hlt
   have XZ:=aa (hs.out.below aD.out);obtain⟨b,o,hA,hi0⟩:=XZ.out k hkl;subst hA;have hkc:k≤c:=by omega
   have HT:=aa (DX XZ.out k);have Vb:Hid ((xs.take k).length=k):=aa (by rw[List.length_take];omega)
   have Uf:Hid (∀j,j<k→xs.getD k 0≠(xs.take k).getD j 0):=aa (fun j hj=>by
    have:=hnt.out k j hkl hj
    rwa [List.getD_eq_getElem?_getD (l:=xs.take k),List.getElem?_take_of_lt hj,←List.getD_eq_getElem?_getD])
   obtain⟨x,hx9⟩:∃x,xs.getD k 0=x:=⟨_,rfl⟩;rw[hx9]at hi0 Uf;clear hx9 hkl
   go_wp2_with fail
   refine(G9 (some ⟨b,o,none⟩) (xs.take k) k c x Vb (by omega) Uf _ HT).mono ?_;rintro e w4 ⟨rfl,hb0⟩;have l5:=aa (ag aD.out hb0);clear hb0;go_wp2
   go_roundw
   case rel=>exact⟨k+1,by omega,by go_num,l5⟩
   case measure=>simp[intOf];omega
  ·
   obtain rfl:k=n:=by omega
   go_wp2;go_ret;exact⟨rfl,aD.out⟩
def uW (q:Int)(xs:List Int)(i:Nat)(x:Int):Nat→Int
 | 0=>1
 | m+1=>if m=i then uW q xs i x m else uW q xs i x m*((x-xs.getD m 0+q)%q)%q
theorem oP {q:Int} (hq:2≤q)(xs:List Int)(i:Nat)(x:Int):∀m,0≤uW q xs i x m∧uW q xs i x m<q
 | 0=>⟨by rw[uW];omega,by rw[uW];omega⟩
 | m+1=>by
  rw[uW]
  split
  · exact oP hq xs i x m
  · exact⟨Int.emod_nonneg _ (by omega),Int.emod_lt_of_pos _ (by omega)⟩
noncomputable def wU (q:Int)(xs:List Int)(t:Int)(i:Nat):Int:=uW q xs i t xs.length*xO (uW q xs i (xs.getD i 0) xs.length) q%q
noncomputable def Fv (q:Int)(xs:List Int)(t:Int)(k:Nat):List Int:=(List.range k).map (wU q xs t)
theorem iq (q:Int)(xs:List Int)(t:Int)(k:Nat):(Fv q xs t k).length=k:=by simp[Fv]
theorem Fu (q:Int)(xs:List Int)(t:Int)(k:Nat):Fv q xs t (k+1)=Fv q xs t k ++ [wU q xs t k]:=by simp[Fv,List.range_succ]
theorem Kj (q:Int)(xs:List Int)(t:Int)(k i:Nat)(h:i<k):(Fv q xs t k).getD i 0=wU q xs t i:=by
 rw[Fv,List.getD_eq_getElem?_getD,List.getElem?_map,List.getElem?_range h];rfl
theorem AJ {q:Int} (hq:2≤q)(xs:List Int)(t:Int)(i:Nat):0≤wU q xs t i∧wU q xs t i<q:=⟨Int.emod_nonneg _ (by omega),Int.emod_lt_of_pos _ (by omega)⟩
theorem FR (x y q:Int):x+q-y=x-y+q:=by omega
theorem GA {q:Int} (hq:2≤q):(1:Int).tmod q=1:=by rw[Int.tmod_eq_emod_of_nonneg (by omega)];exact Int.emod_eq_of_lt (by omega) (by omega)
def abl (q:Int)(xs:List Int)(t:Int)(n:Nat)(w:World)(e:Ending)(w':World):Prop:=∃v,e = .returned (.tuple #[v, .int .i64 0])∧iD w' w.heap.size v (Fv q xs t n)∧Below w.heap.size w w'
theorem Fy (q:Int)(A:Option Addr)(xs:List Int)(n c:Nat)(t:Int)(h2:q<2305843009213693952)(hp:Hid (qc q=true))(hn:Hid (xs.length=n))(hbig:n≤100)(hx:Hid (xs.all (jc q)=true))(t0:0≤t)(t1:t<q)(hcap:n≤c)(hnt:Hid (mQ xs))(w:World)(hv:Hid (Vars w))(hs:Hid (Sl w A xs)) :
  Calls Tryz.prog 34 #[.int .i64 q, .slice A n c, .int .i64 t] w (abl q xs t n w):=by
 obtain⟨i0,hi,hz0,hz1,hz2⟩:=info_parts n_;have q2:=Af hp.out;have hq:=af w (.cells #[.int .i64 t] 3);have HO:=aa (iN (v_ w 3 t));have HVa:=aa (hv.out.below hq);have HSa:=aa (hs.out.below hq);have Rj:Hid ([t].all (jc q)=true):=aa (Ko t0 t1);have HBa:=aa hq;clear hq hv hs;go_in
 go_wp2_with fail
 refine(L_ q A xs n c (some ⟨w.heap.size,0,none⟩) [t] 1 1 h2 hp hn hbig hcap (aa rfl) (by omega) hx Rj hnt _ HVa HSa HO).mono ?_;rintro e W ⟨rfl,hb0⟩;have u_:=aa (ag HBa.out hb0);have Ie:=aa (HSa.out.below hb0);have HZW:=aa u_.out.size;clear hb0 HO HVa HSa;go_wp2
 go_loopw [9,26] (fun v i wr=>∃k:Nat,k≤n∧i = .int .i64 k∧Hid (iD wr W.heap.size v (Fv q xs t k))∧Hid (Below W.heap.size W wr)) (fun _ i _=>n-(intOf i).toNat)
 case atStart=>exact⟨0,by omega,rfl,aa (Bo _ _),aa (Below.refl _ _)⟩
 case round=>
  obtain⟨k,hk,rfl,HOr,aD⟩:=hrel
  by_cases hlt:k<n
  ·
   have hkl:k<xs.length:=by rw[hn.out];exact hlt
   obtain⟨b,o,hA,hi0⟩:=Ie.out.below aD.out k hkl;subst hA;have hm1:=ji hx.out hkl;obtain⟨xk,hxk⟩:∃x,xs.getD k 0=x:=⟨_,rfl⟩;rw[hxk]at hi0 hm1;have k0:=tJ hm1;have k1:=vM hm1;have HXK:=aa hxk;have hQn:¬(q=0):=by omega
   have hQz:((q:Int) == 0)=false:=by simp;omega
   have h1m:=GA q2;clear hxk hm1 hkl;go_wp2
   go_quiet (fail)
   go_wp2;clear hi0
   go_loopw [12,13,37] (fun a u j wz=>∃m:Nat,m≤n∧j = .int .i64 m∧a = .int .i64 (uW q xs k t m)∧u = .int .i64 (uW q xs k xk m)∧Hid (Below wr.heap.size wr wz)) (fun _ _ j _=>n-(intOf j).toNat)
   case atStart=>exact⟨0,by omega,rfl,rfl,rfl,aa (by first | exact Below.refl _ _ | exact(Below.refl _ _).drew | exact aI (Below.refl _ _) _)⟩
   case round=>
    obtain⟨m,hm,rfl,rfl,rfl,sJ⟩:=hrel;obtain⟨a0,a1⟩:=oP q2 xs k t m;obtain⟨u0,u1⟩:=oP q2 xs k xk m
    by_cases hlm:m<n
    ·
     have hml:m<xs.length:=by rw[hn.out];exact hlm
     obtain⟨b2,o2,hA2,hi1⟩:=Ie.out.below (ag aD.out sJ.out) m hml
     cases hA2
     have hm2:=ji hx.out hml;have sa:uW q xs k t (m+1)=if m=k then uW q xs k t m else uW q xs k t m*((t-xs.getD m 0+q)%q)%q:=rfl;have su:uW q xs k xk (m+1)=if m=k then uW q xs k xk m else uW q xs k xk m*((xk-xs.getD m 0+q)%q)%q:=rfl;obtain⟨y,hy⟩:∃x,xs.getD m 0=x:=⟨_,rfl⟩;rw[hy]at hi1 hm2 sa su;have y0:=tJ hm2;have y1:=vM hm2;obtain⟨av,Mv⟩:∃x,uW q xs k t m=x:=⟨_,rfl⟩;obtain⟨uv,huv⟩:∃x,uW q xs k xk m=x:=⟨_,rfl⟩;rw[Mv]at a0 a1 sa ⊢;rw[huv]at u0 u1 su ⊢;clear hy hm2 hml Mv huv
     by_cases hmk:m=k
     ·
      have dn:((m:Int) != (k:Int))=false:=by simp[hmk]
      rw[if_pos hmk]at sa su;have SA:=aa sa;have SU:=aa su;have HMK:=aa hmk;clear sa su hmk;go_wp2
      go_roundw
      case rel=>exact⟨m+1,by omega,by go_num,by rw[SA.out],by rw[SU.out],sJ⟩
      case measure=>simp[intOf];omega
     ·
      have dn:((m:Int) != (k:Int))=true:=by simp;omega
      rw[if_neg hmk]at sa su;obtain⟨s1,hs1⟩:∃x,(t-y+q)%q=x:=⟨_,rfl⟩;obtain⟨s2,hs2⟩:∃x,(xk-y+q)%q=x:=⟨_,rfl⟩;rw[hs1]at sa;rw[hs2]at su;obtain⟨p1,hp1⟩:∃x,av*s1%q=x:=⟨_,rfl⟩;obtain⟨p2,hp2⟩:∃x,uv*s2%q=x:=⟨_,rfl⟩;rw[hp1]at sa;rw[hp2]at su;have z1:0≤s1:=by rw[←hs1];exact Int.emod_nonneg _ (by omega)
      have z2:s1<q:=by rw[←hs1];exact Int.emod_lt_of_pos _ (by omega)
      have z3:0≤s2:=by rw[←hs2];exact Int.emod_nonneg _ (by omega)
      have z4:s2<q:=by rw[←hs2];exact Int.emod_lt_of_pos _ (by omega)
      have SA:=aa sa;have SU:=aa su;have H1:=aa hs1;have H2:=aa hs2;have H3:=aa hp1;have H4:=aa hp2;clear sa su hs1 hs2 hp1 hp2 hmk
      go_wp2_with fail
      refine(Gd q t y s1 H1 (by omega) h2 t0 t1 y0 y1 _).mono ?_;rintro e wy1 ⟨rfl,g1⟩;have G1:=aa g1;clear g1
      go_wp2_with fail
      refine(yE q av s1 p1 H3 h2 a0 a1 z1 z2 _).mono ?_;rintro e wy2 ⟨rfl,g2⟩;have G2:=aa g2;clear g2
      go_wp2_with fail
      refine(Gd q xk y s2 H2 (by omega) h2 k0 k1 y0 y1 _).mono ?_;rintro e wy3 ⟨rfl,g3⟩;have G3:=aa g3;clear g3
      go_wp2_with fail
      refine(yE q uv s2 p2 H4 h2 u0 u1 z3 z4 _).mono ?_;rintro e wy4 ⟨rfl,g4⟩;have G4:=aa g4;clear g4;have HB2:=aa (ag (ag (ag (ag sJ.out G1.out) G2.out) G3.out) G4.out);go_wp2
      go_roundw
      case rel=>exact⟨m+1,by omega,by go_num,by rw[SA.out],by rw[SU.out],HB2⟩
      case measure=>simp[intOf];omega
    ·
     obtain rfl:m=n:=by omega
     have hlen:=hn.out;obtain⟨av,Mv⟩:∃x,uW q xs k t m=x:=⟨_,rfl⟩;obtain⟨uv,huv⟩:∃x,uW q xs k xk m=x:=⟨_,rfl⟩;obtain⟨iv,hiv⟩:∃x,xO uv q=x:=⟨_,rfl⟩;obtain⟨wv,hwv⟩:∃x,av*iv%q=x:=⟨_,rfl⟩;have HWI:Hid (wU q xs t k=wv):=aa (by rw[wU,hlen,HXK.out,Mv,huv,hiv,hwv]);rw[Mv]at a0 a1 ⊢;rw[huv]at u0 u1 ⊢;have HIV:=aa hiv;have T_:=aa hwv;have MU:=aa (HOr.out.keep sJ.out);have HBy:=aa (ag aD.out sJ.out);clear hlen Mv huv hiv hwv sJ aD HOr
     go_wp2_with fail
     refine(Oq q uv iv HIV q2 h2 u0 u1 _).mono ?_;rintro e y1 ⟨rfl,v0,v1,g1⟩;have BZ:=aa (MU.out.keep g1);have HB1:=aa (ag HBy.out g1);clear g1 MU HBy
     go_wp2_with fail
     refine(yE q av iv wv T_ h2 a0 a1 v0 v1 _).mono ?_;rintro e y2 ⟨rfl,g1⟩;have tu:=aa (BZ.out.keep g1);have HB2:=aa (ag HB1.out g1);clear g1 BZ HB1
     have hown:y2.ownsRow W.heap.size 3 1 u9 k ((Fv q xs t k).map (Value.int .i64)):=by
      have h3:=tu.out;unfold iD at h3
      rwa [iq]at h3
     have hbs:=HB2.out.size
     go_wp2_with (at_builtin;refine wpList_append_own _ rfl _ _ 24 rfl W.heap.size 3 i0 (.int .i64 0) 1 8 Tryz.underlying24 hi hz0 hz1 hz2 rfl (by decide) _ _ _ rfl (hown.alloc _) ⟨y2.heap.size,0,none⟩ 1 1 [.int .i64 wv] rfl rfl (cell_one_new _ _ _) (ints_oneCell .i64 [wv]) (by unfold maxLen;omega) (by omega) (by simp;omega) ?_;intro v' y3 hown1 hgrow1 _)
     have om:Hid (iD y3 W.heap.size v' (Fv q xs t (k+1))):=aa (by
      rw[Fu,HWI.out]
      exact iD.app (iq q xs t k).symm hown1)
     have HB3:Hid (Below W.heap.size W y3):=aa (tu.out.below HB2.out hbs hgrow1);clear hown hown1 hgrow1 tu HB2
     go_roundw
     case rel=>exact⟨k+1,by omega,by go_num,om,HB3⟩
     case measure=>simp[intOf];omega
  ·
   obtain rfl:k=n:=by omega
   have hF:=ag u_.out aD.out;have hO:=(HOr.out).mono HZW.out;have HF:=aa hF;have Yo:=aa hO;clear hF hO HOr aD;go_wp2;go_ret2;exact⟨_,rfl,Yo.out,HF.out⟩
theorem Wy {a q v:Int} (hq:2≤q)(h:xO a q=v):0≤v∧v<q:=by
 rw[←h];unfold xO
 split
 · rename_i he;exact⟨(Classical.choose_spec he).1,(Classical.choose_spec he).2.1⟩
 · omega
def XK (q:Int)(xs:List Int)(t:Int)(n:Nat)(w:World)(e:Ending)(w':World):Prop:=∃v,e = .returned v∧iD w' w.heap.size v (Fv q xs t n)∧Below w.heap.size w w'
theorem D5 (q:Int)(A:Option Addr)(xs:List Int)(n c:Nat)(t:Int)(h2:q<2305843009213693952)(hp:Hid (qc q=true))(hn:Hid (xs.length=n))(hbig:n≤100)(hx:Hid (xs.all (jc q)=true))(t0:0≤t)(t1:t<q)(w:World)(hs:Hid (Sl w A xs)) :
  Calls Tryz.prog 54 #[.int .i64 q, .slice A n c, .int .i64 t] w (XK q xs t n w):=by
 obtain⟨i0,hi,hz0,hz1,hz2⟩:=info_parts n_;have q2:=Af hp.out;go_in;go_wp2
 go_loopw [7,8] (fun v i wr=>∃k:Nat,k≤n∧i = .int .i64 k∧Hid (iD wr w.heap.size v (Fv q xs t k))∧Hid (Below w.heap.size w wr)) (fun _ i _=>n-(intOf i).toNat)
 case atStart=>exact⟨0,by omega,rfl,aa (Bo _ _),aa (Below.refl _ _)⟩
 case round=>
  obtain⟨k,hk,rfl,HOr,aD⟩:=hrel
  by_cases hlt:k<n
  ·
   have hkl:k<xs.length:=by rw[hn.out];exact hlt
   have hm1:=ji hx.out hkl;obtain⟨xk,hxk⟩:∃x,xs.getD k 0=x:=⟨_,rfl⟩;rw[hxk]at hm1;have k0:=tJ hm1;have k1:=vM hm1;have HXK:=aa hxk;have hQn:¬(q=0):=by omega
   have hQz:((q:Int) == 0)=false:=by simp;omega
   clear hxk hm1;go_wp2
   go_loopw [9,10,11] (fun a u j wz=>∃m:Nat,m≤n∧j = .int .i64 m∧a = .int .i64 (uW q xs k t m)∧u = .int .i64 (uW q xs k xk m)∧Hid (Below wr.heap.size wr wz)) (fun _ _ j _=>n-(intOf j).toNat)
   case atStart=>exact⟨0,by omega,rfl,rfl,rfl,aa (Below.refl _ _)⟩
   case round=>
    obtain⟨m,hm,rfl,rfl,rfl,sJ⟩:=hrel;obtain⟨a0,a1⟩:=oP q2 xs k t m;obtain⟨u0,u1⟩:=oP q2 xs k xk m
    by_cases hlm:m<n
    ·
     have hml:m<xs.length:=by rw[hn.out];exact hlm
     have XW:=aa (hs.out.below (ag aD.out sJ.out));obtain⟨b2,o2,hA2,hi1⟩:=XW.out m hml;obtain⟨b3,o3,hA3,hi0⟩:=XW.out k hkl;subst hA2
     cases hA3
     rw[HXK.out]at hi0;have hm2:=ji hx.out hml;have sa:uW q xs k t (m+1)=if m=k then uW q xs k t m else uW q xs k t m*((t-xs.getD m 0+q)%q)%q:=rfl;have su:uW q xs k xk (m+1)=if m=k then uW q xs k xk m else uW q xs k xk m*((xk-xs.getD m 0+q)%q)%q:=rfl;obtain⟨y,hy⟩:∃x,xs.getD m 0=x:=⟨_,rfl⟩;rw[hy]at hi1 hm2 sa su;have y0:=tJ hm2;have y1:=vM hm2;obtain⟨av,Mv⟩:∃x,uW q xs k t m=x:=⟨_,rfl⟩;obtain⟨uv,huv⟩:∃x,uW q xs k xk m=x:=⟨_,rfl⟩;rw[Mv]at a0 a1 sa ⊢;rw[huv]at u0 u1 su ⊢;clear hy hm2 hml Mv huv
     by_cases hmk:m=k
     ·
      have dn:((m:Int) != (k:Int))=false:=by simp[hmk]
      rw[if_pos hmk]at sa su;have SA:=aa sa;have SU:=aa su;have HMK:=aa hmk;clear sa su hmk hi0 hi1;go_wp2
      go_roundw
      case rel=>exact⟨m+1,by omega,by go_num,by rw[SA.out],by rw[SU.out],sJ⟩
      case measure=>simp[intOf];omega
     ·
      have dn:((m:Int) != (k:Int))=true:=by simp;omega
      rw[if_neg hmk]at sa su;obtain⟨s1,hs1⟩:∃x,(t-y+q)%q=x:=⟨_,rfl⟩;obtain⟨s2,hs2⟩:∃x,(xk-y+q)%q=x:=⟨_,rfl⟩;rw[hs1]at sa;rw[hs2]at su;obtain⟨p1,hp1⟩:∃x,av*s1%q=x:=⟨_,rfl⟩;obtain⟨p2,hp2⟩:∃x,uv*s2%q=x:=⟨_,rfl⟩;rw[hp1]at sa;rw[hp2]at su;have z1:0≤s1:=by rw[←hs1];exact Int.emod_nonneg _ (by omega)
      have z2:s1<q:=by rw[←hs1];exact Int.emod_lt_of_pos _ (by omega)
      have z3:0≤s2:=by rw[←hs2];exact Int.emod_nonneg _ (by omega)
      have z4:s2<q:=by rw[←hs2];exact Int.emod_lt_of_pos _ (by omega)
      have r1:(t+q-y).tmod q=s1:=DV (by omega) (by rw[FR];exact hs1);have r2:(xk+q-y).tmod q=s2:=DV (by omega) (by rw[FR];exact hs2);have c1:IntKind.i64.wrap (t+q)=t+q:=IntWalk.i64_in _ (by omega);have c2:IntKind.i64.wrap (t+q-y)=t+q-y:=IntWalk.i64_in _ (by omega);have c3:IntKind.i64.wrap (xk+q)=xk+q:=IntWalk.i64_in _ (by omega);have c4:IntKind.i64.wrap (xk+q-y)=xk+q-y:=IntWalk.i64_in _ (by omega);have e1:wrap64 (t+q)=t+q:=IntWalk.wrap64_in _ (by omega);have e2:wrap64 (t+q-y)=t+q-y:=IntWalk.wrap64_in _ (by omega);have e3:wrap64 (xk+q)=xk+q:=IntWalk.wrap64_in _ (by omega);have e4:wrap64 (xk+q-y)=xk+q-y:=IntWalk.wrap64_in _ (by omega);have f1:IntKind.i64.wrap s1=s1:=IntWalk.i64_in _ (by omega);have f2:IntKind.i64.wrap s2=s2:=IntWalk.i64_in _ (by omega);have SA:=aa sa;have SU:=aa su;have H3:=aa hp1;have H4:=aa hp2;clear sa su hs1 hs2 hp1 hp2 hmk
      go_wp2_with fail
      refine(gV av s1 q p1 H3 h2 a0 a1 z1 z2 _).mono ?_;rintro e wy ⟨rfl,rfl⟩;go_wp2
      go_quiet ((go_at_call 45;exact oV (gV uv s2 q p2 H4 h2 u0 u1 z3 z4 _)))
      have HB2:=aa (aI sJ.out nq);go_wp2
      go_roundw
      case rel=>exact⟨m+1,by omega,by go_num,by rw[SA.out],by rw[SU.out],HB2⟩
      case measure=>simp[intOf];omega
    ·
     obtain rfl:m=n:=by omega
     have hlen:=hn.out;obtain⟨av,Mv⟩:∃x,uW q xs k t m=x:=⟨_,rfl⟩;obtain⟨uv,huv⟩:∃x,uW q xs k xk m=x:=⟨_,rfl⟩;obtain⟨iv,hiv⟩:∃x,xO uv q=x:=⟨_,rfl⟩;obtain⟨wv,hwv⟩:∃x,av*iv%q=x:=⟨_,rfl⟩;have HWI:Hid (wU q xs t k=wv):=aa (by rw[wU,hlen,HXK.out,Mv,huv,hiv,hwv]);rw[Mv]at a0 a1 ⊢;rw[huv]at u0 u1 ⊢;have HIV:=aa hiv;have T_:=aa hwv;have MU:=aa (HOr.out.keep sJ.out);have HBy:=aa (ag aD.out sJ.out);obtain⟨v0,v1⟩:=Wy (a:=uv) q2 hiv;clear hlen Mv huv hiv hwv sJ aD HOr
     go_wp2_with fail
     refine(Ob uv q iv _ HIV (aa rfl) q2 h2 u0 u1 _).mono ?_;rintro e y1 ⟨rfl,n1,hy1⟩;have g1:Below wr.heap.size wr y1:=by rw[hy1];exact aI (Below.refl _ _) n1
     have BZ:=aa (MU.out.keep g1);have HB1:=aa (ag HBy.out g1);clear g1 MU HBy hy1
     go_wp2_with fail
     refine(gV av iv q wv T_ h2 a0 a1 v0 v1 _).mono ?_;rintro e y2 ⟨rfl,hy2⟩;subst hy2
     have hown:y1.ownsRow w.heap.size 3 1 u7 k ((Fv q xs t k).map (Value.int .i64)):=by
      have h3:=BZ.out;unfold iD at h3
      rwa [iq]at h3
     have hbs:=HB1.out.size
     go_wp2_with (at_builtin;refine wpList_append_own _ rfl _ _ 24 rfl w.heap.size 3 i0 (.int .i64 0) 1 8 Tryz.underlying24 hi hz0 hz1 hz2 rfl (by decide) _ _ _ rfl (hown.alloc _) ⟨y1.heap.size,0,none⟩ 1 1 [.int .i64 wv] rfl rfl (cell_one_new _ _ _) (ints_oneCell .i64 [wv]) (by unfold maxLen;omega) (by omega) (by simp;omega) ?_;intro v' y3 hown1 hgrow1 _)
     have om:Hid (iD y3 w.heap.size v' (Fv q xs t (k+1))):=aa (by
      rw[Fu,HWI.out]
      exact iD.app (iq q xs t k).symm hown1)
     have HB3:Hid (Below w.heap.size w y3):=aa (BZ.out.below HB1.out hbs hgrow1);clear hown hown1 hgrow1 BZ HB1
     go_roundw
     case rel=>exact⟨k+1,by omega,by go_num,om,HB3⟩
     case measure=>simp[intOf];omega
  ·
   obtain rfl:k=n:=by omega
   go_wp2;go_ret;exact⟨_,rfl,HOr.out,aD.out⟩
abbrev jY (need:Int)(Cs:Option Addr)(cn cc:Nat)(Ks:Option Addr)(kn kc:Nat):Value:= .agg #[.int .i64 need, .slice Cs cn cc, .slice Ks kn kc]
abbrev uV (need:Int)(Cs:Option Addr)(cn cc:Nat)(Ks:Option Addr)(kn kc:Nat):Obj:= .cells #[.int .i64 need, .slice Cs cn cc, .slice Ks kn kc] 26
def rG (Q need:Int)(n:Nat):Bool:=decide (1≤n)&&(decide (n≤8)&&(decide ((n:Int)<Q)&&(decide (1≤need)&&decide (need≤n))))
def Iy (Q i:Int):Nat→Int
 | 0=>1
 | k+1=>Iy Q i k*i%Q
def Jk (P Q:Int)(cs:List Int)(i:Int):Nat→Int
 | 0=>1
 | k+1=>Jk P Q cs i k*pw (cs.getD k 0) (Iy Q i k%Q) P%P
def Ir (P Q:Int)(cs:List Int):Nat→List Int→Bool
 | _, []=>true
 | i,y::t=>(y == Jk P Q cs ((i:Int)+1) cs.length)&&Ir P Q cs (i+1) t
theorem Gv {P Q:Int} {cs ks:List Int} {k:Nat} (hk:k<ks.length):Ir P Q cs k (ks.drop k)=((ks.getD k 0 == Jk P Q cs ((k:Int)+1) cs.length)&&Ir P Q cs (k+1) (ks.drop (k+1))):=by
 rw[List.drop_eq_getElem_cons hk,Ir,List.getD_eq_getElem?_getD,List.getElem?_eq_getElem hk];rfl
theorem BF {Q i:Int} (hQ:2≤Q):∀k,0≤Iy Q i k∧Iy Q i k<Q
 | 0=>⟨by rw[Iy];omega,by rw[Iy];omega⟩
 | k+1=>⟨Int.emod_nonneg _ (by omega),Int.emod_lt_of_pos _ (by omega)⟩
theorem Ae {P Q:Int} {cs:List Int} {i:Int} (hP:2≤P)(hQ:1≤Q)(h:cs.all (aN P Q)=true):∀k,k≤cs.length→aN P Q (Jk P Q cs i k)=true
 | 0,_=>Em hP
 | k+1,hk=>Ad hP hQ (Ae hP hQ h k (by omega)) (yM hP hQ (Int.emod_nonneg _ (by omega)) (ji h (by omega)))
theorem jE {Q need:Int} {n:Nat} (h:rG Q need n=true):1≤n∧n≤8∧(n:Int)<Q∧1≤need∧need≤n:=by
 unfold rG at h
 simpa using h
theorem uF {w:World} {A:Option Addr} {xs:List Int} (h:Sl w A xs)(hp:0<xs.length):∃b o,A=some ⟨b,o,none⟩:=by
 obtain⟨b,o,h1,_⟩:=h 0 hp;exact⟨b,o,h1⟩
def pQ (P Q G need:Int)(cs ks:List Int):Bool:=a_ P Q G&&(rG Q need ks.length&&(decide ((cs.length:Int)=need)&&(!(cs.getD 0 0 == 1)&&(cs.all (aN P Q)&&Ir P Q cs 0 ks))))
theorem p9 (P Q G need:Int)(n:Nat)(r:Bool)(hr:Hid (rG Q need n=r))(w:World) :
  Calls Tryz.prog 47 #[gv P Q G, .int .i64 need, .int .i64 n] w (Rt w (.bool r)):=by
 have HX:=aa (bD w P Q G);obtain⟨c0,c1,c2⟩:=HX.out;have hb:=af w (bg P Q G);have hr1:=hr.out;unfold rG at hr1
 by_cases h0:1≤n
 ·
  have d0:decide ((1:Int)≤(n:Int))=true:=by simp;omega
  by_cases h1:n≤8
  ·
   have d1:decide ((n:Int)≤8)=true:=by simp;omega
   by_cases h2:(n:Int)<Q
   ·
    have d2:decide ((n:Int)<Q)=true:=by simp;omega
    by_cases h3:1≤need
    ·
     have d3:decide ((1:Int)≤need)=true:=by simp;omega
     by_cases h4:need≤n
     ·
      have d4:decide (need≤(n:Int))=true:=by simp;omega
      obtain rfl:r=true:=by rw[←hr1];simp;omega
      go_in;go_wp2;go_ret;exact⟨rfl,hb⟩
     ·
      have d4:decide (need≤(n:Int))=false:=by simp;omega
      obtain rfl:r=false:=by rw[←hr1];simp;omega
      go_in;go_wp2;go_ret;exact⟨rfl,hb⟩
    ·
     have d3:decide ((1:Int)≤need)=false:=by simp;omega
     obtain rfl:r=false:=by rw[←hr1];simp;omega
     go_in;go_wp2;go_ret;exact⟨rfl,hb⟩
   ·
    have d2:decide ((n:Int)<Q)=false:=by simp;omega
    obtain rfl:r=false:=by rw[←hr1];simp;omega
    go_in;go_wp2;go_ret;exact⟨rfl,hb⟩
  ·
   have d1:decide ((n:Int)≤8)=false:=by simp;omega
   obtain rfl:r=false:=by rw[←hr1];simp;omega
   go_in;go_wp2;go_ret;exact⟨rfl,hb⟩
 ·
  have d0:decide ((1:Int)≤(n:Int))=false:=by simp;omega
  obtain rfl:r=false:=by rw[←hr1];simp;omega
  go_in;go_wp2;go_ret;exact⟨rfl,hb⟩
theorem KM (P Q G:Int)(bC oC:Nat)(cs:List Int)(cn cc:Nat)(hbig:cn<1000000)(idx K:Int)(kz:Hid (a_ P Q G=true))(hn:Hid (cs.length=cn))(hm:Hid (cs.all (aN P Q)=true))(i0:0≤idx)(i1:idx<Q)(hK:Hid (Jk P Q cs idx cs.length=K))(w:World)(hv:Hid (Vars w))(hC:Hid (Sl w (some ⟨bC,oC,none⟩) cs)) :
  Calls Tryz.prog 49 #[gv P Q G, .slice (some ⟨bC,oC,none⟩) cn cc, .int .i64 idx] w (Rt w (.int .i64 K)):=by
 obtain⟨hp2,hp,hq3,Dl⟩:=bW kz.out;have hQ:Q<9223372036854775808:=by omega
 have hq:Q<2305843009213693952:=by omega
 obtain⟨w0,HW,ai,kC⟩:=st1 (bg P Q G) rV w;have kV:=mkV ai hv;have qo:=mkS ai hC;have ah:=bI w0;clear hv hC;go_in
 go_wp2_with fail
 rw[HW.out];have zc:=kC.out _ ah;go_wp2;clear zc
 go_loopw [7,8,15] (fun y e i wr=>∃k:Nat,k≤cn∧i = .int .i64 k∧y = .int .i64 (Jk P Q cs idx k)∧e = .int .i64 (Iy Q idx k)∧Hid (Below w0.heap.size w0 wr)) (fun _ _ i _=>cn-(intOf i).toNat)
 case atStart=>exact⟨0,by omega,rfl,rfl,rfl,ah⟩
 case round=>
  obtain⟨k,hk,rfl,rfl,rfl,aD⟩:=hrel;have hkm:=Ae (i:=idx) hp2 (by omega) hm.out k (by rw[hn.out];exact hk);obtain⟨e0,e1⟩:=BF (i:=idx) (show 2≤Q by omega) k
  by_cases hlt:k<cn
  ·
   have hkl:k<cs.length:=by rw[hn.out];exact hlt
   obtain⟨b,o,hA,hi⟩:=(qo.out _ aD).out k hkl
   cases hA
   have hcm:=ji hm.out hkl;have sk:Jk P Q cs idx (k+1)=Jk P Q cs idx k*pw (cs.getD k 0) (Iy Q idx k%Q) P%P:=rfl;have se:Iy Q idx (k+1)=Iy Q idx k*idx%Q:=rfl;obtain⟨x,hx⟩:∃x,cs.getD k 0=x:=⟨_,rfl⟩;obtain⟨a,ha⟩:∃x,Jk P Q cs idx k=x:=⟨_,rfl⟩;obtain⟨e,he⟩:∃x,Iy Q idx k=x:=⟨_,rfl⟩;obtain⟨v,Fa⟩:∃x',pw x (e%Q) P=x':=⟨_,rfl⟩;obtain⟨u,hu⟩:∃x',a*v%P=x':=⟨_,rfl⟩;obtain⟨f,hf⟩:∃x',e*idx%Q=x':=⟨_,rfl⟩;rw[hx]at hi hcm sk;rw[ha]at hkm sk ⊢;rw[he]at e0 e1 sk se ⊢;rw[Fa,hu]at sk;rw[hf]at se;have ck1:Hid (lZ P Q G [x]=0):=aa (uO kz.out (by simp[hcm]));have mv:aN P Q v=true:=by rw[←Fa];exact yM hp2 (by omega) (Int.emod_nonneg _ (by omega)) hcm
   have ck2:Hid (lZ P Q G [a,v]=0):=aa (uO kz.out (by simp[hkm,mv]));have XR:=aa Fa;have HU:=aa hu;have HF:=aa hf;have SK:=aa sk;have SE:=aa se;clear hx ha he Fa hu hf sk se hcm hkm mv hkl;have zc:=kC.out _ aD
   go_wp2_with fail
   clear zc;refine fe kC aD (KX P Q G x e v ck1 XR (by omega) (by omega) _ (kV.out _ aD)) fun w1 ax zc=>?_
   go_wp2_with fail
   clear zc;refine fe kC ax (EB P Q G a v u ck2 HU hQ _ (kV.out _ ax)) fun w2 az zc=>?_
   go_wp2_with fail
   refine(zU e idx Q f HF hq e0 e1 i0 i1 _).mono ?_;rintro e9 w9 ⟨rfl,n9,rfl⟩;have zT:=aa (aI az.out n9);go_wp2
   go_roundw
   case rel=>exact⟨k+1,by omega,by go_num,by rw[SK.out],by rw[SE.out],zT⟩
   case measure=>simp[intOf];omega
  ·
   obtain rfl:k=cn:=by omega
   have hkv:=hK.out;rw[hn.out]at hkv;rw[hkv];clear hkv hkm e0 e1;go_wp2;go_ret;exact⟨rfl,f_ ai aD⟩
theorem ZC (P Q G need:Int)(Cs:Option Addr)(cn cc:Nat)(Ks:Option Addr)(kn kc:Nat)(kz:Hid (a_ P Q G=false))(hQ:Q<9223372036854775808)(w:World)(hv:Hid (Vars w)) :
  Calls Tryz.prog 13 #[gv P Q G,jY need Cs cn cc Ks kn kc] w (Rt w (.bool false)):=by
 obtain⟨w0,HW,ai,kC⟩:=st2 (bg P Q G) fq (uV need Cs cn cc Ks kn kc) rV w;have kV:=mkV ai hv;have ah:=bI w0;clear hv;go_in
 go_wp2_with fail
 rw[HW.out];have zc:=kC.out _ ah
 go_wp2_with fail
 clear zc;refine fe kC ah (dQ P Q G false kz hQ _ (kV.out _ ah)) fun w1 ax zc=>?_;go_wp2;go_ret;exact⟨rfl,f_ ai ax⟩
theorem ZB (P Q G need:Int)(Cs:Option Addr)(cn cc:Nat)(Ks:Option Addr)(kn kc:Nat)(kz:Hid (a_ P Q G=true))(HN:Hid (rG Q need kn=false))(hQ:Q<9223372036854775808)(w:World)(hv:Hid (Vars w)) :
  Calls Tryz.prog 13 #[gv P Q G,jY need Cs cn cc Ks kn kc] w (Rt w (.bool false)):=by
 obtain⟨w0,HW,ai,kC⟩:=st2 (bg P Q G) fq (uV need Cs cn cc Ks kn kc) rV w;have kV:=mkV ai hv;have ah:=bI w0;clear hv;go_in
 go_wp2_with fail
 rw[HW.out];have zc:=kC.out _ ah
 go_wp2_with fail
 clear zc;refine fe kC ah (dQ P Q G true kz hQ _ (kV.out _ ah)) fun w1 ax zc=>?_
 go_wp2_with fail
 clear zc;refine fe kC ax (p9 P Q G need kn false HN _) fun w2 az zc=>?_;go_wp2;go_ret;exact⟨rfl,f_ ai az⟩
theorem ZA (P Q G need:Int)(Cs:Option Addr)(cn cc:Nat)(Ks:Option Addr)(kn kc:Nat)(kz:Hid (a_ P Q G=true))(HN:Hid (rG Q need kn=true))(hne:¬((cn:Int)=need))(hQ:Q<9223372036854775808)(w:World)(hv:Hid (Vars w)) :
  Calls Tryz.prog 13 #[gv P Q G,jY need Cs cn cc Ks kn kc] w (Rt w (.bool false)):=by
 have dn:((cn:Int) != need)=true:=by simpa using hne
 obtain⟨w0,HW,ai,kC⟩:=st2 (bg P Q G) fq (uV need Cs cn cc Ks kn kc) rV w;have kV:=mkV ai hv;have ah:=bI w0;clear hv;go_in
 go_wp2_with fail
 rw[HW.out];have zc:=kC.out _ ah
 go_wp2_with fail
 clear zc;refine fe kC ah (dQ P Q G true kz hQ _ (kV.out _ ah)) fun w1 ax zc=>?_
 go_wp2_with fail
 clear zc;refine fe kC ax (p9 P Q G need kn true HN _) fun w2 az zc=>?_;go_wp2;go_ret;exact⟨rfl,f_ ai az⟩
theorem Zz (P Q G need:Int)(bC oC:Nat)(cs:List Int)(cn cc:Nat)(bK oK:Nat)(ks:List Int)(kn kc:Nat)(hcn:Hid (cs.length=cn))(hkn:Hid (ks.length=kn))(kz:Hid (a_ P Q G=true))(HN:Hid (rG Q need kn=true))(hne:Hid ((cn:Int)=need))(hpos:0<cn)(Qk:Int)(wI:Hid (cs.getD 0 0=Qk))(h1:(Qk == 1)=true)(hQ:Q<9223372036854775808)(w:World)(hv:Hid (Vars w))(hC:Hid (Sl w (some ⟨bC,oC,none⟩) cs))(hK:Hid (Sl w (some ⟨bK,oK,none⟩) ks)) :
  Calls Tryz.prog 13 #[gv P Q G,jY need (some ⟨bC,oC,none⟩) cn cc (some ⟨bK,oK,none⟩) kn kc] w (Rt w (.bool false)):=by
 have dn:((cn:Int) != need)=false:=by simpa using hne.out
 obtain⟨w0,HW,ai,kC⟩:=st2 (bg P Q G) fq (uV need (some ⟨bC,oC,none⟩) cn cc (some ⟨bK,oK,none⟩) kn kc) rV w;have kV:=mkV ai hv;have qo:=mkS ai hC;have uX:=mkS ai hK;have ah:=bI w0;clear hv hC hK;go_in
 go_wp2_with fail
 rw[HW.out];have zc:=kC.out _ ah
 go_wp2_with fail
 clear zc;refine fe kC ah (dQ P Q G true kz hQ _ (kV.out _ ah)) fun w1 ax zc=>?_;obtain⟨b9,o9,Pz,hi9⟩:=(qo.out _ ax).out 0 (by rw[hcn.out];exact hpos)
 cases Pz
 rw[wI.out,Nat.add_zero]at hi9;have HI9:=aa hi9;clear hi9
 go_wp2_with fail
 clear zc;refine fe kC ax (p9 P Q G need kn true HN _) fun w2 az zc=>?_;obtain⟨b9,o9,Pz,hi9⟩:=(qo.out _ az).out 0 (by rw[hcn.out];exact hpos)
 cases Pz
 rw[wI.out,Nat.add_zero]at hi9;clear HI9;go_wp2;go_ret;exact⟨rfl,f_ ai az⟩
theorem Zy (P Q G need:Int)(bC oC:Nat)(cs:List Int)(cn cc:Nat)(bK oK:Nat)(ks:List Int)(kn kc:Nat)(hcn:Hid (cs.length=cn))(hkn:Hid (ks.length=kn))(kz:Hid (a_ P Q G=true))(HN:Hid (rG Q need kn=true))(hne:Hid ((cn:Int)=need))(hpos:0<cn)(Qk:Int)(wI:Hid (cs.getD 0 0=Qk))(h1:(Qk == 1)=false)(r:Bool)(hr:Hid ((cs.all (aN P Q)&&Ir P Q cs 0 ks)=r))(hQ:Q<9223372036854775808)(w:World)(hv:Hid (Vars w))(hC:Hid (Sl w (some ⟨bC,oC,none⟩) cs))(hK:Hid (Sl w (some ⟨bK,oK,none⟩) ks)) :
  Calls Tryz.prog 13 #[gv P Q G,jY need (some ⟨bC,oC,none⟩) cn cc (some ⟨bK,oK,none⟩) kn kc] w (Rt w (.bool r)):=by
 have dn:((cn:Int) != need)=false:=by simpa using hne.out
 obtain⟨n1,n2,n3,n4,n5⟩:=jE HN.out;have CB:cn<1000000:=by have:=hne.out;omega
 obtain⟨w0,HW,ai,kC⟩:=st2 (bg P Q G) fq (uV need (some ⟨bC,oC,none⟩) cn cc (some ⟨bK,oK,none⟩) kn kc) rV w;have kV:=mkV ai hv;have qo:=mkS ai hC;have uX:=mkS ai hK;have ah:=bI w0;clear hv hC hK;go_in
 go_wp2_with fail
 rw[HW.out];have zc:=kC.out _ ah
 go_wp2_with fail
 clear zc;refine fe kC ah (dQ P Q G true kz hQ _ (kV.out _ ah)) fun w1 ax zc=>?_;obtain⟨b9,o9,Pz,hi9⟩:=(qo.out _ ax).out 0 (by rw[hcn.out];exact hpos)
 cases Pz
 rw[wI.out,Nat.add_zero]at hi9;have HI9:=aa hi9;clear hi9
 go_wp2_with fail
 clear zc;refine fe kC ax (p9 P Q G need kn true HN _) fun w2 az zc=>?_;obtain⟨b9,o9,Pz,hi9⟩:=(qo.out _ az).out 0 (by rw[hcn.out];exact hpos)
 cases Pz
 rw[wI.out,Nat.add_zero]at hi9;clear HI9;go_wp2;clear zc;clear hi9
 go_loopw [40] (fun i wr=>∃k:Nat,k≤cn∧i = .int .i64 k∧Hid (cs.all (aN P Q)=(cs.drop k).all (aN P Q))∧Hid (Below w0.heap.size w0 wr)) (fun i _=>cn-(intOf i).toNat)
 case atStart=>exact⟨0,by omega,rfl,aa rfl,az⟩
 case round=>
  obtain⟨k,hk,rfl,HR,aD⟩:=hrel
  by_cases hlt:k<cn
  ·
   have hkl:k<cs.length:=by rw[hcn.out];exact hlt
   obtain⟨b,o,hA,hi⟩:=(qo.out _ aD).out k hkl
   cases hA
   cases GJ:aN P Q (cs.getD k 0)with
   | true=>
    have HS:Hid (cs.all (aN P Q)=(cs.drop (k+1)).all (aN P Q)):=aa (HR.out.trans (mP hkl GJ));obtain⟨x,hx⟩:∃x,cs.getD k 0=x:=⟨_,rfl⟩;rw[hx]at hi GJ;have HM:=aa GJ;clear hx GJ HR hkl;have zc:=kC.out _ aD
    go_wp2_with fail
    clear zc;refine fe kC aD (eT P Q G x true (aa (by rw[xX,kz.out,HM.out];rfl)) hQ _ (kV.out _ aD)) fun w3 aW zc=>?_;go_wp2
    go_roundw
    case rel=>exact⟨k+1,by omega,by go_num,HS,aW⟩
    case measure=>simp[intOf];omega
   | false=>
    obtain rfl:r=false:=by rw[←hr.out,HR.out,oh hkl GJ];rfl
    obtain⟨x,hx⟩:∃x,cs.getD k 0=x:=⟨_,rfl⟩;rw[hx]at hi GJ;have HM:=aa GJ;clear hx GJ HR hkl;have zc:=kC.out _ aD
    go_wp2_with fail
    clear zc;refine fe kC aD (eT P Q G x false (aa (by rw[xX,kz.out,HM.out];rfl)) hQ _ (kV.out _ aD)) fun w3 aW zc=>?_;go_wp2;go_ret;exact⟨rfl,f_ ai aW⟩
  ·
   obtain rfl:k=cn:=by omega
   have qY:Hid (cs.all (aN P Q)=true):=aa (by rw[HR.out,←hcn.out];simp);have HR2:Hid (Ir P Q cs 0 ks=r):=aa (by rw[←hr.out,qY.out];rfl);clear HR;have zc:=kC.out _ aD;go_wp2;clear zc
   go_loopw [52] (fun i wr=>∃j:Nat,j≤kn∧i = .int .i64 j∧Hid (Ir P Q cs j (ks.drop j)=r)∧Hid (Below w0.heap.size w0 wr)) (fun i _=>kn-(intOf i).toNat)
   case atStart=>exact⟨0,by omega,rfl,HR2,aD⟩
   case round=>
    obtain⟨j,hj,rfl,QE,Au⟩:=hrel
    by_cases zJ:j<kn
    ·
     have hjl:j<ks.length:=by rw[hkn.out];exact zJ
     obtain⟨b,o,hA,hi⟩:=(uX.out _ Au).out j hjl
     cases hA
     have hst:=Gv (P:=P) (Q:=Q) (cs:=cs) hjl;obtain⟨y,hy⟩:∃x,ks.getD j 0=x:=⟨_,rfl⟩;obtain⟨K,Xi⟩:∃x,Jk P Q cs ((j:Int)+1) cs.length=x:=⟨_,rfl⟩;rw[hy]at hi hst;rw[Xi]at hst;have Zk:=aa Xi;have dw:IntKind.i64.wrap ((j:Int)+1)=(j:Int)+1:=IntWalk.i64_in _ (by omega);have dw2:wrap64 ((j:Int)+1)=(j:Int)+1:=IntWalk.wrap64_in _ (by omega);clear hy Xi
     cases hyk:(y == K)with
     | true=>
      have HRn:Hid (Ir P Q cs (j+1) (ks.drop (j+1))=r):=aa (by rw[←QE.out,hst,hyk];rfl);have dne:(y != K)=false:=by simpa using hyk
      clear hst QE hjl hyk;have zc:=kC.out _ Au
      go_wp2_with fail
      clear zc;refine fe kC Au (KM P Q G bC oC cs k cc CB ((j:Int)+1) K kz hcn qY (by omega) (by omega) Zk _ (kV.out _ Au) (qo.out _ Au)) fun w3 aW zc=>?_;go_wp2
      go_roundw
      case rel=>exact⟨j+1,by omega,by go_num,HRn,aW⟩
      case measure=>simp[intOf];omega
     | false=>
      obtain rfl:r=false:=by rw[←QE.out,hst,hyk];rfl
      have dne:(y != K)=true:=by simpa using hyk
      clear hst QE hjl hyk;have zc:=kC.out _ Au
      go_wp2_with fail
      clear zc;refine fe kC Au (KM P Q G bC oC cs k cc CB ((j:Int)+1) K kz hcn qY (by omega) (by omega) Zk _ (kV.out _ Au) (qo.out _ Au)) fun w3 aW zc=>?_;go_wp2;go_ret;exact⟨rfl,f_ ai aW⟩
    ·
     obtain rfl:j=kn:=by omega
     obtain rfl:r=true:=by rw[←QE.out,←hkn.out,List.drop_length];rfl
     clear QE;have zc:=kC.out _ Au;go_wp2;go_ret;exact⟨rfl,f_ ai Au⟩
theorem lI (P Q G need:Int)(Cs:Option Addr)(cs:List Int)(cn cc:Nat)(Ks:Option Addr)(ks:List Int)(kn kc:Nat)(hcn:Hid (cs.length=cn))(hkn:Hid (ks.length=kn))(r:Bool)(hr:Hid (pQ P Q G need cs ks=r))(hQ:Q<9223372036854775808)(w:World)(hv:Hid (Vars w))(hC:Hid (Sl w Cs cs))(hK:Hid (Sl w Ks ks)) :
  Calls Tryz.prog 13 #[gv P Q G,jY need Cs cn cc Ks kn kc] w (Rt w (.bool r)):=by
 have hr1:=hr.out;unfold pQ at hr1;rw[hkn.out,hcn.out]at hr1
 cases h1:a_ P Q G with
 | false=>
  obtain rfl:r=false:=by rw[←hr1,h1];rfl
  exact ZC P Q G need Cs cn cc Ks kn kc (aa h1) hQ w hv
 | true=>
  cases h2:rG Q need kn with
  | false=>
   obtain rfl:r=false:=by rw[←hr1,h1,h2];rfl
   exact ZB P Q G need Cs cn cc Ks kn kc (aa h1) (aa h2) hQ w hv
  | true=>
   by_cases h3:(cn:Int)=need
   ·
    obtain⟨n1,n2,n3,n4,n5⟩:=jE h2;have hpos:0<cn:=by omega
    obtain⟨bC,oC,rfl⟩:=uF hC.out (by rw[hcn.out];exact hpos);obtain⟨bK,oK,rfl⟩:=uF hK.out (by rw[hkn.out];exact n1)
    cases h4:(cs.getD 0 0 == 1)with
    | true=>
     obtain rfl:r=false:=by rw[←hr1,h1,h2,decide_eq_true h3,h4];rfl
     exact Zz P Q G need bC oC cs cn cc bK oK ks kn kc hcn hkn (aa h1) (aa h2) (aa h3) hpos _ (aa rfl) h4 hQ w hv hC hK
    | false=>exact Zy P Q G need bC oC cs cn cc bK oK ks kn kc hcn hkn (aa h1) (aa h2) (aa h3) hpos _ (aa rfl) h4 r (aa (by rw[←hr1,h1,h2,decide_eq_true h3,h4];rfl)) hQ w hv hC hK
   ·
    obtain rfl:r=false:=by rw[←hr1,h1,h2,decide_eq_false h3];rfl
    exact ZA P Q G need Cs cn cc Ks kn kc (aa h1) (aa h2) h3 hQ w hv
theorem qE (P Q G need:Int)(n:Nat)(r:Bool)(hr:Hid (rG Q need n=r))(w:World) :
  Calls Tryz.prog 41 #[gv P Q G, .int .i64 need, .int .i64 n] w (Rt w (.bool r)):=by
 have HX:=aa (bD w P Q G);obtain⟨c0,c1,c2⟩:=HX.out;have hb:=af w (bg P Q G);have hr1:=hr.out;unfold rG at hr1
 by_cases h0:1≤n
 ·
  have d0:decide ((1:Int)≤(n:Int))=true:=by simp;omega
  by_cases h1:n≤8
  ·
   have d1:decide ((n:Int)≤8)=true:=by simp;omega
   by_cases h2:(n:Int)<Q
   ·
    have d2:decide ((n:Int)<Q)=true:=by simp;omega
    by_cases h3:1≤need
    ·
     have d3:decide ((1:Int)≤need)=true:=by simp;omega
     by_cases h4:need≤n
     ·
      have d4:decide (need≤(n:Int))=true:=by simp;omega
      obtain rfl:r=true:=by rw[←hr1];simp;omega
      go_in;go_wp2;go_ret;exact⟨rfl,hb⟩
     ·
      have d4:decide (need≤(n:Int))=false:=by simp;omega
      obtain rfl:r=false:=by rw[←hr1];simp;omega
      go_in;go_wp2;go_ret;exact⟨rfl,hb⟩
    ·
     have d3:decide ((1:Int)≤need)=false:=by simp;omega
     obtain rfl:r=false:=by rw[←hr1];simp;omega
     go_in;go_wp2;go_ret;exact⟨rfl,hb⟩
   ·
    have d2:decide ((n:Int)<Q)=false:=by simp;omega
    obtain rfl:r=false:=by rw[←hr1];simp;omega
    go_in;go_wp2;go_ret;exact⟨rfl,hb⟩
  ·
   have d1:decide ((n:Int)≤8)=false:=by simp;omega
   obtain rfl:r=false:=by rw[←hr1];simp;omega
   go_in;go_wp2;go_ret;exact⟨rfl,hb⟩
 ·
  have d0:decide ((1:Int)≤(n:Int))=false:=by simp;omega
  obtain rfl:r=false:=by rw[←hr1];simp;omega
  go_in;go_wp2;go_ret;exact⟨rfl,hb⟩
theorem KJ {P Q:Int} {cs:List Int} (hP:2≤P)(hQ:1≤Q)(h:cs.all (aN P Q)=true):∀(ks:List Int) (i:Nat),Ir P Q cs i ks=true→ks.all (aN P Q)=true
 | [],_,_=>rfl
 | y::t,i,hk=>by
  rw[Ir]at hk
  simp only[Bool.and_eq_true,beq_iff_eq]at hk
  rw[List.all_cons,KJ hP hQ h t (i+1) hk.2,hk.1,Ae hP hQ h _ (Nat.le_refl _)];rfl
theorem iC (P Q G:Int)(A:Option Addr)(xs:List Int)(n c:Nat)(r:Bool)(hr:Hid (xs.all (aN P Q)=r))(hn:Hid (xs.length=n))(hbig:n<1000000)(h1:P<2305843009213693952)(Fg:0≤Q)(hQ:Q<9223372036854775808)(w:World)(hA0:Hid (Sl w A xs)) :
  Calls Tryz.prog 42 #[gv P Q G, .slice A n c] w (Rt w (.bool r)):=by
 obtain⟨w0,HW,ai,kC⟩:=st1 (bg P Q G) rV w;have qo:=mkS ai hA0;have ah:=bI w0;clear hA0;go_in
 go_wp2_with fail
 rw[HW.out];have zc:=kC.out _ ah;go_wp2;clear zc
 go_loopw [5] (fun i wr=>∃k:Nat,k≤n∧i = .int .i64 k∧Hid (xs.all (aN P Q)=(xs.drop k).all (aN P Q))∧Hid (Below w0.heap.size w0 wr)) (fun i _=>n-(intOf i).toNat)
 case atStart=>exact⟨0,by omega,rfl,aa rfl,ah⟩
 case round=>
  obtain⟨k,hk,rfl,HR,aD⟩:=hrel
  by_cases hlt:k<n
  ·
   have hkl:k<xs.length:=by rw[hn.out];exact hlt
   obtain⟨b,o,hA,hi⟩:=(qo.out _ aD).out k hkl;subst hA
   cases GJ:aN P Q (xs.getD k 0)with
   | true=>
    have HS:Hid (xs.all (aN P Q)=(xs.drop (k+1)).all (aN P Q)):=aa (HR.out.trans (mP hkl GJ));obtain⟨x,hx⟩:∃x,xs.getD k 0=x:=⟨_,rfl⟩;rw[hx]at hi GJ;have kI:=mkc (p:=⟨b,o+k,none⟩) (v:= .int .i64 x) hi;have HM:=aa GJ;clear hx GJ HR hkl hi;have jl:=bI wr;have zc:=kC.out _ aD;have vk:=kI.out _ jl
    go_wp2_with fail
    clear zc vk
    have hS1:=aa (show ∀u1 u2:World,(Hid (Below w0.heap.size w0 u1)∧Hid (Below wr.heap.size wr u1))→Below u1.heap.size u1 u2→((u2.cell? ⟨w.heap.size,0,none⟩=some (.int .i64 P)∧u2.cell? ⟨w.heap.size,1,none⟩=some (.int .i64 Q)∧u2.cell? ⟨w.heap.size,2,none⟩=some (.int .i64 G))∧(u2.cell? ⟨b,o+k,none⟩=some (.int .i64 x))∧Hid (Below w0.heap.size w0 u2)∧Hid (Below wr.heap.size wr u2))from fun u1 u2 h1 h2=>by
     obtain⟨q0,q1⟩:=h1;have r0:=bJ q0 h2;have r1:=bJ q1 h2
     exact⟨kC.out _ r0,kI.out _ r1,r0,r1⟩)
    have HR1:=aa (show Hid (Below w0.heap.size w0 wr)∧Hid (Below wr.heap.size wr wr)from⟨aD,jl⟩)
    go_region_held3 (fun w'=>(w'.cell? ⟨w.heap.size,0,none⟩=some (.int .i64 P)∧w'.cell? ⟨w.heap.size,1,none⟩=some (.int .i64 Q)∧w'.cell? ⟨w.heap.size,2,none⟩=some (.int .i64 G))∧(w'.cell? ⟨b,o+k,none⟩=some (.int .i64 x))∧Hid (Below w0.heap.size w0 w')∧Hid (Below wr.heap.size wr w'))
     (first | exact hS1.out _ _ HR1.out ((Below.refl _ _).drew) | (exact hS1.out _ _ (by go_split_ands;exact⟨(by assumption),(by assumption)⟩) bN) | go_keep)
     ((first
      | (go_at_call 103;(with_reducible refine(aU P Q G x true HM h1 Fg hQ _).mono ?_);rintro e wA ⟨rfl,bN⟩)))
    rename_i hHeld
    obtain⟨-,-,Ij,QL⟩:=hHeld;clear hS1 HR1;have zc:=kC.out _ Ij;have vk:=kI.out _ QL;go_wp2
    go_roundw
    case rel=>exact⟨k+1,by omega,by go_num,HS,Ij⟩
    case measure=>simp only[intOf];omega
   | false=>
    obtain rfl:r=false:=by rw[←hr.out,HR.out];exact oh hkl GJ
    obtain⟨x,hx⟩:∃x,xs.getD k 0=x:=⟨_,rfl⟩;rw[hx]at hi GJ;have kI:=mkc (p:=⟨b,o+k,none⟩) (v:= .int .i64 x) hi;have HM:=aa GJ;clear hx GJ HR hkl hi;have jl:=bI wr;have zc:=kC.out _ aD;have vk:=kI.out _ jl
    go_wp2_with fail
    clear zc vk
    have hS1:=aa (show ∀u1 u2:World,(Hid (Below w0.heap.size w0 u1)∧Hid (Below wr.heap.size wr u1))→Below u1.heap.size u1 u2→((u2.cell? ⟨w.heap.size,0,none⟩=some (.int .i64 P)∧u2.cell? ⟨w.heap.size,1,none⟩=some (.int .i64 Q)∧u2.cell? ⟨w.heap.size,2,none⟩=some (.int .i64 G))∧(u2.cell? ⟨b,o+k,none⟩=some (.int .i64 x))∧Hid (Below w0.heap.size w0 u2)∧Hid (Below wr.heap.size wr u2))from fun u1 u2 h1 h2=>by
     obtain⟨q0,q1⟩:=h1;have r0:=bJ q0 h2;have r1:=bJ q1 h2
     exact⟨kC.out _ r0,kI.out _ r1,r0,r1⟩)
    have HR1:=aa (show Hid (Below w0.heap.size w0 wr)∧Hid (Below wr.heap.size wr wr)from⟨aD,jl⟩)
    go_region_held3 (fun w'=>(w'.cell? ⟨w.heap.size,0,none⟩=some (.int .i64 P)∧w'.cell? ⟨w.heap.size,1,none⟩=some (.int .i64 Q)∧w'.cell? ⟨w.heap.size,2,none⟩=some (.int .i64 G))∧(w'.cell? ⟨b,o+k,none⟩=some (.int .i64 x))∧Hid (Below w0.heap.size w0 w')∧Hid (Below wr.heap.size wr w'))
     (first | exact hS1.out _ _ HR1.out ((Below.refl _ _).drew) | (exact hS1.out _ _ (by go_split_ands;exact⟨(by assumption),(by assumption)⟩) bN) | go_keep)
     ((first
      | (go_at_call 103;(with_reducible refine(aU P Q G x false HM h1 Fg hQ _).mono ?_);rintro e wA ⟨rfl,bN⟩)))
    rename_i hHeld
    obtain⟨-,-,Ij,QL⟩:=hHeld;clear hS1 HR1;have zc:=kC.out _ Ij;have vk:=kI.out _ QL;go_wp2;go_ret;exact⟨rfl,f_ ai Ij⟩
  ·
   obtain rfl:k=n:=by omega
   obtain rfl:r=true:=by rw[←hr.out,HR.out,←hn.out];simp
   clear HR;have zc:=kC.out _ aD;go_wp2;go_ret;exact⟨rfl,f_ ai aD⟩
theorem VT (P Q G need:Int)(Cs:Option Addr)(cn cc:Nat)(Ks:Option Addr)(kn kc:Nat)(kz:Hid (a_ P Q G=false))(hQ:Q<9223372036854775808)(w:World) :
  Calls Tryz.prog 12 #[gv P Q G,jY need Cs cn cc Ks kn kc] w (Rt w (.bool false)):=by
 obtain⟨w0,HW,ai,kC⟩:=st2 (bg P Q G) fq (uV need Cs cn cc Ks kn kc) rV w;have ah:=bI w0;go_in
 go_wp2_with fail
 rw[HW.out];have zc:=kC.out _ ah
 go_wp2_with fail
 clear zc;refine fe kC ah (di P Q G false kz hQ _) fun w1 ax zc=>?_;go_wp2;go_ret;exact⟨rfl,f_ ai ax⟩
theorem VS (P Q G need:Int)(Cs:Option Addr)(cn cc:Nat)(Ks:Option Addr)(kn kc:Nat)(kz:Hid (a_ P Q G=true))(HN:Hid (rG Q need kn=false))(hQ:Q<9223372036854775808)(w:World) :
  Calls Tryz.prog 12 #[gv P Q G,jY need Cs cn cc Ks kn kc] w (Rt w (.bool false)):=by
 obtain⟨w0,HW,ai,kC⟩:=st2 (bg P Q G) fq (uV need Cs cn cc Ks kn kc) rV w;have ah:=bI w0;go_in
 go_wp2_with fail
 rw[HW.out];have zc:=kC.out _ ah
 go_wp2_with fail
 clear zc;refine fe kC ah (di P Q G true kz hQ _) fun w1 ax zc=>?_
 go_wp2_with fail
 clear zc;refine fe kC ax (qE P Q G need kn false HN _) fun w2 az zc=>?_;go_wp2;go_ret;exact⟨rfl,f_ ai az⟩
theorem VR (P Q G need:Int)(Cs:Option Addr)(cn cc:Nat)(Ks:Option Addr)(kn kc:Nat)(kz:Hid (a_ P Q G=true))(HN:Hid (rG Q need kn=true))(hne:¬((cn:Int)=need))(hQ:Q<9223372036854775808)(w:World) :
  Calls Tryz.prog 12 #[gv P Q G,jY need Cs cn cc Ks kn kc] w (Rt w (.bool false)):=by
 have dn:((cn:Int) != need)=true:=by simpa using hne
 obtain⟨w0,HW,ai,kC⟩:=st2 (bg P Q G) fq (uV need Cs cn cc Ks kn kc) rV w;have ah:=bI w0;go_in
 go_wp2_with fail
 rw[HW.out];have zc:=kC.out _ ah
 go_wp2_with fail
 clear zc;refine fe kC ah (di P Q G true kz hQ _) fun w1 ax zc=>?_
 go_wp2_with fail
 clear zc;refine fe kC ax (qE P Q G need kn true HN _) fun w2 az zc=>?_;go_wp2;go_ret;exact⟨rfl,f_ ai az⟩
theorem VQ (P Q G need:Int)(bC oC:Nat)(cs:List Int)(cn cc:Nat)(bK oK:Nat)(ks:List Int)(kn kc:Nat)(hcn:Hid (cs.length=cn))(hkn:Hid (ks.length=kn))(kz:Hid (a_ P Q G=true))(HN:Hid (rG Q need kn=true))(hne:Hid ((cn:Int)=need))(hpos:0<cn)(hall:Hid (cs.all (aN P Q)=false))(hQ:Q<9223372036854775808)(w:World)(hC:Hid (Sl w (some ⟨bC,oC,none⟩) cs))(hK:Hid (Sl w (some ⟨bK,oK,none⟩) ks)) :
  Calls Tryz.prog 12 #[gv P Q G,jY need (some ⟨bC,oC,none⟩) cn cc (some ⟨bK,oK,none⟩) kn kc] w (Rt w (.bool false)):=by
 have dn:((cn:Int) != need)=false:=by simpa using hne.out
 obtain⟨hp2,hp,hq3,Dl⟩:=bW kz.out;obtain⟨n1,n2,n3,n4,n5⟩:=jE HN.out;have CB:cn<1000000:=by have:=hne.out;omega
 obtain⟨w0,HW,ai,kC⟩:=st2 (bg P Q G) fq (uV need (some ⟨bC,oC,none⟩) cn cc (some ⟨bK,oK,none⟩) kn kc) rV w;have qo:=mkS ai hC;have uX:=mkS ai hK;have ah:=bI w0;clear hC hK;go_in
 go_wp2_with fail
 rw[HW.out];have zc:=kC.out _ ah
 go_wp2_with fail
 clear zc;refine fe kC ah (di P Q G true kz hQ _) fun w1 ax zc=>?_
 go_wp2_with fail
 clear zc;refine fe kC ax (qE P Q G need kn true HN _) fun w2 az zc=>?_
 go_wp2_with fail
 clear zc;refine fe kC az (iC P Q G (some ⟨bC,oC,none⟩) cs cn cc false hall hcn CB hp (by omega) hQ _ (qo.out _ az)) fun w3 aW zc=>?_;go_wp2;go_ret;exact⟨rfl,f_ ai aW⟩
theorem VP (P Q G need:Int)(bC oC:Nat)(cs:List Int)(cn cc:Nat)(bK oK:Nat)(ks:List Int)(kn kc:Nat)(hcn:Hid (cs.length=cn))(hkn:Hid (ks.length=kn))(kz:Hid (a_ P Q G=true))(HN:Hid (rG Q need kn=true))(hne:Hid ((cn:Int)=need))(hpos:0<cn)(hall:Hid (cs.all (aN P Q)=true))(Pn:Hid (ks.all (aN P Q)=false))(hQ:Q<9223372036854775808)(w:World)(hC:Hid (Sl w (some ⟨bC,oC,none⟩) cs))(hK:Hid (Sl w (some ⟨bK,oK,none⟩) ks)) :
  Calls Tryz.prog 12 #[gv P Q G,jY need (some ⟨bC,oC,none⟩) cn cc (some ⟨bK,oK,none⟩) kn kc] w (Rt w (.bool false)):=by
 have dn:((cn:Int) != need)=false:=by simpa using hne.out
 obtain⟨hp2,hp,hq3,Dl⟩:=bW kz.out;obtain⟨n1,n2,n3,n4,n5⟩:=jE HN.out;have CB:cn<1000000:=by have:=hne.out;omega
 obtain⟨w0,HW,ai,kC⟩:=st2 (bg P Q G) fq (uV need (some ⟨bC,oC,none⟩) cn cc (some ⟨bK,oK,none⟩) kn kc) rV w;have qo:=mkS ai hC;have uX:=mkS ai hK;have ah:=bI w0;clear hC hK;go_in
 go_wp2_with fail
 rw[HW.out];have zc:=kC.out _ ah
 go_wp2_with fail
 clear zc;refine fe kC ah (di P Q G true kz hQ _) fun w1 ax zc=>?_
 go_wp2_with fail
 clear zc;refine fe kC ax (qE P Q G need kn true HN _) fun w2 az zc=>?_
 go_wp2_with fail
 clear zc;refine fe kC az (iC P Q G (some ⟨bC,oC,none⟩) cs cn cc true hall hcn CB hp (by omega) hQ _ (qo.out _ az)) fun w3 aW zc=>?_
 go_wp2_with fail
 clear zc;refine fe kC aW (iC P Q G (some ⟨bK,oK,none⟩) ks kn kc false Pn hkn (by omega) hp (by omega) hQ _ (uX.out _ aW)) fun w4 bE zc=>?_;go_wp2;go_ret;exact⟨rfl,f_ ai bE⟩
theorem VO (P Q G need:Int)(bC oC:Nat)(cs:List Int)(cn cc:Nat)(bK oK:Nat)(ks:List Int)(kn kc:Nat)(hcn:Hid (cs.length=cn))(hkn:Hid (ks.length=kn))(kz:Hid (a_ P Q G=true))(HN:Hid (rG Q need kn=true))(hne:Hid ((cn:Int)=need))(hpos:0<cn)(hall:Hid (cs.all (aN P Q)=true))(Pn:Hid (ks.all (aN P Q)=true))(Qk:Int)(wI:Hid (cs.getD 0 0=Qk))(h1:(Qk == 1)=true)(hQ:Q<9223372036854775808)(w:World)(hC:Hid (Sl w (some ⟨bC,oC,none⟩) cs))(hK:Hid (Sl w (some ⟨bK,oK,none⟩) ks)) :
  Calls Tryz.prog 12 #[gv P Q G,jY need (some ⟨bC,oC,none⟩) cn cc (some ⟨bK,oK,none⟩) kn kc] w (Rt w (.bool false)):=by
 have dn:((cn:Int) != need)=false:=by simpa using hne.out
 obtain⟨hp2,hp,hq3,Dl⟩:=bW kz.out;obtain⟨n1,n2,n3,n4,n5⟩:=jE HN.out;have CB:cn<1000000:=by have:=hne.out;omega
 obtain⟨w0,HW,ai,kC⟩:=st2 (bg P Q G) fq (uV need (some ⟨bC,oC,none⟩) cn cc (some ⟨bK,oK,none⟩) kn kc) rV w;have qo:=mkS ai hC;have uX:=mkS ai hK;have ah:=bI w0;clear hC hK;go_in
 go_wp2_with fail
 rw[HW.out];have zc:=kC.out _ ah
 go_wp2_with fail
 clear zc;refine fe kC ah (di P Q G true kz hQ _) fun w1 ax zc=>?_
 go_wp2_with fail
 clear zc;refine fe kC ax (qE P Q G need kn true HN _) fun w2 az zc=>?_
 go_wp2_with fail
 clear zc;refine fe kC az (iC P Q G (some ⟨bC,oC,none⟩) cs cn cc true hall hcn CB hp (by omega) hQ _ (qo.out _ az)) fun w3 aW zc=>?_
 go_wp2_with fail
 clear zc;refine fe kC aW (iC P Q G (some ⟨bK,oK,none⟩) ks kn kc true Pn hkn (by omega) hp (by omega) hQ _ (uX.out _ aW)) fun w4 bE zc=>?_;obtain⟨b9,o9,Pz,hi9⟩:=(qo.out _ bE).out 0 (by rw[hcn.out];exact hpos)
 cases Pz
 rw[wI.out,Nat.add_zero]at hi9;go_wp2;go_ret;exact⟨rfl,f_ ai bE⟩
theorem xV {j n:Nat} (h:j<n)(h8:n≤8):IntKind.i64.wrap ((j:Int)+1-1)=(j:Int)∧IntKind.i64.wrap (j:Int)=(j:Int)∧IntKind.i64.wrap ((j:Int)+1+1)=(j:Int)+1+1∧wrap64 ((j:Int)+1-1)=(j:Int)∧wrap64 ((j:Int)+1+1)=(j:Int)+1+1:=
 ⟨by rw[Int.add_sub_cancel];exact IntWalk.i64_in _ (by omega),IntWalk.i64_in _ (by omega),IntWalk.i64_in _ (by omega),by rw[Int.add_sub_cancel];exact IntWalk.wrap64_in _ (by omega),IntWalk.wrap64_in _ (by omega)⟩
theorem JV (j:Nat):((j:Int)+1+1)=((j+1:Nat):Int)+1:=by omega
theorem Wm {j n:Nat} (h:j<n):n+1-((j:Int)+1+1).toNat<n+1-((j:Int)+1).toNat:=by omega
theorem zu {a b:Int} :(a != b)=(b != a):=by rw[bne,bne,BEq.comm]
theorem VN (P Q G need:Int)(bC oC:Nat)(cs:List Int)(cn cc:Nat)(bK oK:Nat)(ks:List Int)(kn kc:Nat)(hcn:Hid (cs.length=cn))(hkn:Hid (ks.length=kn))(kz:Hid (a_ P Q G=true))(HN:Hid (rG Q need kn=true))(hne:Hid ((cn:Int)=need))(hpos:0<cn)(hall:Hid (cs.all (aN P Q)=true))(Pn:Hid (ks.all (aN P Q)=true))(Qk:Int)(wI:Hid (cs.getD 0 0=Qk))(h1:(Qk == 1)=false)(r:Bool)(hr:Hid (Ir P Q cs 0 (ks.drop 0)=r))(hQ:Q<9223372036854775808)(w:World)(hC:Hid (Sl w (some ⟨bC,oC,none⟩) cs))(hK:Hid (Sl w (some ⟨bK,oK,none⟩) ks)) :
  Calls Tryz.prog 12 #[gv P Q G,jY need (some ⟨bC,oC,none⟩) cn cc (some ⟨bK,oK,none⟩) kn kc] w (Rt w (.bool r)):=by
 have dn:((cn:Int) != need)=false:=by simpa using hne.out
 obtain⟨hp2,hp,hq3,Dl⟩:=bW kz.out;obtain⟨n1,n2,n3,n4,n5⟩:=jE HN.out;have CB:cn<1000000:=by have:=hne.out;omega
 obtain⟨w0,HW,ai,kC⟩:=st2 (bg P Q G) fq (uV need (some ⟨bC,oC,none⟩) cn cc (some ⟨bK,oK,none⟩) kn kc) rV w;have qo:=mkS ai hC;have uX:=mkS ai hK;have ah:=bI w0;clear hC hK;go_in
 go_wp2_with fail
 rw[HW.out];have zc:=kC.out _ ah
 go_wp2_with fail
 clear zc;refine fe kC ah (di P Q G true kz hQ _) fun w1 ax zc=>?_
 go_wp2_with fail
 clear zc;refine fe kC ax (qE P Q G need kn true HN _) fun w2 az zc=>?_
 go_wp2_with fail
 clear zc;refine fe kC az (iC P Q G (some ⟨bC,oC,none⟩) cs cn cc true hall hcn CB hp (by omega) hQ _ (qo.out _ az)) fun w3 aW zc=>?_
 go_wp2_with fail
 clear zc;refine fe kC aW (iC P Q G (some ⟨bK,oK,none⟩) ks kn kc true Pn hkn (by omega) hp (by omega) hQ _ (uX.out _ aW)) fun w4 bE zc=>?_;obtain⟨b9,o9,Pz,hi9⟩:=(qo.out _ bE).out 0 (by rw[hcn.out];exact hpos)
 cases Pz
 rw[wI.out,Nat.add_zero]at hi9;go_wp2;clear zc;clear hi9
 go_loopw [5] (fun i wr=>∃j:Nat,j≤kn∧i = .int .i64 ((j:Int)+1)∧Hid (Ir P Q cs j (ks.drop j)=r)∧Hid (Below w0.heap.size w0 wr)) (fun i _=>kn+1-(intOf i).toNat)
 case atStart=>exact⟨0,by omega,rfl,hr,bE⟩
 case round=>
  obtain⟨j,hj,rfl,QE,Au⟩:=hrel
  by_cases zJ:j<kn
  ·
   have hjl:j<ks.length:=by rw[hkn.out];exact zJ
   have hst:=Gv (P:=P) (Q:=Q) (cs:=cs) hjl;obtain⟨y,hy⟩:∃x,ks.getD j 0=x:=⟨_,rfl⟩;obtain⟨K,Xi⟩:∃x,Jk P Q cs ((j:Int)+1) cs.length=x:=⟨_,rfl⟩;rw[hy,Xi]at hst;have Zk:=aa Xi;have HY:=aa hy;have HST:=aa hst;have dle:decide ((j:Int)+1≤(kn:Int))=true:=by simp;omega
   have i1:(j:Int)+1<Q:=by omega
   clear hy Xi hst;have zc:=kC.out _ Au;go_wp2;clear zc
   go_loopw [6,7,8] (fun a e i wz=>∃k:Nat,k≤cn∧i = .int .i64 k∧a = .int .i64 (Jk P Q cs ((j:Int)+1) k)∧e = .int .i64 (Iy Q ((j:Int)+1) k)∧Hid (Below w0.heap.size w0 wz)) (fun _ _ i _=>cn-(intOf i).toNat)
   case atStart=>exact⟨0,by omega,rfl,rfl,rfl,Au⟩
   case round=>
    obtain⟨k,hk,rfl,rfl,rfl,aD⟩:=hrel;have hkm:=Ae (i:=(j:Int)+1) hp2 (by omega) hall.out k (by rw[hcn.out];exact hk);obtain⟨e0,e1⟩:=BF (i:=(j:Int)+1) (show 2≤Q by omega) k
    by_cases hlt:k<cn
    ·
     have hkl:k<cs.length:=by rw[hcn.out];exact hlt
     obtain⟨b,o,hA,hi⟩:=(qo.out _ aD).out k hkl
     cases hA
     have hcm:=ji hall.out hkl;have sk:Jk P Q cs ((j:Int)+1) (k+1)=Jk P Q cs ((j:Int)+1) k*pw (cs.getD k 0) (Iy Q ((j:Int)+1) k%Q) P%P:=rfl;have se:Iy Q ((j:Int)+1) (k+1)=Iy Q ((j:Int)+1) k*((j:Int)+1)%Q:=rfl;obtain⟨x,hx⟩:∃x,cs.getD k 0=x:=⟨_,rfl⟩;obtain⟨a,ha⟩:∃x,Jk P Q cs ((j:Int)+1) k=x:=⟨_,rfl⟩;obtain⟨e,he⟩:∃x,Iy Q ((j:Int)+1) k=x:=⟨_,rfl⟩;obtain⟨v,Fa⟩:∃x',pw x (e%Q) P=x':=⟨_,rfl⟩;obtain⟨u,hu⟩:∃x',a*v%P=x':=⟨_,rfl⟩;obtain⟨f,hf⟩:∃x',e*((j:Int)+1)%Q=x':=⟨_,rfl⟩;rw[hx]at hi hcm sk;rw[ha]at hkm sk ⊢;rw[he]at e0 e1 sk se ⊢;rw[Fa,hu]at sk;rw[hf]at se;have x0:=gD hcm;have x1:=gF hcm;have a0:=gD hkm;have a1:=gF hkm;obtain⟨v0,v1⟩:0≤v∧v<P:=by rw[←Fa];exact zg _ _ _ (by omega)
     have XR:=aa Fa;have HU:=aa hu;have HF:=aa hf;have SK:=aa sk;have SE:=aa se;have kI:=mkc (p:=⟨bC,oC+k,none⟩) (v:= .int .i64 x) hi;clear hx ha he Fa hu hf sk se hcm hkm hkl hi;have fA:=bI wr;have zc:=kC.out _ aD;have vk:=kI.out _ fA
     go_wp2_with fail
     clear zc vk
     have hS5:=aa (show ∀u1 u2:World,(Hid (Below w0.heap.size w0 u1)∧Hid (Below wr.heap.size wr u1))→Below u1.heap.size u1 u2→((u2.cell? ⟨w.heap.size,0,none⟩=some (.int .i64 P)∧u2.cell? ⟨w.heap.size,1,none⟩=some (.int .i64 Q)∧u2.cell? ⟨w.heap.size,2,none⟩=some (.int .i64 G)∧u2.cell? ⟨w.heap.size+1,0,none⟩=some (.int .i64 need)∧u2.cell? ⟨w.heap.size+1,1,none⟩=some (.slice (some ⟨bC,oC,none⟩) cn cc)∧u2.cell? ⟨w.heap.size+1,2,none⟩=some (.slice (some ⟨bK,oK,none⟩) kn kc))∧(u2.cell? ⟨bC,oC+k,none⟩=some (.int .i64 x))∧Hid (Below w0.heap.size w0 u2)∧Hid (Below wr.heap.size wr u2))from fun u1 u2 h1 h2=>by
      obtain⟨q0,q1⟩:=h1;have r0:=bJ q0 h2;have r1:=bJ q1 h2
      exact⟨kC.out _ r0,kI.out _ r1,r0,r1⟩)
     have wE:=aa (show Hid (Below w0.heap.size w0 wr)∧Hid (Below wr.heap.size wr wr)from⟨aD,fA⟩)
     go_region_held3 (fun w'=>(w'.cell? ⟨w.heap.size,0,none⟩=some (.int .i64 P)∧w'.cell? ⟨w.heap.size,1,none⟩=some (.int .i64 Q)∧w'.cell? ⟨w.heap.size,2,none⟩=some (.int .i64 G)∧w'.cell? ⟨w.heap.size+1,0,none⟩=some (.int .i64 need)∧w'.cell? ⟨w.heap.size+1,1,none⟩=some (.slice (some ⟨bC,oC,none⟩) cn cc)∧w'.cell? ⟨w.heap.size+1,2,none⟩=some (.slice (some ⟨bK,oK,none⟩) kn kc))∧(w'.cell? ⟨bC,oC+k,none⟩=some (.int .i64 x))∧Hid (Below w0.heap.size w0 w')∧Hid (Below wr.heap.size wr w'))
      (first | exact hS5.out _ _ wE.out ((Below.refl _ _).drew) | (exact hS5.out _ _ (by go_split_ands;exact⟨(by assumption),(by assumption)⟩) bN) | go_keep)
      ((first
       | (go_at_call 44;(with_reducible refine(Bd P Q G x e v XR (by omega) hp (by omega) (by omega) (by omega) x1 (by omega) (by omega) _).mono ?_);rintro e wA ⟨rfl,bN⟩)
       | (go_at_call 43;(with_reducible refine(C_ P Q G a v u HU hp (by omega) a1 v0 v1 _).mono ?_);rintro e wA ⟨rfl,bN⟩)))
     rename_i hHeld
     obtain⟨-,-,Vg,abW⟩:=hHeld;clear hS5 wE;have zc:=kC.out _ Vg;have vk:=kI.out _ abW
     go_wp2_with fail
     refine(gV e ((j:Int)+1) Q f HF (by omega) e0 e1 (by omega) i1 _).mono ?_;rintro e9 w9 ⟨rfl,xP⟩;subst xP;go_wp2
     go_roundw
     case rel=>exact⟨k+1,by omega,by go_num,by rw[SK.out],by rw[SE.out],Vg⟩
     case measure=>simp[intOf];omega
    ·
     obtain rfl:k=cn:=by omega
     have hkv:=Zk.out;rw[hcn.out]at hkv;rw[hkv];clear hkv hkm e0 e1;obtain⟨b,o,hA,hi⟩:=(uX.out _ aD).out j hjl
     cases hA
     rw[HY.out]at hi;obtain⟨dj,dj1,dj2,dj3,dj4⟩:=xV zJ n2
     cases hyk:(y == K)with
     | true=>
      have HRn:Hid (Ir P Q cs (j+1) (ks.drop (j+1))=r):=aa (by rw[←QE.out,HST.out,hyk];rfl);have dne:(K != y)=false:=by rw[zu];simpa using hyk
      clear hyk;have zc:=kC.out _ aD;go_wp2
      go_roundw
      case rel=>exact⟨j+1,zJ,by rw[JV],HRn,aD⟩
      case measure=>simp only[intOf];exact Wm zJ
     | false=>
      obtain rfl:r=false:=by rw[←QE.out,HST.out,hyk];rfl
      have dne:(K != y)=true:=by rw[zu];simpa using hyk
      clear hyk;have zc:=kC.out _ aD;go_wp2;go_ret;exact⟨rfl,f_ ai aD⟩
  ·
   obtain rfl:j=kn:=by omega
   obtain rfl:r=true:=by rw[←QE.out,←hkn.out,List.drop_length];rfl
   have dle:decide ((j:Int)+1≤(j:Int))=false:=by simp;omega
   clear QE;have zc:=kC.out _ Au;go_wp2;go_ret;exact⟨rfl,f_ ai Au⟩
theorem jZ (P Q G need:Int)(Cs:Option Addr)(cs:List Int)(cn cc:Nat)(Ks:Option Addr)(ks:List Int)(kn kc:Nat)(hcn:Hid (cs.length=cn))(hkn:Hid (ks.length=kn))(r:Bool)(hr:Hid (pQ P Q G need cs ks=r))(hQ:Q<9223372036854775808)(w:World)(hC:Hid (Sl w Cs cs))(hK:Hid (Sl w Ks ks)) :
  Calls Tryz.prog 12 #[gv P Q G,jY need Cs cn cc Ks kn kc] w (Rt w (.bool r)):=by
 have hr1:=hr.out;unfold pQ at hr1;rw[hkn.out,hcn.out]at hr1
 cases h1:a_ P Q G with
 | false=>
  obtain rfl:r=false:=by rw[←hr1,h1];rfl
  exact VT P Q G need Cs cn cc Ks kn kc (aa h1) hQ w
 | true=>
  cases h2:rG Q need kn with
  | false=>
   obtain rfl:r=false:=by rw[←hr1,h1,h2];rfl
   exact VS P Q G need Cs cn cc Ks kn kc (aa h1) (aa h2) hQ w
  | true=>
   by_cases h3:(cn:Int)=need
   ·
    obtain⟨n1,n2,n3,n4,n5⟩:=jE h2;obtain⟨p1,p2,p3,p4⟩:=bW h1;have hpos:0<cn:=by omega
    obtain⟨bC,oC,rfl⟩:=uF hC.out (by rw[hcn.out];exact hpos);obtain⟨bK,oK,rfl⟩:=uF hK.out (by rw[hkn.out];exact n1)
    cases h4:cs.all (aN P Q)with
    | false=>
     obtain rfl:r=false:=by rw[←hr1,h1,h2,decide_eq_true h3,h4];simp
     exact VQ P Q G need bC oC cs cn cc bK oK ks kn kc hcn hkn (aa h1) (aa h2) (aa h3) hpos (aa h4) hQ w hC hK
    | true=>
     cases h5:ks.all (aN P Q)with
     | false=>
      have h6:Ir P Q cs 0 ks=false:=by
       cases h7:Ir P Q cs 0 ks with
       | false=>rfl
       | true=>rw[KJ p1 (by omega) h4 ks 0 h7]at h5;cases h5
      obtain rfl:r=false:=by rw[←hr1,h1,h2,decide_eq_true h3,h4,h6];simp
      exact VP P Q G need bC oC cs cn cc bK oK ks kn kc hcn hkn (aa h1) (aa h2) (aa h3) hpos (aa h4) (aa h5) hQ w hC hK
     | true=>
      cases h6:(cs.getD 0 0 == 1)with
      | true=>
       obtain rfl:r=false:=by rw[←hr1,h1,h2,decide_eq_true h3,h6];rfl
       exact VO P Q G need bC oC cs cn cc bK oK ks kn kc hcn hkn (aa h1) (aa h2) (aa h3) hpos (aa h4) (aa h5) _ (aa rfl) h6 hQ w hC hK
      | false=>exact VN P Q G need bC oC cs cn cc bK oK ks kn kc hcn hkn (aa h1) (aa h2) (aa h3) hpos (aa h4) (aa h5) _ (aa rfl) h6 r (aa (by rw[←hr1,h1,h2,decide_eq_true h3,h4,h6,List.drop_zero];rfl)) hQ w hC hK
   ·
    obtain rfl:r=false:=by rw[←hr1,h1,h2,decide_eq_false h3];rfl
    exact VR P Q G need Cs cn cc Ks kn kc (aa h1) (aa h2) h3 hQ w
end Go.Proofs.YtchcllcbknfikaaGreatDoor
namespace Go.Proofs.YtchcllcbknfikaaGreatDoor
open Go.RowKit sH Go.Maps
theorem Wt:Keyed Tryz.prog 3:=int_keyed Tryz.underlying3
theorem Zr (w:World):(zeroValue 4).run Tryz.prog w = .ok (.bool false) w:=by kernel_rfl
theorem Et {a b:Int} (h:a≠b):(Lit.int .i64 a)≠Lit.int .i64 b:=fun e=>h (by injection e)
theorem vQ {P:Program} {e:TypeId} (he:P.underlying e=some .bool) {v:Value} {z:DataW Unit × List MemPlace} (h:plainElem P e v=some z):∃x,v = .bool x∧z.1 = .lit (.bool x):=by
 unfold plainElem at h;rw[he]at h
 cases v <;> simp at h
 exact⟨_,rfl,by rw[←h]⟩
theorem Gp {a b:Bool} (h:(DataW.lit (.bool a):DataW Unit) = .lit (.bool b)):a=b:=by
 injection h with h1;injection h1
def TwR (xs:List Int)(wr:World)(B k:Nat):Prop:=
 ∃D:DataW Unit,wr.ownsMap Tryz.prog 3 (plainElem Tryz.prog 4) B k D∧(∀a:Int,has D (.int .i64 a)=true→D.atKey (.int .i64 a) (.lit (.bool false)) = .lit (.bool true)∧∃j,j<k∧a=xs.getD j 0)∧(∀j,j<k→has D (.int .i64 (xs.getD j 0))=true)
theorem Nr (xs:List Int)(w:World):TwR xs (w.alloc (.map #[] 0)) w.heap.size 0:=
 ⟨.map [],World.ownsMap_made _ _ _ _,fun a h=>by simp[has]at h,fun j h=>absurd h (by omega)⟩
theorem RB {xs:List Int} {w':World} {B k:Nat} {x:Int} {D:DataW Unit} (hx:xs.getD k 0=x)(ht:Tidy D)
  (h1:w'.ownsMap Tryz.prog 3 (plainElem Tryz.prog 4) B (k+1) (D.put (.int .i64 x) (.lit (.bool true))))
  (hA:∀a:Int,has D (.int .i64 a)=true→D.atKey (.int .i64 a) (.lit (.bool false)) = .lit (.bool true)∧∃j,j<k∧a=xs.getD j 0) (hB:∀j,j<k→has D (.int .i64 (xs.getD j 0))=true):TwR xs w' B (k+1):=by
 refine⟨_,h1,fun a ha=>?_,fun j hj=>?_⟩
 ·
  by_cases hax:a=x
  ·
   subst hax;exact⟨atKey_put_same ht.isMap (by simp[WideAt.IsKeyLit]) _ _,k,by omega,hx.symm⟩
  ·
   rw[has_put_other (Et hax)]at ha;rw[atKey_put_other (Et hax)];obtain⟨e1,j,hj,e2⟩:=hA a ha;exact⟨e1,j,by omega,e2⟩
 ·
  by_cases hjx:xs.getD j 0=x
  · rw[hjx];exact has_put_same ht.isMap (by simp[WideAt.IsKeyLit]) _
  ·
   rw[has_put_other (Et hjx)];have hjk:j≠k:=fun e=>hjx (by rw[e];exact hx);exact hB j (by omega)
def TU (xs:List Int)(k:Nat):Prop:=∀i j,i<k→j<i→xs.getD i 0≠xs.getD j 0
theorem CY (A:Option Addr)(xs:List Int)(n c:Nat)(r:Bool)(hr:Hid (r=false↔mQ xs))(hn:Hid (xs.length=n))(hbig:n<1000000)(hw:Hid (∀k,k<n → -9223372036854775808≤xs.getD k 0∧xs.getD k 0<9223372036854775808))(w:World)(hs:Hid (Sl w A xs)) :
  Calls Tryz.prog 33 #[.slice A n c] w (Rt w (.bool r)):=by
 have hmm:=fun t w=>run_makeMap (P:=Tryz.prog) t w;have IE:=aa (Nr xs w);have Us:Hid (Below w.heap.size w (w.alloc (.map #[] 0))):=aa (af _ _);obtain⟨B,Y5⟩:∃B,w.heap.size=B:=⟨_,rfl⟩;obtain⟨W,hWe⟩:∃W,w.alloc (.map #[] 0)=W:=⟨_,rfl⟩;rw[Y5,hWe]at IE Us;have HBe:=aa Y5;have HWe:=aa hWe;have u_:Hid (B≤W.heap.size):=aa (by rw[←Y5,←hWe];simp);clear Y5 hWe;go_in;go_wp2;rw[HWe.out,HBe.out]
 go_loopw [9] (fun i wr=>∃k:Nat,k≤n∧i = .int .i64 k∧Hid (TU xs k)∧Hid (TwR xs wr B k)∧Hid (Below B w wr)) (fun i _=>n-(intOf i).toNat)
 case atStart=>exact⟨0,by omega,rfl,aa (fun i j h _=>absurd h (by omega)),IE,Us⟩
 case round=>
  obtain⟨k,hk,rfl,HNT,HMr,aD⟩:=hrel
  by_cases hlt:k<n
  ·
   have hkl:k<xs.length:=by rw[hn.out];exact hlt
   obtain⟨b,o,hA,hi0⟩:=(hs.out.below (show Below w.heap.size w wr by rw[HBe.out];exact aD.out)) k hkl;subst hA;obtain⟨w1,w2⟩:=hw.out k hlt;obtain⟨x,hx⟩:∃x,xs.getD k 0=x:=⟨_,rfl⟩;rw[hx]at hi0 w1 w2;obtain⟨D,hown,hA,hB⟩:=HMr.out;have HX:=aa hx;have HA9:=aa hA;have zT:=aa hB;have HT:=aa (hown.tidy Wt);have wf1:(Lit.int .i64 x).wf=true:=WalkArith.wf_i64 (by omega);have hkey:keyOf Tryz.prog 3 (.int .i64 x)=some (.int .i64 x):=keyOf_int_mk Tryz.underlying3 wf1;obtain⟨v9,ps9,hrun,Fa⟩:=hown.lookup Wt Tryz.underlying123 (Zr wr) (plainElem_bool Tryz.underlying4 false) hkey;obtain⟨bv,rfl,hbv⟩:=vQ Tryz.underlying4 Fa;clear Fa hA hB hx
   cases hh:has D (.int .i64 x)with
   | true=>
    obtain⟨e1,j,hj,e2⟩:=HA9.out x hh
    have hbt:bv=true:=by
     rw[e1]at hbv;exact(Gp hbv).symm
    subst hbt
    obtain rfl:r=true:=by
     cases hrr:r with
     | true=>rfl
     | false=>exact absurd (HX.out.trans e2) ((hr.out.1 hrr) k j hkl hj)
    clear e1 e2 hbv hh;go_wp2;go_ret;exact⟨rfl,by rw[HBe.out];exact aD.out⟩
   | false=>
    have hbf:bv=false:=by
     rw[atKey_of_not_has hh]at hbv;exact(Gp hbv).symm
    subst hbf
    have Uf:Hid (TU xs (k+1)):=aa (fun i j hi hj=>by
     by_cases e:i=k
     ·
      subst e;intro h;have:=zT.out j hj;rw[←h,HX.out,hh]at this
      cases this
     · exact HNT.out i j (by omega) hj)
    clear hbv hh
    go_wp2_with (at_mapUpdate;refine wpList_mapUpdate_own _ rfl _ _ _ 123 rfl 3 4 Wt Tryz.underlying123 _ B k _ rfl hown (by unfold maxLen;omega) _ _ _ rfl rfl hkey _ [] (plainElem_bool Tryz.underlying4 true) ?_;intro w10 hown1 hgrow1)
    have afy:Hid (TwR xs w10 B (k+1)):=aa (RB HX.out HT.out hown1 HA9.out zT.out);have aik:=hown.lt;have Ke:Hid (Below B w w10):=aa (aD.out.grown hgrow1 (by omega) (fun j hj=>by cases hj;exact Nat.le_refl _));clear hown hown1 hgrow1
    go_roundw
    case rel=>exact⟨k+1,by omega,by go_num,Uf,afy,Ke⟩
    case measure=>simp[intOf];omega
  ·
   obtain rfl:k=n:=by omega
   obtain rfl:r=false:=hr.out.2 (fun i j hi hj=>HNT.out i j (by rw[←hn.out];exact hi) hj);go_wp2;go_ret;exact⟨rfl,by rw[HBe.out];exact aD.out⟩
theorem Ba (A:Option Addr)(xs:List Int)(n c:Nat)(r:Bool)(hr:Hid (r=false↔mQ xs))(hn:Hid (xs.length=n))(hbig:n<1000000)(w:World)(hs:Hid (Sl w A xs)) :
  Calls Tryz.prog 52 #[.slice A n c] w (Rt w (.bool r)):=by
 go_in;go_wp2
 go_loopw [3] (fun i wr=>∃k:Nat,k≤n∧i = .int .i64 k∧Hid (TU xs k)∧Hid (Below w.heap.size w wr)) (fun i _=>n-(intOf i).toNat)
 case atStart=>exact⟨0,by omega,rfl,aa (fun i j h _=>absurd h (by omega)),aa (Below.refl _ _)⟩
 case round=>
  obtain⟨k,hk,rfl,HNT,aD⟩:=hrel
  by_cases hlt:k<n
  ·
   have hkl:k<xs.length:=by rw[hn.out];exact hlt
   go_wp2
   go_loopw [4] (fun i wz=>∃j:Nat,j≤k∧i = .int .i64 j∧Hid (∀m,m<j→xs.getD k 0≠xs.getD m 0)∧Hid (Below w.heap.size w wz)) (fun i _=>k-(intOf i).toNat)
   case atStart=>exact⟨0,by omega,rfl,aa (fun m h=>absurd h (by omega)),aD⟩
   case round=>
    obtain⟨j,hj,rfl,HNJ,sJ⟩:=hrel
    by_cases hlj:j<k
    ·
     have hjl:j<xs.length:=by omega
     have XW:=aa (hs.out.below sJ.out);obtain⟨b,o,hA,hi0⟩:=XW.out k hkl;obtain⟨b2,o2,hA2,hi1⟩:=XW.out j hjl;subst hA
     cases hA2
     obtain⟨x,hx⟩:∃x,xs.getD k 0=x:=⟨_,rfl⟩;obtain⟨y,hy⟩:∃x,xs.getD j 0=x:=⟨_,rfl⟩;rw[hx]at hi0;rw[hy]at hi1
     cases hxy:(x == y)with
     | true=>
      obtain rfl:r=true:=by
       cases hrr:r with
       | true=>rfl
       | false=>exact absurd (hx.trans ((eq_of_beq hxy).trans hy.symm)) ((hr.out.1 hrr) k j hkl hlj)
      clear hx hy hjl hkl;go_wp2
      go_quiet (fail)
      have HB2:=aa (aI sJ.out nq);go_wp2;go_ret;exact⟨rfl,HB2.out⟩
     | false=>
      have QK:Hid (∀m,m<j+1→xs.getD k 0≠xs.getD m 0):=aa (fun m hm=>by
       by_cases e:m=j
       ·
        subst e;rw[hx,hy]
        simpa using hxy
       · exact HNJ.out m (by omega))
      clear hx hy hjl hkl;go_wp2
      go_quiet (fail)
      have HB2:=aa (aI sJ.out nq);go_wp2
      go_roundw
      case rel=>exact⟨j+1,by omega,by go_num,QK,HB2⟩
      case measure=>simp[intOf];omega
    ·
     obtain rfl:j=k:=by omega
     have Uf:Hid (TU xs (j+1)):=aa (fun i m hi hm=>by
      by_cases e:i=j
      · subst e;exact HNJ.out m hm
      · exact HNT.out i m (by omega) hm)
     go_wp2
     go_roundw
     case rel=>exact⟨j+1,by omega,by go_num,Uf,sJ⟩
     case measure=>simp[intOf];omega
  ·
   obtain rfl:k=n:=by omega
   obtain rfl:r=false:=hr.out.2 (fun i j hi hj=>HNT.out i j (by rw[←hn.out];exact hi) hj);go_wp2;go_ret;exact⟨rfl,aD.out⟩
def sP (n:Nat)(i:Int):Bool:=decide (1≤i)&&decide (i≤n)
theorem Bt {n:Nat} {i:Int} (h:sP n i=true):∃m:Nat,m<n∧i=(m:Int)+1:=by
 unfold sP at h
 simp only[Bool.and_eq_true,decide_eq_true_eq]at h
 exact⟨(i-1).toNat,by omega,by omega⟩
theorem pg (need:Int)(Cs:Option Addr)(cn cc:Nat)(Ks:Option Addr)(kn kc:Nat)(i:Int)(r:Bool)(hr:Hid (sP kn i=r))(w:World) :
  Calls Tryz.prog 37 #[jY need Cs cn cc Ks kn kc, .int .i64 i] w (Rt w (.bool r)):=by
 have HX:=af w (uV need Cs cn cc Ks kn kc);have hc:(w.alloc (uV need Cs cn cc Ks kn kc)).cell? ⟨w.heap.size,0,none⟩=some (.int .i64 need)∧(w.alloc (uV need Cs cn cc Ks kn kc)).cell? ⟨w.heap.size,1,none⟩=some (.slice Cs cn cc)∧(w.alloc (uV need Cs cn cc Ks kn kc)).cell? ⟨w.heap.size,2,none⟩=some (.slice Ks kn kc):=⟨au (heap_alloc_new _ _) 0,au (heap_alloc_new _ _) 1,au (heap_alloc_new _ _) 2⟩;obtain⟨c0,c1,c2⟩:=hc;have hr1:=hr.out;unfold sP at hr1
 by_cases h0:(1:Int)≤i
 ·
  have d0:decide ((1:Int)≤i)=true:=by simp;omega
  by_cases h1:i≤(kn:Int)
  ·
   have d1:decide (i≤(kn:Int))=true:=by simp;omega
   obtain rfl:r=true:=by rw[←hr1];simp;omega
   go_in;go_wp2;go_ret;exact⟨rfl,HX⟩
  ·
   have d1:decide (i≤(kn:Int))=false:=by simp;omega
   obtain rfl:r=false:=by rw[←hr1];simp;omega
   go_in;go_wp2;go_ret;exact⟨rfl,HX⟩
 ·
  have d0:decide ((1:Int)≤i)=false:=by simp;omega
  obtain rfl:r=false:=by rw[←hr1];simp;omega
  go_in;go_wp2;go_ret;exact⟨rfl,HX⟩
theorem lD (need:Int)(Cs:Option Addr)(cn cc:Nat)(Ks:Option Addr)(kn kc:Nat)(i:Int)(r:Bool)(hr:Hid (sP kn i=r))(w:World) :
  Calls Tryz.prog 50 #[jY need Cs cn cc Ks kn kc, .int .i64 i] w (Rt w (.bool r)):=by
 have HX:=af w (uV need Cs cn cc Ks kn kc);have hc:(w.alloc (uV need Cs cn cc Ks kn kc)).cell? ⟨w.heap.size,0,none⟩=some (.int .i64 need)∧(w.alloc (uV need Cs cn cc Ks kn kc)).cell? ⟨w.heap.size,1,none⟩=some (.slice Cs cn cc)∧(w.alloc (uV need Cs cn cc Ks kn kc)).cell? ⟨w.heap.size,2,none⟩=some (.slice Ks kn kc):=⟨au (heap_alloc_new _ _) 0,au (heap_alloc_new _ _) 1,au (heap_alloc_new _ _) 2⟩;obtain⟨c0,c1,c2⟩:=hc;have hr1:=hr.out;unfold sP at hr1
 by_cases h0:(1:Int)≤i
 ·
  have d0:decide ((1:Int)≤i)=true:=by simp;omega
  by_cases h1:i≤(kn:Int)
  ·
   have d1:decide (i≤(kn:Int))=true:=by simp;omega
   obtain rfl:r=true:=by rw[←hr1];simp;omega
   go_in;go_wp2;go_ret;exact⟨rfl,HX⟩
  ·
   have d1:decide (i≤(kn:Int))=false:=by simp;omega
   obtain rfl:r=false:=by rw[←hr1];simp;omega
   go_in;go_wp2;go_ret;exact⟨rfl,HX⟩
 ·
  have d0:decide ((1:Int)≤i)=false:=by simp;omega
  obtain rfl:r=false:=by rw[←hr1];simp;omega
  go_in;go_wp2;go_ret;exact⟨rfl,HX⟩
end Go.Proofs.YtchcllcbknfikaaGreatDoor
namespace Go.Proofs.YtchcllcbknfikaaGreatDoor
open Go.RowKit sH
def pz (N:Nat)(l:List Int):List Int:=l++dL (N-l.length)
theorem I8 {N:Nat} {l:List Int} (h:l.length≤N):(pz N l).length=N:=by simp[pz,dL];omega
theorem V7 {N:Nat} {l:List Int} {x:Int} (h:l.length<N):(pz N l).set l.length x=pz N (l ++ [x]):=by
 obtain⟨m,hm⟩:∃m,N-l.length=m+1:=⟨N-l.length-1,by omega⟩;have hm2:N-(l ++ [x]).length=m:=by rw[List.length_append,List.length_singleton];omega
 rw[pz,pz,hm,hm2,dL,List.replicate_succ,List.set_append_right _ _ (Nat.le_refl _),Nat.sub_self,List.set_cons_zero]
 simp[dL]
theorem Ea {N:Nat} {l:List Int} (h:l.length=N):pz N l=l:=by simp[pz,dL,h]
theorem D_ {N k:Nat} {l:List Int} (h:k<l.length)(h2:k<N):(pz N (l.take k)).set k (l.getD k 0)=pz N (l.take (k+1)):=by
 have e:=V7 (N:=N) (l:=l.take k) (x:=l.getD k 0) (by rw[List.length_take];omega);rw[List.length_take,Nat.min_eq_left (by omega)]at e;rw[e,take_one h]
theorem Zu:(#[.int .u8 0, .int .u8 0, .int .u8 0, .int .u8 0, .int .u8 0, .int .u8 0, .int .u8 0, .int .u8 0]:Array Value)=arr .u8 (dL 8):=rfl
theorem Ld (n:Int):∀k:Nat,k<8→(sU n).getD k 0=n / 2 ^ (56-8*k)%256
 | 0,_=>rfl
 | 1,_=>rfl
 | 2,_=>rfl
 | 3,_=>rfl
 | 4,_=>rfl
 | 5,_=>rfl
 | 6,_=>rfl
 | 7,_=>by simp[sU]
 | k+8,h=>absurd h (by omega)
theorem MJ (n:Int)(w:World) :
  Calls Tryz.prog 220 #[.int .u64 n] w fun e w'=>e = .returned (.slice (some ⟨w.heap.size,0,none⟩) 8 8)∧bS .u8 5 w' w.heap.size (sU n)∧Below w.heap.size w w':=by
 obtain⟨W,hW⟩:∃W,w.alloc (.cells #[.int .u8 0, .int .u8 0, .int .u8 0, .int .u8 0, .int .u8 0, .int .u8 0, .int .u8 0, .int .u8 0] 5)=W:=⟨_,rfl⟩;have cu:Hid (Below w.heap.size w W):=aa (by rw[←hW];exact af _ _)
 have HB0:Hid (bS .u8 5 W w.heap.size (pz 8 ((sU n).take 0))):=aa (by
  rw[←hW,Zu]
  exact bS.new _ _)
 have hmk:∀w,(Instr.makeSlice 114 (.int .i64 8) (.int .i64 8)).run Tryz.prog w = .ok (.slice (some ⟨w.heap.size,0,none⟩) 8 8) (w.alloc (.cells #[.int .u8 0, .int .u8 0, .int .u8 0, .int .u8 0, .int .u8 0, .int .u8 0, .int .u8 0, .int .u8 0] 5)):=fun _=>by kernel_rfl
 have HW:=aa hW;clear hW;go_in;go_wp2;rw[HW.out];clear HW hmk
 go_loopw [8] (fun i u=>∃k:Nat,k≤8∧i = .int .i64 k∧Hid (bS .u8 5 u w.heap.size (pz 8 ((sU n).take k)))∧Hid (Below w.heap.size w u)) (fun i _=>8-(intOf i).toNat)
 case atStart=>exact⟨0,by omega,rfl,HB0,cu⟩
 case round=>
  obtain⟨k,hk,rfl,HB,aD⟩:=hrel
  by_cases hlt:k<8
  ·
   have hc:=HB.out.cell (j:=k) (by rw[I8 (by rw[List.length_take,g_];omega)];exact hlt);have hf:=HB.out.free k;have hst:=D_ (N:=8) (k:=k) (l:=sU n) hlt hlt;rw[Ld n k hlt]at hst;obtain⟨q,hq⟩:∃q,n / 2 ^ (56-8*k)=q:=⟨_,rfl⟩;rw[hq]at hst;have j0:(0:Int)≤56-8*k:=by omega
   have j1:(56-8*(k:Int)).toNat=56-8*k:=by omega
   have HB2:Hid (bS .u8 5 (wr.setCell ⟨w.heap.size,k,none⟩ (.int .u8 (q%256))) w.heap.size (pz 8 ((sU n).take (k+1)))):=aa (by
    rw[←hst]
    exact HB.out.set)
   have EU:Hid (Below w.heap.size w (wr.setCell ⟨w.heap.size,k,none⟩ (.int .u8 (q%256)))):=aa (aD.out.setCell (Nat.le_refl _) _);clear hst HB aD;go_wp2
   try go_region
   try (rw[hq])
   go_wp2
   go_roundw
   case rel=>exact⟨k+1,by omega,by go_num,HB2,EU⟩
   case measure=>simp[intOf];omega
  ·
   have M4:Hid (bS .u8 5 wr w.heap.size (sU n)):=aa (by
    have h:=HB.out
    rwa [show k=(sU n).length by rw[g_];omega,List.take_length,Ea (g_ n)]at h)
   clear HB;go_wp2;go_ret;exact⟨rfl,M4.out,aD.out⟩
theorem EO (b o i:Nat):(⟨b,o,none⟩:Addr).add i=⟨b,o+i,none⟩:=by unfold Addr.add;split <;> simp_all
theorem Sk.news {K:IntKind} {w:World} {b o:Nat} {l:List Int} (h:Sk K w (some ⟨b,o,none⟩) l):∀j u,(l.map (Value.int K))[j]? = some u→w.cell? ((⟨b,o,none⟩:Addr).add j)=some u:=fun j u hj=>by
 rw[List.getElem?_map]at hj
 by_cases hl:j<l.length
 ·
  rw[List.getElem?_eq_getElem hl]at hj;rw[EO,h.cell hl,List.getD_eq_getElem?_getD,List.getElem?_eq_getElem hl];exact hj
 · rw[List.getElem?_eq_none (by omega)]at hj;cases hj
theorem Sk.at_add {K:IntKind} {w:World} {b o n:Nat} {l:List Int} (h:Sk K w (some ⟨b,o,none⟩) l)(hn:l.length=n):∀i,i<n→w.cell? ((⟨b,o,none⟩:Addr).add i)=some (.int K (l.getD i 0)):=fun i hi=>by
 rw[EO];exact h.cell (by omega)
theorem Sk.setRow_ne {K:IntKind} {w:World} {a:Nat} {A:Option Addr} {l:List Int} {cs:Array Value} (h:Sk K w A l)(hne:∀b o,A=some ⟨b,o,none⟩→b≠a):Sk K (w.setRow a cs) A l:=fun j hj=>by
 obtain⟨b,o,e,hc⟩:=h j hj;exact⟨b,o,e,by rw[cell_setRow_other _ _ _ _ (hne b o e)];exact hc⟩
theorem eB:(Tryz.prog.info? 5).map (fun i=>(i.zero,i.size,i.bytes))=some (some (.int .u8 0),1,1):=by kernel_rfl
theorem UK:(Tryz.prog.info? 41).map (·.size)=some 32:=by kernel_rfl
theorem aH {l:List Int} (h:l.length=32):(Tryz.prog.info? 41).map (·.size)=some (arr .u8 l).size:=UK.trans (congrArg some (by rw[dW,h]))
theorem fu {l m:List Int} (h:l.length=32)(h2:m.length=32):(arr .u8 l).size=(arr .u8 m).size:=by rw[dW,dW,h,h2]
theorem jR:(z32:Array Value)=arr .u8 (dL 32):=rfl
theorem Kz (s:St):∀k:Nat,k<8→∀m:Nat,m<4→(o_ s).getD (4*k+m) 0=s.list.getD k 0 / 2 ^ (24-8*m)%256:=by
 intro k hk m hm;obtain⟨a,b,c,d,e,f,g,h⟩:=s;rcases (show k=0∨k=1∨k=2∨k=3∨k=4∨k=5∨k=6∨k=7 by omega)with rfl | rfl | rfl | rfl | rfl | rfl | rfl | rfl <;>
 rcases (show m=0∨m=1∨m=2∨m=3 by omega)with rfl | rfl | rfl | rfl <;>
 simp[o_,Bq,St.list]
theorem o8 (s:St):(o_ s).length=32:=rfl
def lenOf:Value→Nat
 | .slice _ n _=>n
 | _=>0
theorem F6 (m:Nat):List.replicate (m+1) (0:Int)=List.replicate m 0 ++ [0]:=List.replicate_succ' ..
theorem Su (xa xb xc xd xe xf xg xh:Int)(b o cap:Nat)(blk:List Int)(hlen:Hid (blk.length=64))(hby:Hid (aF blk=true))(w:World)(hs:Hid (Sk .u8 w (some ⟨b,o,none⟩) blk))(hcap:64≤cap)(hcm:cap≤9223372036854775807)(hv:Hid (bB w)) :
  Calls Tryz.prog 221 #[.agg #[.int .u32 xa, .int .u32 xb, .int .u32 xc, .int .u32 xd, .int .u32 xe, .int .u32 xf, .int .u32 xg, .int .u32 xh], .slice (some ⟨b,o,none⟩) 64 cap] w (Rt w (.agg (arr .u32 (Gn ⟨xa,xb,xc,xd,xe,xf,xg,xh⟩ blk).list))):=by
 rw[TP];exact Sv ⟨xa,xb,xc,xd,xe,xf,xg,xh⟩ b o cap blk hlen hby w hs hcap hcm hv
theorem Km (b o c:Nat)(l:List Int)(n:Nat)(hn:Hid (l.length=n))(hbig:n≤1000000)(hby:Hid (aF l=true))(w:World)(hs:Hid (Sk .u8 w (some ⟨b,o,none⟩) l))(hv:Hid (bB w)) :
  Calls Tryz.prog 198 #[.slice (some ⟨b,o,none⟩) n c] w (Rt w (.agg (arr .u8 (rA l)))):=by
 obtain⟨i0,hi,hz0,hz1,hz2⟩:=info_parts eB;obtain⟨W,hW⟩:∃W,w.alloc (.cells z32 41)=W:=⟨_,rfl⟩;have cu:Hid (Below w.heap.size w W):=aa (by rw[←hW];exact af _ _)
 have fH:Hid (bS .u8 41 W w.heap.size (dL 32)):=aa (by
  rw[←hW,jR]
  exact bS.new _ _)
 have l8:Hid (W.heap.size=w.heap.size+1):=aa (by rw[←hW];simp);have HS:=aa (hs.out.below cu.out);have HV:=aa (hv.out.below cu.out);have HW:=aa hW;clear hW hs hv;go_in
 go_wp2_with fail
 rw[HW.out];refine(Tryz.bytes_Clone_at ⟨b,o,none⟩ n c l _ hn.out (by omega) (HS.out.at_add hn.out)).mono ?_;rintro e w1 ⟨v1,rfl,ho1,hne1,hb1⟩;have BZ:Hid (aV .u8 5 w1 W.heap.size v1 l):=aa (by unfold aV;rw[hn.out];exact ho1);have HB1:=hb1;have M0:=aa hb1;have hbs:=hb1.size;clear HW hne1 HB1 hb1;have hown:=BZ.out.row hn.out;clear ho1
 go_wp2_with (at_builtin;refine wpList_append_own _ rfl _ _ 114 rfl W.heap.size 5 i0 (.int .u8 0) 1 1 Tryz.underlying114 hi hz0 hz1 hz2 rfl (by decide) _ _ _ rfl (hown.alloc _) ⟨w1.heap.size,0,none⟩ 1 1 [.int .u8 128] rfl rfl (cell_one_new _ _ _) (ints_oneCell .u8 [128]) (by unfold maxLen;omega) (by omega) (by simp;omega) ?_;intro v2 w2 hown2 hgrow2 _)
 have tu:Hid (aV .u8 5 w2 W.heap.size v2 (l ++ [128])):=aa (aV.app hn.out.symm rfl hown2);have YP:Hid (Below W.heap.size W w2):=aa (BZ.out.below M0.out hbs hgrow2);clear hown hown2 hgrow2 BZ hbs M0;obtain⟨A2,c2,e2,_⟩:=tu.out.sk;rw[List.length_append,hn.out,List.length_singleton]at e2;subst e2
 go_loopw [3] (fun p u=>∃(N:Nat) (A:Option Addr) (cap:Nat),n+1≤N∧N≤n+1+nK n∧p = .slice A N cap∧Hid (aV .u8 5 u W.heap.size p (l ++ [128]++List.replicate (N-n-1) 0))∧Hid (Below W.heap.size W u)) (fun p _=>n+65-lenOf p)
 case atStart=>exact⟨n+1,A2,c2,Nat.le_refl _,by omega,rfl,aa (by rw[show n+1-n-1=0 by omega];simpa using tu.out),YP⟩
 case round=>
  obtain⟨N,A,cap,hN0,hN1,rfl,HO,aD⟩:=hrel;have hpz:nK n<64:=by unfold nK;omega
  have hll:(l ++ [128]++List.replicate (N-n-1) 0).length=N:=by simp[hn.out];omega
  by_cases hend:N%64=56
  ·
   have HN:Hid (N=n+1+nK n):=aa (by unfold nK at hN1 hpz ⊢;omega);have t1:((N:Int)%64 == 56)=true:=by simp;omega
   have t2:((N:Int)%64 != 56)=false:=by simp;omega
   clear hend
   go_wp2_with fail
   refine(MJ _ _).mono ?_;rintro e w3 ⟨rfl,hbl,hb3⟩;have om:=aa (HO.out.keep hb3);have sj:=aa (aD.out.trans (hb3.mono aD.out.size));have Rk:=aa hbl;have hbs:=sj.out.size;have hown:=om.out.row hll;have Uj:=aa hll;clear hbl hb3 HO aD hll
   go_upto_region 5 with(at_builtin;refine wpList_append_own _ rfl _ _ 114 rfl W.heap.size 5 i0 (.int .u8 0) 1 1 Tryz.underlying114 hi hz0 hz1 hz2 rfl (by decide) _ _ _ rfl hown ⟨wr.heap.size,0,none⟩ 8 8 ((sU (8*(n:Int))).map (.int .u8)) rfl rfl (Rk.out.sk.news) (ints_oneCell .u8 (sU (8*(n:Int)))) (by unfold maxLen nK at *;omega) (by unfold nK at *;omega) (by omega) ?_;intro v4 w4 hown2 hgrow2 _)
   have Aq:Hid (aV .u8 5 w4 W.heap.size v4 (pR l)):=aa (by
    have h:=aV.app (ys:=sU (8*(n:Int))) Uj.out.symm rfl hown2
    have e:l ++ [128]++List.replicate (N-n-1) 0++sU (8*(n:Int))=pR l:=by
     rw[pR,hn.out,show N-n-1=nK n by have:=HN.out;omega]
    rwa [e]at h)
   have Ka:Hid (Below W.heap.size W w4):=aa (om.out.below0 sj.out hbs hgrow2);clear hown hown2 hgrow2 om Rk sj hbs;obtain⟨M,hM⟩:∃M,(pR l).length=64*M:=⟨(pR l).length / 64,by have:=Gg l;omega⟩;have hM1:1≤M:=by rw[tQ]at hM;omega
   have hM2:64*M≤n+200:=by rw[tQ,hn.out,nK]at hM;omega
   obtain⟨g4,cap4,e4,hg4,hcap,GN,t_⟩:=Aq.out.cells (by omega);rw[hM]at e4 hcap;obtain⟨P,hP⟩:∃P,pR l=P:=⟨_,rfl⟩;have hPb:aF P=true:=by rw[←hP];exact Bn hby.out
   rw[hP]at t_ hM Aq;have HP:Kp (pR l=P):=⟨hP⟩;have HM:=aa hM;have HPB:=aa hPb;have IB:=aa t_;have hcm:cap4≤9223372036854775807:=by simpa [maxLen]using GN
   have aiv:g4<w4.heap.size:=t_.lt (by omega);subst e4;clear hP hM hPb t_ GN Aq Uj t1 t2;have wu:=aa (HV.out.below Ka.out)
   obtain⟨s0,s1,s2,s3,s4,s5,s6,s7⟩:w4.cell? ⟨4,0,none⟩=some (.int .u32 1779033703)∧w4.cell? ⟨4,1,none⟩=some (.int .u32 3144134277)∧w4.cell? ⟨4,2,none⟩=some (.int .u32 1013904242)∧w4.cell? ⟨4,3,none⟩=some (.int .u32 2773480762)∧w4.cell? ⟨4,4,none⟩=some (.int .u32 1359893119)∧w4.cell? ⟨4,5,none⟩=some (.int .u32 2600822924)∧w4.cell? ⟨4,6,none⟩=some (.int .u32 528734635)∧w4.cell? ⟨4,7,none⟩=some (.int .u32 1541459225):=
    ⟨wu.out.2 0 (by decide),wu.out.2 1 (by decide),wu.out.2 2 (by decide),wu.out.2 3 (by decide),wu.out.2 4 (by decide),wu.out.2 5 (by decide),wu.out.2 6 (by decide),wu.out.2 7 (by decide)⟩
   go_wp2_with ((with_reducible show wpList _ _ _ (⟨none,_,_,_,_,_⟩::_) _ _);refine wpList_store_row rfl 229 _ _ rfl w4.heap.size (arr .u32 st0.list) rfl rfl _ _ (heap_alloc_new _ _) (mG st0) rfl (dG _) ?_)
   clear s0 s1 s2 s3 s4 s5 s6 s7;rw[World.setRow_alloc_new]
   simp only[Act.put]
   have ack:Hid (Below W.heap.size W (w4.alloc (.cells (arr .u32 st0.list) 229))):=aa (Ka.out.alloc Ka.out.size _);have abH:Hid (bS .u32 229 (w4.alloc (.cells (arr .u32 st0.list) 229)) w4.heap.size (mW P 0).list):=aa (bS.new _ _)
   have abJ:Hid (Sk .u8 (w4.alloc (.cells (arr .u32 st0.list) 229)) (some ⟨g4,0,none⟩) (P.drop (64*0))):=aa (by
    rw[Nat.mul_zero,List.drop_zero]
    exact IB.out.below (af _ _))
   have ad6:=Ka.out.size;obtain⟨W5,Px⟩:∃u,w4.alloc (.cells (arr .u32 st0.list) 229)=u:=⟨_,rfl⟩;rw[Px]at ack abH abJ ⊢;clear Px IB Ka wu
   go_loopw [3] (fun p u=>∃(k R off cp:Nat),k≤M∧Hid (64*k+R=64*M)∧p = .slice (some ⟨g4,off,none⟩) R cp∧R≤cp∧cp≤9223372036854775807∧Hid (Sk .u8 u (some ⟨g4,off,none⟩) (P.drop (64*k)))∧Hid (bS .u32 229 u w4.heap.size (mW P k).list)∧Hid (Below W.heap.size W u)) (fun p _=>lenOf p)
   case atStart=>exact⟨0,64*M,0,cap4,by omega,aa (by omega),rfl,hcap,hcm,abJ,abH,ack⟩
   case round=>
    obtain⟨k,R,off,cp,hk,HR,rfl,hRc,hcp,XZ,Lg,aD⟩:=hrel
    by_cases hR0:0<R
    ·
     have aiG:64≤R:=by have:=HR.out;omega
     have aiA:(64:Int)≤(cp:Int):=by omega
     have hkM:k<M:=by have:=HR.out;omega
     have Ux:Hid ((gZ P k).length=64):=aa (zw (by have:=HM.out;omega));have II:Hid (aF (gZ P k)=true):=aa (vG HPB.out k);obtain⟨⟨xa,xb,xc,xd,xe,xf,xg,xh⟩,hS⟩:∃T,mW P k=T:=⟨_,rfl⟩;rw[hS]at Lg;have Fp:Kp (mW P k=⟨xa,xb,xc,xd,xe,xf,xg,xh⟩):=⟨hS⟩;clear hS;have aby:Hid (Sk .u8 wr (some ⟨g4,off,none⟩) (gZ P k)):=aa (XZ.out.take);have HVr:=aa (HV.out.below aD.out);have HCS:Hid (wr.cell? ⟨w4.heap.size,0,none⟩=some (.int .u32 xa)∧wr.cell? ⟨w4.heap.size,1,none⟩=some (.int .u32 xb)∧wr.cell? ⟨w4.heap.size,2,none⟩=some (.int .u32 xc)∧wr.cell? ⟨w4.heap.size,3,none⟩=some (.int .u32 xd)∧wr.cell? ⟨w4.heap.size,4,none⟩=some (.int .u32 xe)∧wr.cell? ⟨w4.heap.size,5,none⟩=some (.int .u32 xf)∧wr.cell? ⟨w4.heap.size,6,none⟩=some (.int .u32 xg)∧wr.cell? ⟨w4.heap.size,7,none⟩=some (.int .u32 xh)):=aa ⟨Lg.out.cell (j:=0) (show 0<8 by decide),Lg.out.cell (j:=1) (show 1<8 by decide),Lg.out.cell (j:=2) (show 2<8 by decide),Lg.out.cell (j:=3) (show 3<8 by decide),Lg.out.cell (j:=4) (show 4<8 by decide),Lg.out.cell (j:=5) (show 5<8 by decide),Lg.out.cell (j:=6) (show 6<8 by decide),Lg.out.cell (j:=7) (show 7<8 by decide)⟩;obtain⟨T,hT⟩:∃T,Gn ⟨xa,xb,xc,xd,xe,xf,xg,xh⟩ (gZ P k)=T:=⟨_,rfl⟩;have HT:Kp (Gn ⟨xa,xb,xc,xd,xe,xf,xg,xh⟩ (gZ P k)=T):=⟨hT⟩;have Vb:Kp (mW P (k+1)=T):=⟨by rw[mW,Fp.out,hT]⟩;clear hT
     go_wp2_with fail
     refine bV (S:=fun w'=>w'.cell? ⟨w4.heap.size,0,none⟩=some (.int .u32 xa)∧w'.cell? ⟨w4.heap.size,1,none⟩=some (.int .u32 xb)∧w'.cell? ⟨w4.heap.size,2,none⟩=some (.int .u32 xc)∧w'.cell? ⟨w4.heap.size,3,none⟩=some (.int .u32 xd)∧w'.cell? ⟨w4.heap.size,4,none⟩=some (.int .u32 xe)∧w'.cell? ⟨w4.heap.size,5,none⟩=some (.int .u32 xf)∧w'.cell? ⟨w4.heap.size,6,none⟩=some (.int .u32 xg)∧w'.cell? ⟨w4.heap.size,7,none⟩=some (.int .u32 xh)) (E:= [3,4]) (by kernel_rfl) (by simpa using HCS.out) (fun hHeld=>?_);refine b_ 0 ?_;refine b_ 1 ?_;refine b_ 2 ?_;refine oz 3 fun K hK=>?_;go_simp;refine(Su xa xb xc xd xe xf xg xh g4 off cp (gZ P k) Ux II _ (aa (aby.out.below (Below.refl _ _).drew)) (by omega) hcp (aa (HVr.out.below (Below.refl _ _).drew))).mono ?_;rintro e w6 ⟨rfl,hb6⟩;rw[HT.out];refine hK.out _ _ ?_;clear hK K
     try simp only[qq]
     refine oz 4 fun K hK=>?_;refine wp_store_row 229 _ _ rfl w4.heap.size (arr .u32 T.list) rfl rfl 229 _ ((Lg.out.below (Below.refl _ _).drew).below hb6) (mG T) rfl (dG _) ?_;refine hK.out _ _ ?_;clear hK K
     try simp only[qq]
     refine gM ?_
     have XY:Hid (bS .u32 229 (w6.setRow w4.heap.size (arr .u32 T.list)) w4.heap.size (mW P (k+1)).list):=aa (by
      rw[Vb.out]
      exact((Lg.out.below (Below.refl _ _).drew).below hb6).setRow)
     have EU:Hid (Below W.heap.size W (w6.setRow w4.heap.size (arr .u32 T.list))):=aa (aj (aD.out.drew.trans (hb6.mono aD.out.size)) ad6);have abx:Hid (Sk .u8 (w6.setRow w4.heap.size (arr .u32 T.list)) (some ⟨g4,off,none⟩) (P.drop (64*k))):=aa (((XZ.out.below (Below.refl _ _).drew).below hb6).setRow_ne (fun b o e=>by cases e;omega));obtain⟨w7,hw7⟩:∃u,w6.setRow w4.heap.size (arr .u32 T.list)=u:=⟨_,rfl⟩;rw[hw7]at XY EU abx ⊢;clear hw7 hb6 XZ aby Lg aD HVr HCS HT Vb Fp hHeld;have aiQ:(64:Int)≤(R:Int):=by omega
     by_cases hce:cp=64
     ·
      subst hce;obtain rfl:R=64:=by omega
      have Ug:Hid (Sk .u8 w7 (some ⟨g4,off,none⟩) (P.drop (64*(k+1)))):=aa (Sk.nil_of (by rw[List.length_drop,HM.out];have:=HR.out;omega));have HR2:Hid (64*(k+1)+0=64*M):=aa (by have:=HR.out;omega);go_wp2
      go_roundw
      case rel=>exact⟨k+1,0,off,0,by omega,HR2,rfl,by omega,by omega,Ug,XY,EU⟩
      case measure=>simp[lenOf]
     ·
      have Ug:Hid (Sk .u8 w7 (some ⟨g4,off+64,none⟩) (P.drop (64*(k+1)))):=aa (by
       have h:=abx.out.drop (n:=64)
       rwa [List.drop_drop,show 64*k+64=64*(k+1) by omega]at h)
      have HR2:Hid (64*(k+1)+(R-64)=64*M):=aa (by have:=HR.out;omega);go_wp2
      go_roundw
      case rel=>exact⟨k+1,R-64,off+64,cp-64,by omega,HR2,rfl,by omega,by omega,Ug,XY,EU⟩
      case measure=>simp[lenOf];omega
    ·
     obtain rfl:R=0:=by omega
     obtain⟨⟨xa,xb,xc,xd,xe,xf,xg,xh⟩,hS⟩:∃T,mW P M=T:=⟨_,rfl⟩
     have Yd:Kp (rA l=o_ ⟨xa,xb,xc,xd,xe,xf,xg,xh⟩):=⟨by
      rw[rA,HP.out,HM.out,show 64*M / 64=M by omega,hS]⟩
     have aeV:Hid (bS .u32 229 wr w4.heap.size (St.mk xa xb xc xd xe xf xg xh).list):=aa (by
      rw[←hS,show M=k by have:=HR.out;omega]
      exact Lg.out)
     have XP:Hid (bS .u8 41 (wr.alloc (.cells z32 41)) wr.heap.size (pz 32 ((o_ ⟨xa,xb,xc,xd,xe,xf,xg,xh⟩).take (4*0)))):=aa (by
      rw[jR]
      exact bS.new _ _)
     have sK:Hid (Below W.heap.size W (wr.alloc (.cells z32 41))):=aa (aD.out.alloc aD.out.size _);clear hS Lg XZ HR
     go_upto_region 11 with((with_reducible show wpList _ _ _ (⟨some 37,_,_,_,_,_⟩::_) _ _);refine wpList_load_row rfl 229 _ rfl w4.heap.size rfl _ _ _ _ (aeV.out.old _) Tryz.underlying229 rfl (mG _) ?_)
     rw[←TP];have hbr:=aD.out.size;obtain⟨WN,UR⟩:∃u,wr.alloc (.cells z32 41)=u:=⟨_,rfl⟩;rw[UR]at XP sK ⊢;obtain⟨B5,UY⟩:∃x,wr.heap.size=x:=⟨_,rfl⟩;have Nf:Hid (B5<WN.heap.size):=aa (by rw[←UR,←UY];simp);rw[UY]at XP hbr ⊢;clear UR UY
     go_loopw [38] (fun i u=>∃k:Nat,k≤8∧i = .int .i64 k∧Hid (bS .u8 41 u B5 (pz 32 ((o_ ⟨xa,xb,xc,xd,xe,xf,xg,xh⟩).take (4*k))))∧Hid (Below B5 WN u)) (fun i _=>8-(intOf i).toNat)
     case atStart=>exact⟨0,by omega,rfl,XP,aa (Below.refl _ _)⟩
     case round=>
      obtain⟨k4,hk4,rfl,CP,oJ⟩:=hrel
      by_cases hlk:k4<8
      ·
       have hi8:=aao xa xb xc xd xe xf xg xh k4 hlk;obtain⟨v0,e1⟩:∃x,(St.mk xa xb xc xd xe xf xg xh).list.getD k4 0=x:=⟨_,rfl⟩;rw[e1]at hi8;have E1:=aa e1;clear e1;go_wp2
       go_loopw [42] (fun j u=>∃m:Nat,m≤4∧j = .int .i64 m∧Hid (bS .u8 41 u B5 (pz 32 ((o_ ⟨xa,xb,xc,xd,xe,xf,xg,xh⟩).take (4*k4+m))))∧Hid (Below B5 WN u)) (fun j _=>4-(intOf j).toNat)
       case atStart=>exact⟨0,by omega,rfl,CP,oJ⟩
       case round=>
        obtain⟨m,hm,rfl,wL,Ur⟩:=hrel
        by_cases hlm:m<4
        ·
         have hol:(o_ ⟨xa,xb,xc,xd,xe,xf,xg,xh⟩).length=32:=o8 _;have hc:=wL.out.cell (j:=4*k4+m) (by rw[I8 (by rw[List.length_take,hol];omega)];omega);have hf:=wL.out.free (4*k4+m);have hst:=D_ (N:=32) (k:=4*k4+m) (l:=o_ ⟨xa,xb,xc,xd,xe,xf,xg,xh⟩) (by rw[hol];omega) (by omega);rw[Kz _ k4 hlk m hlm,E1.out]at hst;obtain⟨q,hq⟩:∃q,v0 / 2 ^ (24-8*m)=q:=⟨_,rfl⟩;rw[hq]at hst;have HC:=hc;have j0:(0:Int)≤24-8*m:=by omega
         have j1:(24-8*(m:Int)).toNat=24-8*m:=by omega
         have j2:(4*(k4:Int)+m).toNat=4*k4+m:=by omega
         obtain⟨WV,Ff⟩:∃u,wr.setCell ⟨B5,4*k4+m,none⟩ (.int .u8 (q%256))=u:=⟨_,rfl⟩
         have HB2:Hid (bS .u8 41 WV B5 (pz 32 ((o_ ⟨xa,xb,xc,xd,xe,xf,xg,xh⟩).take (4*k4+(m+1))))):=aa (by
          rw[←Ff,show 4*k4+(m+1)=4*k4+m+1 by omega,←hst]
          exact wL.out.set)
         have YQ:Hid (Below B5 WN WV):=aa (by rw[←Ff];exact Ur.out.setCell (Nat.le_refl _) _);clear hst wL Ur hol HC;go_wp2
         try go_region
         try (rw[hq])
         try (rw[Ff])
         go_wp2
         go_roundw
         case rel=>exact⟨m+1,by omega,by go_num,HB2,YQ⟩
         case measure=>simp[intOf];omega
        ·
         have HB2:Hid (bS .u8 41 wr B5 (pz 32 ((o_ ⟨xa,xb,xc,xd,xe,xf,xg,xh⟩).take (4*(k4+1))))):=aa (by
          have h:=wL.out
          rwa [show 4*k4+m=4*(k4+1) by omega]at h)
         clear wL;go_wp2
         go_roundw
         case rel=>exact⟨k4+1,by omega,by go_num,HB2,Ur⟩
         case measure=>simp[intOf];omega
      ·
       have M4:Hid (bS .u8 41 wr B5 (rA l)):=aa (by
        have h:=CP.out
        rwa [show 4*k4=(o_ ⟨xa,xb,xc,xd,xe,xf,xg,xh⟩).length by rw[o8];omega,List.take_length,Ea (o8 _),←Yd.out]at h)
       have u_:=aa (sK.out.trans (oJ.out.mono hbr));have Ve:Hid (bS .u8 41 wr w.heap.size (dL 32)):=aa (fH.out.keepB (by have:=l8.out;omega) u_.out);have gU:Hid (Below w.heap.size w (wr.setRow w.heap.size (arr .u8 (rA l)))):=aa (aj (ag cu.out u_.out) (Nat.le_refl _));have HRR:Hid (bS .u8 41 (wr.setRow w.heap.size (arr .u8 (rA l))) w.heap.size (rA l)):=aa Ve.out.setRow;clear CP oJ
       go_wp2_with (first
        | ((with_reducible show wpList _ _ _ (⟨some 58,_,_,_,_,_⟩::_) _ _);refine wpList_load_row rfl 41 _ rfl B5 rfl _ _ _ _ M4.out Tryz.underlying41 rfl (aH (iJ l)) ?_)
        | ((with_reducible show wpList _ _ _ (⟨none,_,_,_,_,_⟩::_) _ _);refine wpList_store_row rfl 41 _ _ rfl w.heap.size (arr .u8 (rA l)) rfl rfl _ _ Ve.out (aH (iJ l)) (fu rfl (iJ l)) (dG _) ?_))
       exact bodyPost_ret (v:= .agg (arr .u8 (rA l))) (results_cell_row (p:=2) (ty:=41) rfl _ _ w.heap.size _ _ _ _ rfl HRR.out Tryz.underlying41 rfl (aH (iJ l))) rfl ⟨rfl,gU.out⟩
  ·
   have hN:N<n+1+nK n:=by unfold nK at hN1 hpz ⊢;omega
   have t1:((N:Int)%64 == 56)=false:=by simp;omega
   have t2:((N:Int)%64 != 56)=true:=by simp;omega
   have hown:=HO.out.row hll;have hbs:=aD.out.size;have Uj:=aa hll;clear hend hll
   go_wp2_with (at_builtin;refine wpList_append_own _ rfl _ _ 114 rfl W.heap.size 5 i0 (.int .u8 0) 1 1 Tryz.underlying114 hi hz0 hz1 hz2 rfl (by decide) _ _ _ rfl (hown.alloc _) ⟨wr.heap.size,0,none⟩ 1 1 [.int .u8 0] rfl rfl (cell_one_new _ _ _) (ints_oneCell .u8 [0]) (by unfold maxLen;omega) (by omega) (by simp;omega) ?_;intro v2 w2 hown2 hgrow2 _)
   have om:Hid (aV .u8 5 w2 W.heap.size v2 (l ++ [128]++List.replicate (N+1-n-1) 0)):=aa (by
    rw[show N+1-n-1=(N-n-1)+1 by omega,F6,←List.append_assoc]
    exact aV.app Uj.out.symm rfl hown2)
   have sj:Hid (Below W.heap.size W w2):=aa (HO.out.below aD.out hbs hgrow2);clear hown hown2 hgrow2 HO;obtain⟨A3,c3,e3,_⟩:=om.out.sk;have e4:(l ++ [128]++List.replicate (N+1-n-1) 0).length=N+1:=by simp[hn.out];omega
   rw[e4]at e3;subst e3;clear e4;go_wp2
   go_roundw
   case rel=>exact⟨N+1,A3,c3,by omega,by omega,rfl,om,sj⟩
   case measure=>simp[lenOf];omega
def bq (s:ByteArray):List Int:=s.data.toList.map fun c=>(c.toNat:Int)
theorem bP (s:ByteArray):(bq s).length=s.size:=by simp[bq]
theorem jN (s:ByteArray):aF (bq s)=true:=by
 refine List.all_eq_true.2 fun x hx=>?_;obtain⟨c,_,rfl⟩:=List.mem_map.1 hx;have:=c.toNat_lt
 simp;omega
theorem nN {w:World} {g cap:Nat} {s:ByteArray} {e:TypeId} {fr:Nat × Nat} (h:w.heap[g]? = some (.cells (bytesRow s cap) e fr)):Sk .u8 w (some ⟨g,0,none⟩) (bq s):=fun j hj=>⟨g,0,rfl,by
 rw[bP]at hj;rw[Nat.zero_add,cell_of_row _ _ j _ _ _ h,bytesRow_at s cap j (by simpa using hj)]
 simp[bq,List.getD_eq_getElem?_getD]
 rw[Array.getElem?_eq_getElem (by simpa using hj)]
 rfl⟩
theorem aV.skAt {K:IntKind} {T:TypeId} {w:World} {B g n c:Nat} {xs:List Int} (h:aV K T w B (.slice (some ⟨g,0,none⟩) n c) xs)(h0:0<xs.length):Sk K w (some ⟨g,0,none⟩) xs:=by
 obtain⟨g',cap',e,_,_,_,hs⟩:=h.cells h0
 simp only[Value.slice.injEq,Option.some.injEq,Addr.mk.injEq]at e
 rw[e.1.1];exact hs
theorem dH {P:Program} {fn:Func} {p q:Tmp} {ty:TypeId} (h:fn.results = #[.cell p ty, .tmp q])(tmps:Array Value)(w:World)(a:Addr)(v u:Value)
  (hp:tmps.getD p undef = .pointer (some a)) (hq:tmps.getD q undef=u) (hl:(loadVar ty a).run P w = .ok v w):(results fn tmps).run P w = .ok (.tuple #[v,u]) w:=by
 have hp':tmps[p]?.getD undef = .pointer (some a):=by simpa using hp
 have hq':tmps[q]?.getD undef=u:=by simpa using hq
 simp[results,h,hp',hq',asAddr,hl]
def nO (h:List Int):Value:= .tuple #[.agg (arr .u8 h), .int .i64 0]
theorem rz (s:ByteArray)(hs1:1≤s.size)(hs2:s.size≤100)(b o c:Nat)(l:List Int)(n:Nat)(hn:Hid (l.length=n))(hn0:0<n)(hbig:n≤900000)(hby:Hid (aF l=true))(w:World)(hs:Hid (Sk .u8 w (some ⟨b,o,none⟩) l))(hv:Hid (bB w)) :
  Calls Tryz.prog 178 #[.string s, .slice (some ⟨b,o,none⟩) n c] w (Rt w (nO (tagged (bq s) l))):=by
 obtain⟨i0,hi,hz0,hz1,hz2⟩:=info_parts eB;obtain⟨W,hW⟩:∃W,w.alloc (.cells z32 41)=W:=⟨_,rfl⟩;have cu:Hid (Below w.heap.size w W):=aa (by rw[←hW];exact af _ _)
 have fH:Hid (bS .u8 41 W w.heap.size (dL 32)):=aa (by
  rw[←hW,jR]
  exact bS.new _ _)
 have l8:Hid (W.heap.size=w.heap.size+1):=aa (by rw[←hW];simp);have HS:=aa (hs.out.below cu.out);have HV:=aa (hv.out.below cu.out);have HW:=aa hW;have hcv:=fun w=>run_bytes_of_string (P:=Tryz.prog) w 9 114 5 s Tryz.underlying9 Tryz.underlying114 Tryz.underlying5;clear hW hs hv;go_in
 go_wp2_with fail
 rw[HW.out];clear hcv HW;obtain⟨Wc,hWc⟩:∃u,(W.alloc (.cells (bytesRow s (grownCap W s.size 0 5)) 5 ((bytesRow s (grownCap W s.size 0 5)).size,(bytesRow s (grownCap W s.size 0 5)).size+1))).drew=u:=⟨_,rfl⟩;have uC:Hid (Below W.heap.size W Wc):=aa (by rw[←hWc];exact(af _ _).drew)
 have HSc:Hid (Sk .u8 Wc (some ⟨w.heap.size+1,0,none⟩) (bq s)):=aa (by
  rw[←hWc,←l8.out]
  exact nN (heap_alloc_new W _))
 obtain⟨gc,hgc⟩:∃g,grownCap W s.size 0 5=g:=⟨_,rfl⟩;rw[hWc,hgc];clear hWc hgc;refine(Km (w.heap.size+1) 0 gc (bq s) s.size (aa (bP s)) (by omega) (aa (jN s)) _ HSc (aa (HV.out.below uC.out))).mono ?_;rintro e w1 ⟨rfl,hb1⟩;have HB1:=aa (ag uC.out hb1);clear hb1 HSc uC;obtain⟨t,ht⟩:∃t,rA (bq s)=t:=⟨_,rfl⟩;have htl:t.length=32:=by rw[←ht];exact iJ _
 have htb:aF t=true:=by rw[←ht];exact jJ _
 have HT:Kp (rA (bq s)=t):=⟨ht⟩;have Ao:=aa htl;have HTB:=aa htb;rw[ht];clear ht htl htb
 go_upto_region 4 with((with_reducible show wpList _ _ _ (⟨none,_,_,_,_,_⟩::_) _ _);refine wpList_store_row rfl 41 _ _ rfl w1.heap.size (arr .u8 t) rfl rfl _ _ (heap_alloc_new _ _) (aH Ao.out) (fu (l:=dL 32) rfl Ao.out) (dG _) ?_)
 rw[World.setRow_alloc_new]
 simp only[Act.put]
 have HB2:=aa (ag HB1.out (af w1 (.cells (arr .u8 t) 41)));have HT2:Hid (bS .u8 41 (w1.alloc (.cells (arr .u8 t) 41)) w1.heap.size t):=aa (bS.new _ _);obtain⟨W2,hW2⟩:∃u,w1.alloc (.cells (arr .u8 t) 41)=u:=⟨_,rfl⟩;have HSN:Hid (w1.heap.size<W2.heap.size):=aa (by rw[←hW2];simp);rw[hW2]at HB2 HT2 ⊢;clear hW2 HB1;obtain⟨gt,hgt⟩:∃g,w1.heap.size=g:=⟨_,rfl⟩;rw[hgt]at HT2 HSN ⊢;clear hgt;have qC:=aa ((Below.refl W2.heap.size W2).drew);have CL:=aa (HT2.out.below qC.out);have HB3:=aa (ag HB2.out qC.out);obtain⟨Wd,hWd⟩:∃u,W2.drew=u:=⟨_,rfl⟩;refine bV (S:=fun w'=>True) (E:= []) (by kernel_rfl) (trivial) (fun hHeld=>?_);refine b_ 0 ?_;refine b_ 2 ?_;refine b_ 4 ?_;refine dh 1 fun K hK=>?_;go_simp
 try rw[hWd]
 rw[hWd]at qC CL HB3;refine(Tryz.bytes_Clone_at ⟨gt,0,none⟩ 32 32 t _ Ao.out (by decide) (CL.out.sk.at_add Ao.out)).mono ?_;rintro e w3 ⟨v3,rfl,ho3,aih,hb3⟩;refine hK.out _ _ ?_ (fun hHeld=>?_)
 · trivial
 clear hK K
 try simp only[qq]
 refine dh 3 fun K hK=>?_;have Ud:=aa (HS.out.below (ag HB3.out hb3));have HT3:=aa (CL.out.below hb3);have hbz:=hb3.size;refine step_append_lies _ (by rfl) _ _ _ (by rfl) (Wd.heap.size) 5 i0 _ 1 1 Tryz.underlying114 hi hz0 hz1 hz2 rfl (by omega) v3 32 (t.map (.int .u8)) (by rfl) (ho3) ⟨gt,0,none⟩ 32 32 (t.map (.int .u8)) (by rfl) (by simp[Ao.out,hn.out]) (HT3.out.sk.news) (ints_oneCell .u8 _) (by omega) (by unfold maxLen;omega) (by omega) (by omega) (w3.heap.size) (rfl) ?_;intro g4 cap4 w4 vD rO aaJ adV;have l5:=aa (Below.grown hb3 rO (by omega) (fun j hj=>(World.ownsRow.lt ho3 j hj).1));refine hK.out _ _ ?_ (fun hHeld=>?_)
 · trivial
 clear hK K
 try simp only[qq]
 refine dh 5 fun K hK=>?_;have Ap:=aa ((HS.out.below HB3.out).below l5.out);have ad4:=l5.out.size;refine step_append_lies _ (by rfl) _ _ _ (by rfl) (Wd.heap.size) 5 i0 _ 1 1 Tryz.underlying114 hi hz0 hz1 hz2 rfl (by omega) (.slice (some ⟨g4,0,none⟩) (32+32) cap4) (32+32) (t.map (.int .u8)++t.map (.int .u8)) (by rfl) (vD) ⟨b,o,none⟩ n c (l.map (.int .u8)) (by rfl) (by simp[Ao.out,hn.out]) (Ap.out.news) (ints_oneCell .u8 _) (by omega) (by unfold maxLen;omega) (by omega) (by omega) (w4.heap.size) (rfl) ?_;intro g5 cap5 w5 hown5 rM Xb WR;have l9:=aa (Below.grown l5.out rM (by omega) (fun j hj=>(World.ownsRow.lt vD j hj).1));have yY:Hid (aV .u8 5 w5 Wd.heap.size (.slice (some ⟨g5,0,none⟩) (32+32+n) cap5) (t++t++l)):=aa (aV.app (by rw[List.length_append,Ao.out]) hn.out.symm (by rw[List.map_append];exact hown5));refine hK.out _ _ ?_ (fun hHeld=>?_)
 · trivial
 clear hK K
 try simp only[qq]
 refine dh 6 fun K hK=>?_;go_simp;have Eu:=yY.out.skAt (by simp[hn.out];omega);refine(Km g5 0 cap5 (t++t++l) (32+32+n) (aa (by simp[hn.out,Ao.out];omega)) (by omega) (aa (by rw[dS,dS,HTB.out,hby.out];rfl)) _ (aa Eu) (aa ((HV.out.below HB3.out).below l9.out))).mono ?_;rintro e w6 ⟨rfl,hb6⟩;have oM:=aa (l9.out.trans (hb6.mono l9.out.size));refine hK.out _ _ ?_ (fun hHeld=>?_)
 · trivial
 clear hK K
 try simp only[qq]
 refine dh 7 fun K hK=>?_;rw[show(if Region.wanted _ _=true then _ else _:Prop)=_ from if_pos rfl];refine wp_store_row 41 _ _ rfl w.heap.size (arr .u8 (rA (t++t++l))) rfl rfl 41 _ (((fH.out.below HB3.out)).below oM.out) (aH (iJ _)) (fu rfl (iJ _)) (dG _) ?_;refine hK.out _ _ ?_ (fun hHeld=>?_)
 · trivial
 clear hK K
 try simp only[qq]
 refine b_ 8 ?_;refine gM ?_;have HRR:Hid (bS .u8 41 (w6.setRow w.heap.size (arr .u8 (rA (t++t++l)))) w.heap.size (rA (t++t++l))):=aa ((fH.out.below HB3.out).below oM.out).setRow;have gU:Hid (Below w.heap.size w (w6.setRow w.heap.size (arr .u8 (rA (t++t++l))))):=aa (aj (ag cu.out (ag HB3.out oM.out)) (Nat.le_refl _));have HTG:Kp (tagged (bq s) l=rA (t++t++l)):=⟨by rw[tagged,HT.out]⟩;obtain⟨R,hR⟩:∃R,rA (t++t++l)=R:=⟨_,rfl⟩;have hRl:R.length=32:=by rw[←hR];exact iJ _
 rw[hR]at HRR gU HTG ⊢;obtain⟨w8,hw8⟩:∃u,w6.setRow w.heap.size (arr .u8 R)=u:=⟨_,rfl⟩;rw[hw8]at HRR gU ⊢;have Yu:Kp ((loadVar 41 ⟨w.heap.size,0,none⟩).run Tryz.prog w8 = .ok (.agg (arr .u8 R)) w8):=⟨run_loadVar_row _ _ _ _ _ _ _ HRR.out Tryz.underlying41 rfl (aH hRl)⟩;clear hR hRl hw8;go_wp2;exact bodyPost_ret (v:=nO R) (dH (p:=4) (q:=5) (ty:=41) rfl _ _ ⟨w.heap.size,0,none⟩ _ _ rfl rfl Yu.out) rfl ⟨by rw[HTG.out],gU.out⟩
theorem o7 {K:IntKind} {T:TypeId} (w:World):aV K T (w.alloc (.cells #[] T)) w.heap.size (.slice (some ⟨w.heap.size,0,none⟩) 0 0) []:=
 ⟨rfl,Or.inr ⟨w.heap.size,0,#[],rfl,Nat.le_refl _,heap_alloc_new _ _,Nat.le_refl _,by decide,rfl,rfl⟩⟩
theorem I5 (n:Int)(w:World):Calls Tryz.prog 234 #[.int .i64 n] w (BU .u8 5 (sU n) w):=by
 obtain⟨i0,hi,hz0,hz1,hz2⟩:=info_parts eB;go_in;go_wp2
 go_loopw [3,4] (fun v i u=>∃k:Nat,k≤8∧i = .int .i64 (7-(k:Int))∧Hid (aV .u8 5 u w.heap.size v ((sU n).take k))∧Hid (Below w.heap.size w u)) (fun _ i _=>(intOf i+1).toNat)
 case atStart=>exact⟨0,by omega,rfl,aa (tT _ _),aa (Below.refl _ _)⟩
 case round=>
  obtain⟨k,hk,rfl,HO,aD⟩:=hrel
  by_cases hlt:k<8
  ·
   obtain⟨q,hq⟩:∃q,n / 2 ^ (56-8*k)=q:=⟨_,rfl⟩;have zO:Hid ((sU n).take (k+1)=(sU n).take k ++ [q%256]):=aa (by rw[take_one (by rw[g_];exact hlt),Ld n k hlt,hq]);have tC:Hid (((sU n).take k).length=k):=aa (by rw[List.length_take,g_];omega);have j0:(0:Int)≤8*(7-(k:Int)):=by omega
   have j1:(8*(7-(k:Int))).toNat=56-8*k:=by omega
   have hown:=HO.out.row tC.out;have hbs:=aD.out.size;have d1:(0:Int)≤7-(k:Int):=by omega
   go_wp2_with (at_builtin;refine wpList_append_own _ rfl _ _ 114 rfl w.heap.size 5 i0 (.int .u8 0) 1 1 Tryz.underlying114 hi hz0 hz1 hz2 rfl (by decide) _ _ _ rfl (hown.alloc _) ⟨wr.heap.size,0,none⟩ 1 1 [.int .u8 (q%256)] rfl rfl (cell_one_new _ _ _) (ints_oneCell .u8 [(q%256)]) (by unfold maxLen;omega) (by omega) (by simp;omega) ?_;intro v2 w2 hown2 hgrow2 _)
   have om:Hid (aV .u8 5 w2 w.heap.size v2 ((sU n).take (k+1))):=aa (by
    rw[zO.out]
    exact aV.app tC.out.symm rfl hown2)
   have sj:Hid (Below w.heap.size w w2):=aa (HO.out.below aD.out hbs hgrow2);clear hown hown2 hgrow2 HO
   go_roundw
   case rel=>exact⟨k+1,by omega,by go_num,om,sj⟩
   case measure=>simp[intOf];omega
  ·
   have om:Hid (aV .u8 5 wr w.heap.size u3 (sU n)):=aa (by
    have h:=HO.out
    rwa [show k=(sU n).length by rw[g_];omega,List.take_length]at h)
   have d1:7-(k:Int)<0:=by omega
   clear HO;go_wp2;go_ret;exact⟨_,rfl,om.out,aD.out⟩
theorem F4 (b o c:Nat)(l:List Int)(n:Nat)(hn:Hid (l.length=n))(hn0:0<n)(hbig:n≤1000000)(w:World)(hs:Hid (Sk .u8 w (some ⟨b,o,none⟩) l)) :
  Calls Tryz.prog 212 #[.slice (some ⟨b,o,none⟩) n c] w (BU .u8 5 (pR l) w):=by
 obtain⟨i0,hi,hz0,hz1,hz2⟩:=info_parts eB;go_in;have jV:=aa (o7 (K:= .u8) (T:=5) w);have HBE:=aa (af w (.cells #[] 5));have Vd:=aa (hs.out.below HBE.out);clear hs;have hown:(w.alloc (.cells #[] 5)).ownsRow w.heap.size 5 1 (.slice (some ⟨w.heap.size,0,none⟩) 0 0) 0 []:=jV.out;have l8:Hid (w.heap.size<(w.alloc (.cells #[] 5)).heap.size):=aa (by simp)
 go_wp2_with (first
  | ((at_builtin;refine wpList_append_own _ rfl _ _ 114 rfl w.heap.size 5 i0 (.int .u8 0) 1 1 Tryz.underlying114 hi hz0 hz1 hz2 rfl (by decide) _ _ _ rfl hown ⟨b,o,none⟩ n c (l.map (.int .u8)) rfl (by simp[hn.out,g_]) (Vd.out.news) (ints_oneCell .u8 _) (by unfold maxLen;omega) (by omega) (by simp) ?_;intro v1 w1 hown1 hgrow1 _);have BZ:Hid (aV .u8 5 w1 w.heap.size v1 l):=aa (aV.app (xs:= []) (ys:=l) (m:=n) rfl hn.out.symm hown1);have M0:Hid (Below w.heap.size w w1):=aa (jV.out.below0 HBE.out (by simp) hgrow1);clear hown hown1 hgrow1 jV Vd;have hbs:=M0.out.size;have hown:=BZ.out.row hn.out)
  | (at_builtin;refine wpList_append_own _ rfl _ _ 114 rfl w.heap.size 5 i0 (.int .u8 0) 1 1 Tryz.underlying114 hi hz0 hz1 hz2 rfl (by decide) _ _ _ rfl (hown.alloc _) ⟨w1.heap.size,0,none⟩ 1 1 [.int .u8 128] rfl rfl (cell_one_new _ _ _) (ints_oneCell .u8 [128]) (by unfold maxLen;omega) (by omega) (by simp;omega) ?_;intro v2 w2 hown2 hgrow2 _))
 have tu:Hid (aV .u8 5 w2 w.heap.size v2 (l ++ [128])):=aa (aV.app hn.out.symm rfl hown2);have YP:Hid (Below w.heap.size w w2):=aa (BZ.out.below M0.out hbs hgrow2);clear hown hown2 hgrow2 BZ hbs M0;obtain⟨A2,c2,e2,_⟩:=tu.out.sk;rw[List.length_append,hn.out,List.length_singleton]at e2;subst e2
 go_loopw [3] (fun p u=>∃(N:Nat) (A:Option Addr) (cap:Nat),n+1≤N∧N≤n+1+nK n∧p = .slice A N cap∧Hid (aV .u8 5 u w.heap.size p (l ++ [128]++List.replicate (N-n-1) 0))∧Hid (Below w.heap.size w u)) (fun p _=>n+65-lenOf p)
 case atStart=>exact⟨n+1,A2,c2,Nat.le_refl _,by omega,rfl,aa (by rw[show n+1-n-1=0 by omega];simpa using tu.out),YP⟩
 case round=>
  obtain⟨N,A,cap,hN0,hN1,rfl,HO,aD⟩:=hrel;have hpz:nK n<64:=by unfold nK;omega
  have hll:(l ++ [128]++List.replicate (N-n-1) 0).length=N:=by simp[hn.out];omega
  by_cases hend:N%64=56
  ·
   have HN:Hid (N=n+1+nK n):=aa (by unfold nK at hN1 hpz ⊢;omega);have t1:((N:Int)%64 == 56)=true:=by simp;omega
   have t2:((N:Int)%64 != 56)=false:=by simp;omega
   clear hend
   go_wp2_with fail
   refine(I5 _ _).mono ?_;rintro e w3 ⟨vb,rfl,oG,hb3⟩;obtain⟨gb,aeD,rfl,hgb,hcb,aiy,aau⟩:=aV.cells oG (show 0<8 by decide);have om:=aa (HO.out.keep hb3);have sj:=aa (aD.out.trans (hb3.mono aD.out.size));have Rk:=aa aau;have hbs:=sj.out.size;have hown:=om.out.row hll;have Uj:=aa hll;clear aau oG hb3 HO aD hll
   go_wp2_with (at_builtin;refine wpList_append_own _ rfl _ _ 114 rfl w.heap.size 5 i0 (.int .u8 0) 1 1 Tryz.underlying114 hi hz0 hz1 hz2 rfl (by decide) _ _ _ rfl hown ⟨gb,0,none⟩ 8 aeD ((sU (8*(n:Int))).map (.int .u8)) rfl (by simp[hn.out,g_]) (Rk.out.news) (ints_oneCell .u8 _) (by unfold maxLen nK at *;omega) (by unfold nK at *;omega) (by omega) ?_;intro v4 w4 hown2 hgrow2 _)
   have Aq:Hid (aV .u8 5 w4 w.heap.size v4 (pR l)):=aa (by
    have h:=aV.app (ys:=sU (8*(n:Int))) Uj.out.symm rfl hown2
    have e:l ++ [128]++List.replicate (N-n-1) 0++sU (8*(n:Int))=pR l:=by
     rw[pR,hn.out,show N-n-1=nK n by have:=HN.out;omega]
    rwa [e]at h)
   have Ka:Hid (Below w.heap.size w w4):=aa (om.out.below0 sj.out hbs hgrow2);clear hown hown2 hgrow2 om Rk sj hbs Uj HN t1 t2;go_wp2;go_ret;exact⟨_,rfl,Aq.out,Ka.out⟩
  ·
   have hN:N<n+1+nK n:=by unfold nK at hN1 hpz ⊢;omega
   have t1:((N:Int)%64 == 56)=false:=by simp;omega
   have t2:((N:Int)%64 != 56)=true:=by simp;omega
   have hown:=HO.out.row hll;have hbs:=aD.out.size;have Uj:=aa hll;clear hend hll
   go_wp2_with (at_builtin;refine wpList_append_own _ rfl _ _ 114 rfl w.heap.size 5 i0 (.int .u8 0) 1 1 Tryz.underlying114 hi hz0 hz1 hz2 rfl (by decide) _ _ _ rfl (hown.alloc _) ⟨wr.heap.size,0,none⟩ 1 1 [.int .u8 0] rfl rfl (cell_one_new _ _ _) (ints_oneCell .u8 [0]) (by unfold maxLen;omega) (by omega) (by simp;omega) ?_;intro v2 w2 hown2 hgrow2 _)
   have om:Hid (aV .u8 5 w2 w.heap.size v2 (l ++ [128]++List.replicate (N+1-n-1) 0)):=aa (by
    rw[show N+1-n-1=(N-n-1)+1 by omega,F6,←List.append_assoc]
    exact aV.app Uj.out.symm rfl hown2)
   have sj:Hid (Below w.heap.size w w2):=aa (HO.out.below aD.out hbs hgrow2);clear hown hown2 hgrow2 HO;obtain⟨A3,c3,e3,_⟩:=om.out.sk;have e4:(l ++ [128]++List.replicate (N+1-n-1) 0).length=N+1:=by simp[hn.out];omega
   rw[e4]at e3;subst e3;clear e4;go_wp2
   go_roundw
   case rel=>exact⟨N+1,A3,c3,by omega,by omega,rfl,om,sj⟩
   case measure=>simp[lenOf];omega
theorem I1 (w:World) :
  Calls Tryz.prog 211 #[] w fun e w'=>e = .returned (.slice (some ⟨w.heap.size,0,none⟩) 64 64)∧w.alloc (.cells (arr .u32 KL) 209)=w':=by
 go_in;go_wp2;go_ret;exact⟨rfl,rfl⟩
inductive It where
 | int (n:Int)
 | byt (b:List Int)
 | lst (l:List It)
def fits:Nat→It→Prop
 | _, .int n=> -9223372036854775808≤n∧n<9223372036854775808
 | _, .byt b=>(0<b.length∧b.length<1000000)∧aF b=true
 | 0, .lst _=>False
 | d+1, .lst l=>l.length≤1000∧∀x∈l,fits d x
def wR (n:Int):List Int:= [n / 16777216%256,n / 65536%256,n / 256%256,n%256]
theorem eX (n:Int):(wR n).length=4:=rfl
mutual
def enc:It→List Int
 | .int n=>1::sU (n%18446744073709551616)
 | .byt b=>2::(wR b.length++b)
 | .lst l=>3::(wR l.length++gz l)
def gz:List It→List Int
 | []=> []
 | i::l=>enc i++gz l
end
theorem xU (a b:List It):gz (a++b)=gz a++gz b:=by
 induction a with
 | nil=>simp[gz]
 | cons x a ih=>simp[gz,ih]
theorem G5 (x:It):gz [x]=enc x:=by simp[gz]
theorem og (n:Int):enc (.int n)=1::sU (n%18446744073709551616):=by simp[enc]
theorem jh (b:List Int):enc (.byt b)=2::(wR b.length++b):=by simp[enc]
theorem fV (l:List It):enc (.lst l)=3::(wR l.length++gz l):=by simp[enc]
theorem qd (i:It):0<(enc i).length:=by cases i <;> simp[enc]
instance agk:Inhabited It:=⟨.int 0⟩
theorem qP {l:List It} {k:Nat} (hk:k<l.length):gz (l.take (k+1))=gz (l.take k)++enc (l.getD k default):=by
 rw[List.take_add_one,List.getElem?_eq_getElem hk,List.getD_eq_getElem?_getD,List.getElem?_eq_getElem hk,xU]
 simp[gz]
theorem rR {l:List It} {k:Nat} :(gz (l.take k)).length≤(gz l).length:=by
 conv=>rhs;rw[←List.take_append_drop k l]
 rw[xU,List.length_append]
 omega
theorem qN {i:It} {d:Nat} (h:fits d i):∀ {e:Nat},d≤e→fits e i:=by
 induction d generalizing i with
 | zero=>
  intro e he
  cases i with
  | int n=>cases e <;> exact h
  | byt b=>cases e <;> exact h
  | lst l=>exact absurd h (by simp[fits])
 | succ d ih=>
  intro e he
  cases i with
  | int n=>cases e <;> exact h
  | byt b=>cases e <;> exact h
  | lst l=>
   cases e with
   | zero=>omega
   | succ e=>exact⟨h.1,fun x hx=>ih (h.2 x hx) (by omega)⟩
theorem yS (n:Int):aF (wR n)=true:=by simp[aF,wR,Br]
theorem mI {d:Nat} {i:It} (h:fits d i):aF (enc i)=true:=by
 induction d generalizing i with
 | zero=>
  cases i with
  | int n=>rw[og,show(1::sU (n%18446744073709551616):List Int) = [1]++sU (n%18446744073709551616)from rfl,dS,yR];rfl
  | byt b=>rw[jh,show(2::(wR b.length++b):List Int) = [2]++(wR b.length++b)from rfl,dS,dS,yS,h.2];rfl
  | lst l=>exact absurd h (by simp[fits])
 | succ d ih=>
  cases i with
  | int n=>rw[og,show(1::sU (n%18446744073709551616):List Int) = [1]++sU (n%18446744073709551616)from rfl,dS,yR];rfl
  | byt b=>rw[jh,show(2::(wR b.length++b):List Int) = [2]++(wR b.length++b)from rfl,dS,dS,yS,h.2];rfl
  | lst l=>
   rw[fV,show(3::(wR l.length++gz l):List Int) = [3]++(wR l.length++gz l)from rfl,dS,dS,yS]
   have hl:∀(m:List It),(∀x∈m,fits d x)→aF (gz m)=true:=by
    intro m hm
    induction m with
    | nil=>rfl
    | cons x m ihm=>rw[gz,dS,ih (hm x (by simp)),ihm (fun y hy=>hm y (by simp[hy]))];rfl
   rw[hl l h.2];rfl
structure Ic where
 (kind n:Int)
 (B:Option Addr)
 (nb cb:Nat)
 (L:Option Addr)
 (nl cl:Nat)
def Ic.cs (c:Ic):Array Value:=#[.int .i64 c.kind, .int .i64 c.n, .slice c.B c.nb c.cb, .slice c.L c.nl c.cl]
def Ic.val (c:Ic):Value:= .agg c.cs
def Four (w:World)(b o:Nat)(c:Ic):Prop:=w.cell? ⟨b,o,none⟩=some (.int .i64 c.kind)∧w.cell? ⟨b,o+1,none⟩=some (.int .i64 c.n)∧w.cell? ⟨b,o+2,none⟩=some (.slice c.B c.nb c.cb)∧w.cell? ⟨b,o+3,none⟩=some (.slice c.L c.nl c.cl)
theorem Four.below {w w':World} {b o:Nat} {c:Ic} (h:Four w b o c)(hb:Below w.heap.size w w'):Four w' b o c:=
 ⟨cell_below h.1 hb,cell_below h.2.1 hb,cell_below h.2.2.1 hb,cell_below h.2.2.2 hb⟩
inductive pV (w:World):It→Ic→Prop
 | int (n:Int) (c:Ic) (h1:c.kind=1) (h2:c.n=n) (h3:c.nb=0) (h4:c.nl=0):pV w (.int n) c
 | byt (b:List Int) (c:Ic) (h1:c.kind=2) (h2:c.n=0) (h3:c.nb=b.length) (h4:c.nl=0) (h5:Sk .u8 w c.B b):pV w (.byt b) c
 | lst (l:List It) (c:Ic) (h1:c.kind=3) (h2:c.n=0) (h3:c.nb=0) (h4:c.nl=l.length) (f:Nat→Ic)
   (h5:∀k,k<l.length→∃b o,c.L=some ⟨b,o,none⟩∧Four w b (o+k*4) (f k)) (h6:∀k,k<l.length→pV w (l.getD k default) (f k)):pV w (.lst l) c
theorem pV.kept {w w':World} {i:It} {c:Ic} (h:pV w i c)(hb:Below w.heap.size w w'):pV w' i c:=by
 induction h with
 | int n c h1 h2 h3 h4=>exact .int n c h1 h2 h3 h4
 | byt b c h1 h2 h3 h4 h5=>exact .byt b c h1 h2 h3 h4 (h5.below hb)
 | lst l c h1 h2 h3 h4 f h5 h6 ih=>
  refine .lst l c h1 h2 h3 h4 f (fun k hk=>?_) ih;obtain⟨b,o,e,h⟩:=h5 k hk;exact⟨b,o,e,h.below hb⟩
end Go.Proofs.YtchcllcbknfikaaGreatDoor