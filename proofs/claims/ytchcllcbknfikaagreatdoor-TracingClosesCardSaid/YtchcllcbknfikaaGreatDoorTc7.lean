/- Contracts and lemmas: EqA, EqB, EqC, EqE, Base, Msg, EscA, TruF, OpT, OpD, Lat, TlA, TlC, TlD. -/
import Derived.Deep.Heap
import Derived.Test.YtchcllcbknfikaaGreatDoorTc6
set_option linter.unusedVariables false
set_option linter.unusedSimpArgs false
set_option maxRecDepth 100000
set_option maxHeartbeats 25600000
namespace Go.Proofs.YtchcllcbknfikaaGreatDoor
open Go.RowKit sH
theorem GZ (P Q G:Int)(b:Nat)(n c:Nat)(hv0:Hid (a_ P Q G=false))(hQ:Q<9223372036854775808)(w:World)(hv:Hid (Vars w)) :
  Calls Tryz.prog 200 #[gv P Q G, .slice (some ⟨b,0,none⟩) n c] w (Rt w (.int .i64 1)):=by
 have HB0:=aa (bD w P Q G);have qW:=aa (hv.out.below (af w (bg P Q G)));go_in
 go_wp2_with fail
 refine(dQ P Q G false hv0 hQ _ qW).mono ?_;rintro e w1 ⟨rfl,hb0⟩;have hb1:=ag (af _ _) hb0;clear hb0;go_wp2;go_ret;exact⟨rfl,hb1⟩
theorem EF (P Q G:Int)(b:Nat)(xs:List Int)(c:Nat)(hlen:xs.length<1000)(r:Int)(hr:Hid ((if xs.all (aN P Q)=true then 0 else 2)=r))(hv0:Hid (a_ P Q G=true))(hQ:Q<9223372036854775808)(w:World)(hv:Hid (Vars w))(hc:Hid (Cells w b xs)) :
  Calls Tryz.prog 200 #[gv P Q G, .slice (some ⟨b,0,none⟩) xs.length c] w (Rt w (.int .i64 r)):=by
 obtain⟨hp2,hp,hq3,Dl⟩:=bW hv0.out;have HB0:=aa (bD w P Q G);have qW:=aa (hv.out.below (af w (bg P Q G)));have wI:=aa (hc.out.below (af w (bg P Q G)));obtain⟨n,hn⟩:∃n,xs.length=n:=⟨_,rfl⟩;rw[hn]at hlen ⊢;have HN:=aa hn;clear hn;go_in
 go_wp2_with fail
 refine(dQ P Q G true hv0 hQ _ qW).mono ?_;rintro e w1 ⟨rfl,hb0⟩;have HB1:=aa (ag (af _ _) hb0);have acr:=aa hb0;have QW:=aa (HB0.out.below hb0);have qX:=aa (wI.out.below hb0);clear hb0;go_wp2
 go_loopw [12] (fun i wr=>∃k:Nat,k≤n∧i = .int .i64 k∧Hid (xs.all (aN P Q)=(xs.drop k).all (aN P Q))∧Hid (Below w1.heap.size w1 wr)) (fun i _=>n-(intOf i).toNat)
 case atStart=>exact⟨0,by omega,rfl,aa rfl,aa (Below.refl _ _)⟩
 case round=>
  obtain⟨k,hk,rfl,HR,aD⟩:=hrel
  by_cases hlt:k<n
  ·
   have hkl:k<xs.length:=by rw[HN.out];exact hlt
   have hi:=qX.out.below aD.out k hkl;obtain⟨c0,c1,c2⟩:=QW.out.below aD.out
   cases hm:aN P Q (xs.getD k 0)with
   | true=>
    have HS:Hid (xs.all (aN P Q)=(xs.drop (k+1)).all (aN P Q)):=aa (HR.out.trans (mP hkl hm));obtain⟨x,hx⟩:∃x,xs.getD k 0=x:=⟨_,rfl⟩;rw[hx]at hi hm;have HM:=aa hm;clear hx hm HR hkl
    go_wp2_with fail
    refine(eT P Q G x true (aa (by rw[xX,hv0.out,HM.out];rfl)) hQ _ (aa (qW.out.below (ag acr.out aD.out)))).mono ?_;rintro e w2 ⟨rfl,hb0⟩;have HB2:=aa (ag aD.out hb0);clear hb0;go_wp2
    go_roundw
    case rel=>exact⟨k+1,by omega,by go_num,HS,HB2⟩
    case measure=>simp[intOf];omega
   | false=>
    obtain rfl:r=2:=by rw[←hr.out,HR.out,oh hkl hm];rfl
    obtain⟨x,hx⟩:∃x,xs.getD k 0=x:=⟨_,rfl⟩;rw[hx]at hi hm;have HM:=aa hm;clear hx hm HR hkl
    go_wp2_with fail
    refine(eT P Q G x false (aa (by rw[xX,hv0.out,HM.out];rfl)) hQ _ (aa (qW.out.below (ag acr.out aD.out)))).mono ?_;rintro e w2 ⟨rfl,hb0⟩;have HB2:=aa (ag (ag HB1.out aD.out) hb0);clear hb0;go_wp2;go_ret;exact⟨rfl,HB2.out⟩
  ·
   obtain rfl:k=n:=by omega
   obtain rfl:r=0:=by rw[←hr.out,HR.out,←HN.out];simp
   have HB2:=aa (ag HB1.out aD.out);clear HR;go_wp2;go_ret;exact⟨rfl,HB2.out⟩
theorem zm (P Q G:Int)(b:Nat)(xs:List Int)(n c:Nat)(hn:Hid (xs.length=n))(hlen:n<1000)(r:Int)(hr:Hid (lZ P Q G xs=r))(hQ:Q<9223372036854775808)(w:World)(hv:Hid (Vars w))(hc:Hid (Cells w b xs)) :
  Calls Tryz.prog 200 #[gv P Q G, .slice (some ⟨b,0,none⟩) n c] w (Rt w (.int .i64 r)):=by
 cases hval:a_ P Q G with
 | false=>
  obtain rfl:r=1:=by rw[←hr.out,lZ,hval];rfl
  exact GZ P Q G b n c hval hQ w hv
 | true=>
  rw[←hn.out];refine EF P Q G b xs c (by rw[hn.out];exact hlen) r ?_ hval hQ w hv hc;rw[←hr.out,lZ,if_pos hval];exact rfl
def qw (A1 B1:Option Addr)(a b:Int):List Row:= [⟨A1,1,1, [a]⟩,⟨B1,1,1, [b]⟩]
def Vn (a ya b yb:Int)(w:World)(e:Ending)(w':World):Prop:=∃Y B A1 B1,e = .returned (iY Y 2 2 B 2 2)∧Sl w' Y [ya,yb]∧Rw w' B (qw A1 B1 a b)∧Below w.heap.size w w'
theorem five (w:World)(o1 o2 o3 o4 o5:Obj):let W:=((((w.alloc o1).alloc o2).alloc o3).alloc o4).alloc o5
  W.heap[w.heap.size]? = some o1∧W.heap[w.heap.size+1]? = some o2∧W.heap[w.heap.size+1+1]? = some o3∧W.heap[w.heap.size+1+1+1]? = some o4∧W.heap[w.heap.size+1+1+1+1]? = some o5∧Below w.heap.size w W:=by
 have e1:(w.alloc o1).heap.size=w.heap.size+1:=by simp
 have e2:((w.alloc o1).alloc o2).heap.size=w.heap.size+1+1:=by simp
 have e3:(((w.alloc o1).alloc o2).alloc o3).heap.size=w.heap.size+1+1+1:=by simp
 have e4:((((w.alloc o1).alloc o2).alloc o3).alloc o4).heap.size=w.heap.size+1+1+1+1:=by simp
 have b1:=af (w.alloc o1) o2;have b2:=ag b1 (af _ o3);have b3:=ag b2 (af _ o4);have b4:=ag b3 (af _ o5);have c2:=ag (ag (af ((w.alloc o1).alloc o2) o3) (af _ o4)) (af _ o5);have c3:=ag (af (((w.alloc o1).alloc o2).alloc o3) o4) (af _ o5);have c4:=af ((((w.alloc o1).alloc o2).alloc o3).alloc o4) o5;refine⟨(b4.block _ (by omega)).trans (heap_alloc_new _ _),(c2.block _ (by omega)).trans ?_,(c3.block _ (by omega)).trans ?_,(c4.block _ (by omega)).trans ?_, ?_,ag (af w o1) b4⟩
 · rw[←e1];exact heap_alloc_new _ _
 · rw[←e2];exact heap_alloc_new _ _
 · rw[←e3];exact heap_alloc_new _ _
 · rw[←e4];exact heap_alloc_new _ _
theorem ql {w:World} {g:Nat} {cs:Array Value} {T:TypeId} {xs:List Int} (h:w.heap[g]? = some (.cells cs T))(hc:∀k,k<xs.length→cs[k]? = some (.int .i64 (xs.getD k 0))):Sl w (some ⟨g,0,none⟩) xs:=
 fun k hk=>⟨g,0,rfl,by rw[Nat.zero_add,au h];exact hc k hk⟩
theorem IY {w:World} {g:Nat} {T:TypeId} {A1 B1:Option Addr} {a b:Int} (h:w.heap[g]? = some (.cells #[.slice A1 1 1, .slice B1 1 1] T))(ha:Sl w A1 [a])(hb:Sl w B1 [b]):Rw w (some ⟨g,0,none⟩) (qw A1 B1 a b):=fun k hk=>by
 match k,hk with
 | 0,_=>exact⟨⟨g,0,rfl,by rw[au h];rfl⟩,rfl,ha⟩
 | 1,_=>exact⟨⟨g,0,rfl,by rw[au h];rfl⟩,rfl,hb⟩
theorem CF (a ya b yb:Int)(w:World):Calls Tryz.prog 202 #[.int .i64 a, .int .i64 ya, .int .i64 b, .int .i64 yb] w (Vn a ya b yb w):=by
 go_in;go_wp2;obtain⟨h0,h1,h2,h3,h4,hb⟩:=five w (.cells #[.slice (some ⟨w.heap.size+1,0,none⟩) 2 2, .slice (some ⟨w.heap.size+1+1+1+1,0,none⟩) 2 2] 189) (.cells #[.int .i64 ya, .int .i64 yb] 3) (.cells #[.int .i64 a] 3) (.cells #[.int .i64 b] 3) (.cells #[.slice (some ⟨w.heap.size+1+1,0,none⟩) 1 1, .slice (some ⟨w.heap.size+1+1+1,0,none⟩) 1 1] 24)
 exact bodyPost_ret (v:=iY (some ⟨w.heap.size+1,0,none⟩) 2 2 (some ⟨w.heap.size+1+1+1+1,0,none⟩) 2 2) (aK (p:=8) (ty:=189) rfl _ _ ⟨w.heap.size,0,none⟩ _ rfl (run_loadVar_row _ _ _ _ _ _ _ h0 Tryz.underlying189 rfl (by kernel_rfl))) rfl
  ⟨_,_,some ⟨w.heap.size+1+1,0,none⟩,some ⟨w.heap.size+1+1+1,0,none⟩,rfl,ql h1 (fun k hk=>by match k,hk with | 0,_=>rfl | 1,_=>rfl),IY h4 (ql h2 (fun k hk=>by match k,hk with | 0,_=>rfl)) (ql h3 (fun k hk=>by match k,hk with | 0,_=>rfl)),hb⟩
theorem Be (a ya b yb:Int)(w:World):Calls Tryz.prog 174 #[.int .i64 a, .int .i64 ya, .int .i64 b, .int .i64 yb] w (Vn a ya b yb w):=by
 go_in;go_wp2;obtain⟨h0,h1,h2,h3,h4,hb⟩:=five w (.cells #[.slice (some ⟨w.heap.size+1,0,none⟩) 2 2, .slice (some ⟨w.heap.size+1+1+1+1,0,none⟩) 2 2] 189) (.cells #[.int .i64 ya, .int .i64 yb] 3) (.cells #[.int .i64 a] 3) (.cells #[.int .i64 b] 3) (.cells #[.slice (some ⟨w.heap.size+1+1,0,none⟩) 1 1, .slice (some ⟨w.heap.size+1+1+1,0,none⟩) 1 1] 24)
 exact bodyPost_ret (v:=iY (some ⟨w.heap.size+1,0,none⟩) 2 2 (some ⟨w.heap.size+1+1+1+1,0,none⟩) 2 2) (aK (p:=8) (ty:=189) rfl _ _ ⟨w.heap.size,0,none⟩ _ rfl (run_loadVar_row _ _ _ _ _ _ _ h0 Tryz.underlying189 rfl (by kernel_rfl))) rfl
  ⟨_,_,some ⟨w.heap.size+1+1,0,none⟩,some ⟨w.heap.size+1+1+1,0,none⟩,rfl,ql h1 (fun k hk=>by match k,hk with | 0,_=>rfl | 1,_=>rfl),IY h4 (ql h2 (fun k hk=>by match k,hk with | 0,_=>rfl)) (ql h3 (fun k hk=>by match k,hk with | 0,_=>rfl)),hb⟩
theorem Qf (w:World)(T:TypeId)(a b c d:Int):Cells (w.alloc (.cells #[.int .i64 a, .int .i64 b, .int .i64 c, .int .i64 d] T)) w.heap.size [a,b,c,d]:=by
 intro k hk;rw[World.cell?_alloc_at _ _ _ _ rfl]
 match k,hk with
 | 0,_=>rfl
 | 1,_=>rfl
 | 2,_=>rfl
 | 3,_=>rfl
def Dq (P Q G a ya b yb C:Int)(lb al zs:List Int):Bool:=lZ P Q G [a,ya,b,yb] == 0&&yA P Q G C lb [ya,yb] (qw none none a b) al zs
theorem CV {P Q G a b C:Int} {lb ys al zs:List Int} (A1 B1:Option Addr):yA P Q G C lb ys (qw A1 B1 a b) al zs=yA P Q G C lb ys (qw none none a b) al zs:=rfl
theorem Xr (P Q G a ya b yb:Int)(A:Option Addr)(al:List Int)(na ca:Nat)(C:Int)(Z:Option Addr)(zs:List Int)(nz cz:Nat)(gy:Hid (al.length=na))(hzn:Hid (zs.length=nz))(hna:na<1000000)(hnz:nz<1000000)(hQ:Q<9223372036854775808)(s:ByteArray)(r:Int)(HCK:Hid (lZ P Q G [a,ya,b,yb]=r))(hne:(r == 0)=false)(w:World)(hv:Hid (Vars w))(hd:Hid (bB w))(hA:Hid (Sl w A al))(hZ:Hid (Sl w Z zs)) :
  Calls Tryz.prog 168 #[gv P Q G, .int .i64 a, .int .i64 ya, .int .i64 b, .int .i64 yb, .string s,jL A na ca C Z nz cz] w (Rt w (.bool false)):=by
 have e0:((r:Int) == 0)=false:=by simpa using hne
 obtain⟨w0,HW,ai,kC⟩:=st2 (bg P Q G) fq (fU A na ca C Z nz cz) rV w;have kV:=mkV ai hv;have kA:=mkS ai hA;have kZ:=mkS ai hZ;have kD:=oF ai hd;have ah:=bI w0;clear hv hd hA hZ;go_in
 go_wp2_with fail
 rw[HW.out];have hO:=kC;refine jq [] ah (fun hHeld=>?_);refine aP 0 1 2 3 ?_;refine aL 4 ?_;refine dh 5 fun K hK=>?_;go_simp;refine hK.out _ _ (bJ hHeld (af _ _)) (fun hHeld=>?_);clear hK K
 try simp only[qq]
 refine dh 6 fun K hK=>?_;go_simp;refine(zm P Q G w0.heap.size [a,ya,b,yb] 4 4 (aa rfl) (by omega) r HCK hQ _ (kV.out _ hHeld) (aa (Qf w0.drew _ a ya b yb))).mono ?_;rintro e wA ⟨rfl,bN⟩;refine hK.out _ _ (bJ hHeld bN) (fun hHeld=>?_);clear hK K
 try simp only[qq]
 refine aL 7 ?_;refine aL 8 ?_;refine eO 9 10 11 12 ?_;refine eO 13 14 15 16 ?_;refine lC 17 ?_;refine aL 18 ?_;refine aL 19 ?_;refine gM ?_;have gU:=hHeld;have bT:=ag ai.out gU.out;go_wp2;go_ret;exact⟨rfl,bT⟩
theorem Xq (P Q G a ya b yb:Int)(A:Option Addr)(al:List Int)(na ca:Nat)(C:Int)(Z:Option Addr)(zs:List Int)(nz cz:Nat)(gy:Hid (al.length=na))(hzn:Hid (zs.length=nz))(hna:na<1000000)(hnz:nz<1000000)(hQ:Q<9223372036854775808)(s:ByteArray)(hs:s.size≤1000)(HCK:Hid (lZ P Q G [a,ya,b,yb]=0))(r:Bool)(si:Kp (yA P Q G C (bq s) [ya,yb] (qw none none a b) al zs=r))(w:World)(hv:Hid (Vars w))(hd:Hid (bB w))(hA:Hid (Sl w A al))(hZ:Hid (Sl w Z zs)) :
  Calls Tryz.prog 168 #[gv P Q G, .int .i64 a, .int .i64 ya, .int .i64 b, .int .i64 yb, .string s,jL A na ca C Z nz cz] w (Rt w (.bool r)):=by
 obtain⟨w0,HW,ai,kC⟩:=st2 (bg P Q G) fq (fU A na ca C Z nz cz) rV w;have kV:=mkV ai hv;have kA:=mkS ai hA;have kZ:=mkS ai hZ;have kD:=oF ai hd;have ah:=bI w0;clear hv hd hA hZ;go_in
 go_wp2_with fail
 rw[HW.out];have hO:=kC;refine jq [] ah (fun hHeld=>?_);refine aP 0 1 2 3 ?_;refine aL 4 ?_;refine dh 5 fun K hK=>?_;go_simp;refine hK.out _ _ (bJ hHeld (af _ _)) (fun hHeld=>?_);clear hK K
 try simp only[qq]
 refine dh 6 fun K hK=>?_;go_simp;refine(zm P Q G w0.heap.size [a,ya,b,yb] 4 4 (aa rfl) (by omega) 0 HCK hQ _ (kV.out _ hHeld) (aa (Qf w0.drew _ a ya b yb))).mono ?_;rintro e wA ⟨rfl,bN⟩;refine hK.out _ _ (bJ hHeld bN) (fun hHeld=>?_);clear hK K
 try simp only[qq]
 refine aP 7 8 9 10 ?_;refine aP 11 12 13 15 ?_;refine aL 16 ?_;refine dh 14 fun K hK=>?_;go_simp;refine(CF a ya b yb _).mono ?_;intro e wB hR;obtain⟨Y,B,A1,B1,rfl,hY,hB,bN⟩:=hR;refine hK.out _ _ (bJ hHeld bN) (fun hHeld=>?_);clear hK K
 try simp only[qq]
 refine dh 17 fun K hK=>?_;go_simp;refine(OI P Q G Y [ya,yb] 2 2 B (qw A1 B1 a b) 2 2 A al na ca C Z zs nz cz (aa rfl) (aa rfl) gy hzn hna hnz hQ s hs r ⟨(CV A1 B1).trans si.1⟩ _ (kV.out _ hHeld) (kD.out _ hHeld) (aa hY) (aa hB) (kA.out _ hHeld) (kZ.out _ hHeld)).mono ?_;rintro e wC ⟨rfl,bN⟩;refine hK.out _ _ (bJ hHeld bN) (fun hHeld=>?_);clear hK K
 try simp only[qq]
 refine aL 18 ?_;refine aL 19 ?_;refine gM ?_;have gU:=hHeld;have bT:=ag ai.out gU.out;go_wp2;go_ret;exact⟨rfl,bT⟩
theorem PO (P Q G a ya b yb:Int)(A:Option Addr)(al:List Int)(na ca:Nat)(C:Int)(Z:Option Addr)(zs:List Int)(nz cz:Nat)(gy:Hid (al.length=na))(hzn:Hid (zs.length=nz))(hna:na<1000000)(hnz:nz<1000000)(hQ:Q<9223372036854775808)(s:ByteArray)(hs:s.size≤1000)(r:Bool)(hr:Kp (Dq P Q G a ya b yb C (bq s) al zs=r))(w:World)(hv:Hid (Vars w))(hd:Hid (bB w))(hA:Hid (Sl w A al))(hZ:Hid (Sl w Z zs)) :
  Calls Tryz.prog 168 #[gv P Q G, .int .i64 a, .int .i64 ya, .int .i64 b, .int .i64 yb, .string s,jL A na ca C Z nz cz] w (Rt w (.bool r)):=by
 obtain⟨k,hk⟩:∃k,lZ P Q G [a,ya,b,yb]=k:=⟨_,rfl⟩;have hr':=hr.1;rw[Dq,hk]at hr'
 cases h0:(k == 0)with
 | false=>
  obtain rfl:r=false:=by rw[←hr',h0];rfl
  exact Xr P Q G a ya b yb A al na ca C Z zs nz cz gy hzn hna hnz hQ s k (aa hk) h0 w hv hd hA hZ
 | true=>
  obtain rfl:k=0:=by simpa using h0
  exact Xq P Q G a ya b yb A al na ca C Z zs nz cz gy hzn hna hnz hQ s hs (aa hk) r ⟨by rw[←hr'];simp⟩ w hv hd hA hZ
theorem aeo (P Q G a ya b yb:Int)(HV:Hid (a_ P Q G=false))(hQ:Q<9223372036854775808)(w:World) :
  Calls Tryz.prog 172 #[gv P Q G, .int .i64 a, .int .i64 ya, .int .i64 b, .int .i64 yb] w (Rt w (.int .i64 1)):=by
 obtain⟨w0,HW,ai,kC⟩:=st1 (bg P Q G) rV w;have ah:=bI w0;go_in
 go_wp2_with fail
 rw[HW.out];have zc:=kC.out _ ah
 go_wp2_with fail
 clear zc;refine fe kC ah (di P Q G false HV hQ _) fun w1 ax zc=>?_;go_wp2;go_ret;exact⟨rfl,f_ ai ax⟩
theorem aet (P Q G a ya b yb:Int)(HV:Hid (a_ P Q G=true))(IE:Hid (aN P Q a=false))(hQ:Q<9223372036854775808)(w:World) :
  Calls Tryz.prog 172 #[gv P Q G, .int .i64 a, .int .i64 ya, .int .i64 b, .int .i64 yb] w (Rt w (.int .i64 2)):=by
 obtain⟨hp2,hp,hq3,Dl⟩:=bW HV.out;obtain⟨w0,HW,ai,kC⟩:=st1 (bg P Q G) rV w;have ah:=bI w0;go_in
 go_wp2_with fail
 rw[HW.out];have zc:=kC.out _ ah
 go_wp2_with fail
 clear zc;refine fe kC ah (di P Q G true HV hQ _) fun w1 ax zc=>?_
 go_wp2_with fail
 clear zc;refine fe kC ax (aU P Q G a false IE hp (by omega) hQ _) fun w2 az zc=>?_;go_wp2;go_ret;exact⟨rfl,f_ ai az⟩
theorem aes (P Q G a ya b yb:Int)(HV:Hid (a_ P Q G=true))(IE:Hid (aN P Q a=true))(QM:Hid (aN P Q ya=false))(hQ:Q<9223372036854775808)(w:World) :
  Calls Tryz.prog 172 #[gv P Q G, .int .i64 a, .int .i64 ya, .int .i64 b, .int .i64 yb] w (Rt w (.int .i64 2)):=by
 obtain⟨hp2,hp,hq3,Dl⟩:=bW HV.out;obtain⟨w0,HW,ai,kC⟩:=st1 (bg P Q G) rV w;have ah:=bI w0;go_in
 go_wp2_with fail
 rw[HW.out];have zc:=kC.out _ ah
 go_wp2_with fail
 clear zc;refine fe kC ah (di P Q G true HV hQ _) fun w1 ax zc=>?_
 go_wp2_with fail
 clear zc;refine fe kC ax (aU P Q G a true IE hp (by omega) hQ _) fun w2 az zc=>?_
 go_wp2_with fail
 clear zc;refine fe kC az (aU P Q G ya false QM hp (by omega) hQ _) fun w3 aW zc=>?_;go_wp2;go_ret;exact⟨rfl,f_ ai aW⟩
theorem aer (P Q G a ya b yb:Int)(HV:Hid (a_ P Q G=true))(IE:Hid (aN P Q a=true))(QM:Hid (aN P Q ya=true))(Uh:Hid (aN P Q b=false))(hQ:Q<9223372036854775808)(w:World) :
  Calls Tryz.prog 172 #[gv P Q G, .int .i64 a, .int .i64 ya, .int .i64 b, .int .i64 yb] w (Rt w (.int .i64 2)):=by
 obtain⟨hp2,hp,hq3,Dl⟩:=bW HV.out;obtain⟨w0,HW,ai,kC⟩:=st1 (bg P Q G) rV w;have ah:=bI w0;go_in
 go_wp2_with fail
 rw[HW.out];have zc:=kC.out _ ah
 go_wp2_with fail
 clear zc;refine fe kC ah (di P Q G true HV hQ _) fun w1 ax zc=>?_
 go_wp2_with fail
 clear zc;refine fe kC ax (aU P Q G a true IE hp (by omega) hQ _) fun w2 az zc=>?_
 go_wp2_with fail
 clear zc;refine fe kC az (aU P Q G ya true QM hp (by omega) hQ _) fun w3 aW zc=>?_
 go_wp2_with fail
 clear zc;refine fe kC aW (aU P Q G b false Uh hp (by omega) hQ _) fun w4 bE zc=>?_;go_wp2;go_ret;exact⟨rfl,f_ ai bE⟩
theorem aeq (P Q G a ya b yb:Int)(HV:Hid (a_ P Q G=true))(IE:Hid (aN P Q a=true))(QM:Hid (aN P Q ya=true))(Uh:Hid (aN P Q b=true))(Yt:Hid (aN P Q yb=false))(hQ:Q<9223372036854775808)(w:World) :
  Calls Tryz.prog 172 #[gv P Q G, .int .i64 a, .int .i64 ya, .int .i64 b, .int .i64 yb] w (Rt w (.int .i64 2)):=by
 obtain⟨hp2,hp,hq3,Dl⟩:=bW HV.out;obtain⟨w0,HW,ai,kC⟩:=st1 (bg P Q G) rV w;have ah:=bI w0;go_in
 go_wp2_with fail
 rw[HW.out];have zc:=kC.out _ ah
 go_wp2_with fail
 clear zc;refine fe kC ah (di P Q G true HV hQ _) fun w1 ax zc=>?_
 go_wp2_with fail
 clear zc;refine fe kC ax (aU P Q G a true IE hp (by omega) hQ _) fun w2 az zc=>?_
 go_wp2_with fail
 clear zc;refine fe kC az (aU P Q G ya true QM hp (by omega) hQ _) fun w3 aW zc=>?_
 go_wp2_with fail
 clear zc;refine fe kC aW (aU P Q G b true Uh hp (by omega) hQ _) fun w4 bE zc=>?_
 go_wp2_with fail
 clear zc;refine fe kC bE (aU P Q G yb false Yt hp (by omega) hQ _) fun w5 iH zc=>?_;go_wp2;go_ret;exact⟨rfl,f_ ai iH⟩
theorem aep (P Q G a ya b yb:Int)(HV:Hid (a_ P Q G=true))(IE:Hid (aN P Q a=true))(QM:Hid (aN P Q ya=true))(Uh:Hid (aN P Q b=true))(Yt:Hid (aN P Q yb=true))(hQ:Q<9223372036854775808)(w:World) :
  Calls Tryz.prog 172 #[gv P Q G, .int .i64 a, .int .i64 ya, .int .i64 b, .int .i64 yb] w (Rt w (.int .i64 0)):=by
 obtain⟨hp2,hp,hq3,Dl⟩:=bW HV.out;obtain⟨w0,HW,ai,kC⟩:=st1 (bg P Q G) rV w;have ah:=bI w0;go_in
 go_wp2_with fail
 rw[HW.out];have zc:=kC.out _ ah
 go_wp2_with fail
 clear zc;refine fe kC ah (di P Q G true HV hQ _) fun w1 ax zc=>?_
 go_wp2_with fail
 clear zc;refine fe kC ax (aU P Q G a true IE hp (by omega) hQ _) fun w2 az zc=>?_
 go_wp2_with fail
 clear zc;refine fe kC az (aU P Q G ya true QM hp (by omega) hQ _) fun w3 aW zc=>?_
 go_wp2_with fail
 clear zc;refine fe kC aW (aU P Q G b true Uh hp (by omega) hQ _) fun w4 bE zc=>?_
 go_wp2_with fail
 clear zc;refine fe kC bE (aU P Q G yb true Yt hp (by omega) hQ _) fun w5 iH zc=>?_;go_wp2;go_ret;exact⟨rfl,f_ ai iH⟩
theorem xu (P Q G a ya b yb r:Int)(hr:Hid (lZ P Q G [a,ya,b,yb]=r))(hQ:Q<9223372036854775808)(w:World) :
  Calls Tryz.prog 172 #[gv P Q G, .int .i64 a, .int .i64 ya, .int .i64 b, .int .i64 yb] w (Rt w (.int .i64 r)):=by
 have hr':=hr.out;unfold lZ at hr'
 cases hv:a_ P Q G with
 | false=>
  obtain rfl:r=1:=by rw[←hr',hv];rfl
  exact aeo P Q G a ya b yb (aa hv) hQ w
 | true=>
  rw[hv,if_pos rfl]at hr'
  simp only[List.all_cons,List.all_nil,Bool.and_true]at hr'
  cases h0:aN P Q a with
  | false=>
   obtain rfl:r=2:=by rw[←hr',h0];rfl
   exact aet P Q G a ya b yb (aa hv) (aa h0) hQ w
  | true=>
   cases h1:aN P Q ya with
   | false=>
    obtain rfl:r=2:=by rw[←hr',h0,h1];rfl
    exact aes P Q G a ya b yb (aa hv) (aa h0) (aa h1) hQ w
   | true=>
    cases h2:aN P Q b with
    | false=>
     obtain rfl:r=2:=by rw[←hr',h0,h1,h2];rfl
     exact aer P Q G a ya b yb (aa hv) (aa h0) (aa h1) (aa h2) hQ w
    | true=>
     cases h3:aN P Q yb with
     | false=>
      obtain rfl:r=2:=by rw[←hr',h0,h1,h2,h3];rfl
      exact aeq P Q G a ya b yb (aa hv) (aa h0) (aa h1) (aa h2) (aa h3) hQ w
     | true=>
      obtain rfl:r=0:=by rw[←hr',h0,h1,h2,h3];rfl
      exact aep P Q G a ya b yb (aa hv) (aa h0) (aa h1) (aa h2) (aa h3) hQ w
def Im (a ya b yb:Int)(g:Nat)(w:World):Prop:=w.heap[g+1]? = some (.cells #[.int .i64 ya, .int .i64 yb] 3)∧w.heap[g+1+1]? = some (.cells #[.int .i64 a] 3)∧w.heap[g+1+1+1]? = some (.cells #[.int .i64 b] 3)∧w.heap[g+1+1+1+1]? = some (.cells #[.slice (some ⟨g+1+1,0,none⟩) 1 1, .slice (some ⟨g+1+1+1,0,none⟩) 1 1] 24)
theorem Im.set {a ya b yb:Int} {g:Nat} {w:World} (h:Im a ya b yb g w) {k:Nat} (hk:k<g)(j:Nat)(v:Value):Im a ya b yb g (w.setCell ⟨k,j,none⟩ v):=by
 obtain⟨h1,h2,h3,h4⟩:=h;refine⟨?_, ?_, ?_, ?_⟩
 · rw[Go.Deep.blk_setCell_other _ _ _ _ (show g+1≠k by omega)];exact h1
 · rw[Go.Deep.blk_setCell_other _ _ _ _ (show g+1+1≠k by omega)];exact h2
 · rw[Go.Deep.blk_setCell_other _ _ _ _ (show g+1+1+1≠k by omega)];exact h3
 · rw[Go.Deep.blk_setCell_other _ _ _ _ (show g+1+1+1+1≠k by omega)];exact h4
theorem Im.sl {a ya b yb:Int} {g:Nat} {w:World} (h:Im a ya b yb g w):Sl w (some ⟨g+1,0,none⟩) [ya,yb]∧Rw w (some ⟨g+1+1+1+1,0,none⟩) (qw (some ⟨g+1+1,0,none⟩) (some ⟨g+1+1+1,0,none⟩) a b):=by
 obtain⟨h1,h2,h3,h4⟩:=h;exact⟨ql h1 (fun k hk=>by match k,hk with | 0,_=>rfl | 1,_=>rfl),IY h4 (ql h2 (fun k hk=>by match k,hk with | 0,_=>rfl)) (ql h3 (fun k hk=>by match k,hk with | 0,_=>rfl))⟩
def YV (w:World)(a:Nat)(P Q G A B H:Int):Prop:=(w.cell? ⟨a,0,none⟩=some (.int .i64 P)∧w.cell? ⟨a,1,none⟩=some (.int .i64 Q)∧w.cell? ⟨a,2,none⟩=some (.int .i64 G)) ∧
 w.cell? ⟨a,3,none⟩=some (.int .i64 A)∧w.cell? ⟨a,4,none⟩=some (.int .i64 B)∧w.cell? ⟨a,5,none⟩=some (.int .i64 H)
theorem YV.below {w w':World} {a:Nat} {P Q G A B H:Int} (h:YV w a P Q G A B H)(hb:Below w.heap.size w w'):YV w' a P Q G A B H:=
 have f:∀ {p:Addr} {v:Value},w.cell? p=some v→w'.cell? p=some v:=fun h=>(hb.cell (World.block_lt_of_cell? _ _ h)).trans h
 ⟨⟨f h.1.1,f h.1.2.1,f h.1.2.2⟩,f h.2.1,f h.2.2.1,f h.2.2.2⟩
def XN (a m:Int)(w:World)(e:Ending)(w':World):Prop:=
 ∃x:Int,e = .returned (.tuple #[.int .i64 x, .int .i64 0])∧0≤x∧x<m∧x*a%m=1∧∃n,w'=w.drewN n
theorem Ro (a m:Int)(h1:2≤m)(h2:m<2305843009213693952)(ha0:0≤a)(ha:a<m)(hu:Hid (∀d,d ∣ a→d ∣ m→0<d→d=1))(w:World) :
  Calls Tryz.prog 148 #[.int .i64 a, .int .i64 m] w (XN a m w):=by
 have hc:=aa (yP (by omega) h2 ha0 ha ha0 ha);go_in
 go_wp2_with (go_at_call 96;refine(lF _ _ _ _).mono ?_;rintro e w' ⟨rfl,rfl⟩;rw[hc.out])
 refine(BG a m (by omega) h2 ha0 ha _).mono ?_;rintro e w' ⟨d,x,k,rfl,hx0,hx1,hd1,hd2,hd0,hd,hk,n,rfl⟩;obtain rfl:d=1:=hu.out d hd1 hd2 hd0;have HX:Hid (x*a%m=1):=aa (by rw[hk,Int.add_mul_emod_self_left];exact jG h1);clear hk hd1 hd2 hd0 hd;go_wp2;go_ret2;exact⟨x,rfl,hx0,hx1,HX.out,n,rfl⟩
def Uz (a P:Int)(w:World)(e:Ending)(w':World):Prop:=
 ∃x:Int,e = .returned (.tuple #[.int .i64 x, .int .i64 0])∧0≤x∧x<P∧x*a%P=1∧Below w.heap.size w w'
theorem Tx (P Q G a:Int)(hr:Hid (lZ P Q G [a]=0))(hQ:Q<9223372036854775808)(w:World)(hv:Hid (Vars w)) :
  Calls Tryz.prog 138 #[gv P Q G, .int .i64 a] w (Uz a P w):=by
 obtain⟨hval,hall⟩:=yQ hr.out;obtain⟨hp2,hp,hq3,Dl⟩:=bW hval
 simp only[List.all_cons,List.all_nil,Bool.and_true]at hall
 have la:=gD hall;have ha:=gF hall;have hu:Hid (∀d,d ∣ a→d ∣ P→0<d→d=1):=aa (fun d h1 h2 h3=>FH hp2 (by omega) hall h1 h2 h3);clear hall hval;have qV:=aa (hv.out.below (aO (w:=w) (o1:=bg P Q G) (o2:= .cells #[.int .i64 a] 3) (Below.refl _ _)));have HC:=aa (Lb w (bg P Q G) 3 a);have HB0:=aa ((bD w P Q G).below (af (w.alloc (bg P Q G)) (.cells #[.int .i64 a] 3)));go_in
 go_wp2_with fail
 refine(vW P Q G _ [a] 1 1 (aa rfl) (by decide) 0 hr (by omega) _ qV HC).mono ?_;rintro e w1 ⟨rfl,hb0⟩;have hb1:=aO hb0;obtain⟨c0,c1,c2⟩:=HB0.out.below hb0;clear hb0
 go_wp2_with fail
 refine(Ro a P hp2 hp (by omega) ha hu _).mono ?_;rintro e w2 ⟨x,rfl,hx0,hx1,hx,n,rfl⟩;have HX:=aa hx;clear hx;go_wp2;go_ret2;exact⟨x,rfl,hx0,hx1,HX.out,aI hb1 _⟩
abbrev CE (E1 E2:Int)(A:Option Addr)(na ca:Nat)(C:Int)(Z:Option Addr)(nz cz:Nat):Value:= .agg #[.int .i64 E1, .int .i64 E2, .slice A na ca, .int .i64 C, .slice Z nz cz]
abbrev GY (E1 E2:Int)(A:Option Addr)(na ca:Nat)(C:Int)(Z:Option Addr)(nz cz:Nat):Obj:= .cells #[.int .i64 E1, .int .i64 E2, .slice A na ca, .int .i64 C, .slice Z nz cz] 99
def Fj (w:World)(g:Nat)(a b:Int):Prop:=w.heap[g]? = some (.cells #[.int .i64 a, .int .i64 b] 3)
theorem bQ {w w':World} {g:Nat} {o:Obj} (h:w.heap[g]? = some o)(hb:Below w.heap.size w w'):w'.heap[g]? = some o:=by
 have hl:g<w.heap.size:=(Array.getElem?_eq_some_iff.1 h).1;exact(hb.block g hl).trans h
theorem Fj.below {w w':World} {g:Nat} {a b:Int} (h:Fj w g a b)(hb:Below w.heap.size w w'):Fj w' g a b:=bQ h hb
theorem Fj.new (w:World)(a b:Int):Fj (w.alloc (.cells #[.int .i64 a, .int .i64 b] 3)) w.heap.size a b:=heap_alloc_new _ _
theorem Fj.sl {w:World} {g:Nat} {a b:Int} (h:Fj w g a b):Sl w (some ⟨g,0,none⟩) [a,b]:=ql h (fun k hk=>by match k,hk with | 0,_=>rfl | 1,_=>rfl)
def Zd (w:World)(g gA gB:Nat):Prop:=w.heap[g]? = some (.cells #[.slice (some ⟨gA,0,none⟩) 2 2, .slice (some ⟨gB,0,none⟩) 2 2] 24)
theorem Zd.below {w w':World} {g gA gB:Nat} (h:Zd w g gA gB)(hb:Below w.heap.size w w'):Zd w' g gA gB:=bQ h hb
theorem Zd.new (w:World)(gA gB:Nat):Zd (w.alloc (.cells #[.slice (some ⟨gA,0,none⟩) 2 2, .slice (some ⟨gB,0,none⟩) 2 2] 24)) w.heap.size gA gB:=heap_alloc_new _ _
def Xp (A1 B1:Option Addr)(a b c d:Int):List Row:= [⟨A1,2,2, [a,b]⟩,⟨B1,2,2, [c,d]⟩]
def uD (ps a b c d:Int)(gY gA gB gR:Nat)(w:World):Prop:=Fj w gY ps 1∧Fj w gA a b∧Fj w gB c d∧Zd w gR gA gB
theorem uD.below {ps a b c d:Int} {gY gA gB gR:Nat} {w w':World} (h:uD ps a b c d gY gA gB gR w)(hb:Below w.heap.size w w'):uD ps a b c d gY gA gB gR w':=
 ⟨h.1.below hb,h.2.1.below hb,h.2.2.1.below hb,h.2.2.2.below hb⟩
theorem uD.sl {ps a b c d:Int} {gY gA gB gR:Nat} {w:World} (h:uD ps a b c d gY gA gB gR w):Sl w (some ⟨gY,0,none⟩) [ps,1]∧Rw w (some ⟨gR,0,none⟩) (Xp (some ⟨gA,0,none⟩) (some ⟨gB,0,none⟩) a b c d):=by
 obtain⟨h1,h2,h3,h4⟩:=h;refine⟨h1.sl,fun k hk=>?_⟩
 match k,hk with
 | 0,_=>exact⟨⟨gR,0,rfl,by rw[au h4];rfl⟩,rfl,h2.sl⟩
 | 1,_=>exact⟨⟨gR,0,rfl,by rw[au h4];rfl⟩,rfl,h3.sl⟩
theorem uD.set {ps a b c d:Int} {gY gA gB gR:Nat} {w:World} (h:uD ps a b c d gY gA gB gR w) {k:Nat} (hY:k<gY)(hA:k<gA)(hB:k<gB)(hR:k<gR)(j:Nat)(v:Value):uD ps a b c d gY gA gB gR (w.setCell ⟨k,j,none⟩ v):=by
 obtain⟨h1,h2,h3,h4⟩:=h;refine⟨?_, ?_, ?_, ?_⟩
 · exact(Go.Deep.blk_setCell_other _ _ _ _ (show gY≠k by omega)).trans h1
 · exact(Go.Deep.blk_setCell_other _ _ _ _ (show gA≠k by omega)).trans h2
 · exact(Go.Deep.blk_setCell_other _ _ _ _ (show gB≠k by omega)).trans h3
 · exact(Go.Deep.blk_setCell_other _ _ _ _ (show gR≠k by omega)).trans h4
theorem uD.setRow {ps a b c d:Int} {gY gA gB gR:Nat} {w:World} (h:uD ps a b c d gY gA gB gR w) {k:Nat} (hY:k<gY)(hA:k<gA)(hB:k<gB)(hR:k<gR)(cs:Array Value):uD ps a b c d gY gA gB gR (w.setRow k cs):=by
 obtain⟨h1,h2,h3,h4⟩:=h;exact⟨(setRow_other _ _ _ _ (by omega)).trans h1,(setRow_other _ _ _ _ (by omega)).trans h2,(setRow_other _ _ _ _ (by omega)).trans h3,(setRow_other _ _ _ _ (by omega)).trans h4⟩
theorem iZ (w:World)(A B C:Obj):(((w.alloc A).alloc B).alloc C).heap[w.heap.size+2]? = some C:=by
 have e:w.heap.size+2=((w.alloc A).alloc B).heap.size:=by simp
 rw[e];exact heap_alloc_new _ _
def Qx (w:World)(g:Nat):Prop:=w.heap[g]? = some (.cells #[.slice none 0 0, .slice none 0 0] 189)
theorem Qx.below {w w':World} {g:Nat} (h:Qx w g)(hb:Below w.heap.size w w'):Qx w' g:=bQ h hb
theorem Qx.setRow {w:World} {g:Nat} (h:Qx w g)(cs:Array Value):(w.setRow g cs).heap[g]? = some (.cells cs 189):=setRow_heap w g _ _ _ _ h
structure aS where
 ix:Int
 v:Int
 A:Option Addr
 na:Nat
 ca:Nat
 al:List Int
 C:Int
 Z:Option Addr
 nz:Nat
 cz:Nat
 zs:List Int
abbrev aC:aS:=⟨0,0,none,0,0, [],0,none,0,0, []⟩
def yT (w:World)(p:aS):Prop:=p.al.length=p.na∧p.zs.length=p.nz∧Sl w p.A p.al∧Sl w p.Z p.zs
def Pa (w:World)(L:Option Addr)(ps:List aS):Prop:=∀k,k<ps.length→∃b o,L=some ⟨b,o,none⟩∧w.cell? ⟨b,o+k*5,none⟩=some (.int .i64 (ps.getD k aC).ix)∧w.cell? ⟨b,o+k*5+1,none⟩=some (.int .i64 (ps.getD k aC).v) ∧
 w.cell? ⟨b,o+k*5+2,none⟩=some (.slice (ps.getD k aC).A (ps.getD k aC).na (ps.getD k aC).ca)∧w.cell? ⟨b,o+k*5+3,none⟩=some (.int .i64 (ps.getD k aC).C)∧w.cell? ⟨b,o+k*5+4,none⟩=some (.slice (ps.getD k aC).Z (ps.getD k aC).nz (ps.getD k aC).cz)∧yT w (ps.getD k aC)
theorem yT.below {w w':World} {p:aS} (h:yT w p)(hb:Below w.heap.size w w'):yT w' p:=⟨h.1,h.2.1,h.2.2.1.below hb,h.2.2.2.below hb⟩
theorem Pa.below {w w':World} {L:Option Addr} {ps:List aS} (h:Pa w L ps)(hb:Below w.heap.size w w'):Pa w' L ps:=fun k hk=>by
 obtain⟨b,o,h1,h2,h3,h4,h5,h6,h7⟩:=h k hk;exact⟨b,o,h1,cell_below h2 hb,cell_below h3 hb,cell_below h4 hb,cell_below h5 hb,cell_below h6 hb,h7.below hb⟩
def r64 (x:Int):Prop:= -9223372036854775808≤x∧x<9223372036854775808
abbrev mh (ps:List aS):List Int:=ps.map (·.ix)
abbrev Ec (ps:List aS)(k:Nat):Int:=(ps.getD k aC).v
theorem R9 {ps:List aS} {k:Nat} (h:k<ps.length):(mh ps).getD k 0=(ps.getD k aC).ix:=by
 rw[List.getD_eq_getElem?_getD,List.getElem?_map,List.getElem?_eq_getElem h,List.getD_eq_getElem?_getD,List.getElem?_eq_getElem h];rfl
theorem FK {ps:List aS} {k:Nat} (h:k<ps.length):mh (ps.take (k+1))=mh (ps.take k) ++ [(ps.getD k aC).ix]:=by
 rw[mh,List.take_add_one,List.map_append,List.getElem?_eq_getElem h,List.getD_eq_getElem?_getD,List.getElem?_eq_getElem h];rfl
def Cv (P Q:Int)(kn:Nat)(p:aS):Bool:=sP kn p.ix&&aN P Q p.v
theorem DC {f:aS→Bool} {l:List aS} {k:Nat} (hk:k<l.length)(h:f (l.getD k aC)=true):(l.drop k).all f=(l.drop (k+1)).all f:=by
 rw[List.drop_eq_getElem_cons hk,List.all_cons];rw[List.getD_eq_getElem?_getD,List.getElem?_eq_getElem hk]at h
 simp at h
 rw[h,Bool.true_and]
theorem x_ {f:aS→Bool} {l:List aS} {k:Nat} (hk:k<l.length)(h:f (l.getD k aC)=false):(l.drop k).all f=false:=by
 rw[List.drop_eq_getElem_cons hk,List.all_cons];rw[List.getD_eq_getElem?_getD,List.getElem?_eq_getElem hk]at h
 simp at h
 rw[h,Bool.false_and]
theorem yj {f:aS→Bool} {l:List aS} (h:l.all f=true) {k:Nat} (hk:k<l.length):f (l.getD k aC)=true:=by
 rw[List.getD_eq_getElem?_getD,List.getElem?_eq_getElem hk];exact List.all_eq_true.1 h _ (List.getElem_mem hk)
noncomputable def iU (P Q need:Int)(kn:Nat)(E1 E2:Int)(ps:List aS):Int:=if (aN P Q E1&&aN P Q E2)=true then(if ps.all (Cv P Q kn)=true then(if @decide (mQ (mh ps)) (Classical.propDecidable _)=true then(if (ps.length:Int)<need then 7 else 0)else 8)else 2)else 2
noncomputable def lT (P Q need:Int)(kn:Nat)(E1 E2:Int)(ps:List aS):Int:=if iU P Q need kn E1 E2 ps=0 then E8 P Q E2 (Ec ps) (wU Q ((mh ps).take need.toNat) 0) need.toNat else 0
theorem Ol {P Q:Int} {ps:List aS} {kn m:Nat} (h:ps.all (Cv P Q kn)=true)(hq:(kn:Int)<Q):((mh ps).take m).all (jc Q)=true:=by
 rw[List.all_eq_true];intro x hx;obtain⟨p,hp,rfl⟩:=List.mem_map.1 (List.mem_of_mem_take hx);have:=List.all_eq_true.1 h p hp
 simp only[Cv,sP,Bool.and_eq_true,decide_eq_true_eq]at this
 simp[jc]
 omega
theorem abd (P Q G:Int)(m:Nat)(Cs:Option Addr)(cs:List Int)(cn cc:Nat)(Ks:Option Addr)(ks:List Int)(kn kc:Nat)(hcn:Hid (cs.length=cn))(hkn:Hid (ks.length=kn))(E1 E2:Int)(A:Option Addr)(na ca:Nat)(C:Int)(Z:Option Addr)(nz cz:Nat)(L:Option Addr)(ps:List aS)(n c:Nat)(hn:Hid (ps.length=n))(hnb:n≤100)(hlr:Hid (∀k,k<n→r64 (ps.getD k aC).ix))(hr:Hid (pQ P Q G (m:Int) cs ks=true))(m1:Hid (aN P Q E1=false))(hQ:Q<9223372036854775808)(w:World)(hv:Hid (Vars w))(hC:Hid (Sl w Cs cs))(hK:Hid (Sl w Ks ks))(hL:Hid (Pa w L ps)) :
  Calls Tryz.prog 84 #[gv P Q G,jY (m:Int) Cs cn cc Ks kn kc,CE E1 E2 A na ca C Z nz cz, .slice L n c] w (Rt w (.tuple #[.int .i64 0, .int .i64 2])):=by
 obtain⟨i0,hi,hz0,hz1,hz2⟩:=info_parts n_;obtain⟨kz,n1,n2,n3,n4,n5,n6⟩:=lu hr.out hcn.out hkn.out;obtain⟨w0,HW,ai,kC⟩:=qD (bg P Q G) fq (uV (m:Int) Cs cn cc Ks kn kc) fq (GY E1 E2 A na ca C Z nz cz) vF w;have kV:=mkV ai hv;have qo:=mkS ai hC;have uX:=mkS ai hK;have kL:=fo (fun u=>Pa u L ps) ai hL (·.below);have ah:=bI w0;clear hv hC hK hL;go_in
 go_wp2_with fail
 rw[HW.out];have zc:=kC.out _ ah
 go_wp2_with fail
 clear zc;refine fe kC ah (lI P Q G (m:Int) Cs cs cn cc Ks ks kn kc hcn hkn true hr hQ _ (kV.out _ ah) (qo.out _ ah) (uX.out _ ah)) fun w1 ax zc=>?_
 go_wp2_with fail
 clear zc;refine fe kC ax (eT P Q G E1 false (aa (by rw[xX,kz.out,m1.out];rfl)) hQ _ (kV.out _ ax)) fun w2 az zc=>?_;go_wp2;go_ret2;exact⟨rfl,f_ ai az⟩
theorem abb (P Q G:Int)(m:Nat)(Cs:Option Addr)(cs:List Int)(cn cc:Nat)(Ks:Option Addr)(ks:List Int)(kn kc:Nat)(hcn:Hid (cs.length=cn))(hkn:Hid (ks.length=kn))(E1 E2:Int)(A:Option Addr)(na ca:Nat)(C:Int)(Z:Option Addr)(nz cz:Nat)(L:Option Addr)(ps:List aS)(n c:Nat)(hn:Hid (ps.length=n))(hnb:n≤100)(hlr:Hid (∀k,k<n→r64 (ps.getD k aC).ix))(hr:Hid (pQ P Q G (m:Int) cs ks=true))(m1:Hid (aN P Q E1=true))(m2:Hid (aN P Q E2=false))(hQ:Q<9223372036854775808)(w:World)(hv:Hid (Vars w))(hC:Hid (Sl w Cs cs))(hK:Hid (Sl w Ks ks))(hL:Hid (Pa w L ps)) :
  Calls Tryz.prog 84 #[gv P Q G,jY (m:Int) Cs cn cc Ks kn kc,CE E1 E2 A na ca C Z nz cz, .slice L n c] w (Rt w (.tuple #[.int .i64 0, .int .i64 2])):=by
 obtain⟨i0,hi,hz0,hz1,hz2⟩:=info_parts n_;obtain⟨kz,n1,n2,n3,n4,n5,n6⟩:=lu hr.out hcn.out hkn.out;obtain⟨w0,HW,ai,kC⟩:=qD (bg P Q G) fq (uV (m:Int) Cs cn cc Ks kn kc) fq (GY E1 E2 A na ca C Z nz cz) vF w;have kV:=mkV ai hv;have qo:=mkS ai hC;have uX:=mkS ai hK;have kL:=fo (fun u=>Pa u L ps) ai hL (·.below);have ah:=bI w0;clear hv hC hK hL;go_in
 go_wp2_with fail
 rw[HW.out];have zc:=kC.out _ ah
 go_wp2_with fail
 clear zc;refine fe kC ah (lI P Q G (m:Int) Cs cs cn cc Ks ks kn kc hcn hkn true hr hQ _ (kV.out _ ah) (qo.out _ ah) (uX.out _ ah)) fun w1 ax zc=>?_
 go_wp2_with fail
 clear zc;refine fe kC ax (eT P Q G E1 true (aa (by rw[xX,kz.out,m1.out];rfl)) hQ _ (kV.out _ ax)) fun w2 az zc=>?_
 go_wp2_with fail
 clear zc;refine fe kC az (eT P Q G E2 false (aa (by rw[xX,kz.out,m2.out];rfl)) hQ _ (kV.out _ az)) fun w3 aW zc=>?_;go_wp2;go_ret2;exact⟨rfl,f_ ai aW⟩
abbrev Q7 (ix v:Int)(A:Option Addr)(na ca:Nat)(C:Int)(Z:Option Addr)(nz cz:Nat):Obj:= .cells #[.int .i64 ix, .int .i64 v, .slice A na ca, .int .i64 C, .slice Z nz cz] 56
abbrev Si (ix v:Int)(A:Option Addr)(na ca:Nat)(C:Int)(Z:Option Addr)(nz cz:Nat):Value:= .agg #[.int .i64 ix, .int .i64 v, .slice A na ca, .int .i64 C, .slice Z nz cz]
theorem zX {P Q:Int} {kn:Nat} {p:aS} (h:Cv P Q kn p=true):aN P Q p.v=true:=by
 unfold Cv at h
 simp only[Bool.and_eq_true]at h
 exact h.2
theorem aba (P Q G:Int)(m:Nat)(Cs:Option Addr)(cs:List Int)(cn cc:Nat)(Ks:Option Addr)(ks:List Int)(kn kc:Nat)(hcn:Hid (cs.length=cn))(hkn:Hid (ks.length=kn))(E1 E2:Int)(A:Option Addr)(na ca:Nat)(C:Int)(Z:Option Addr)(nz cz:Nat)(L:Option Addr)(ps:List aS)(n c:Nat)(hn:Hid (ps.length=n))(hnb:n≤100)(hlr:Hid (∀k,k<n→r64 (ps.getD k aC).ix))(hr:Hid (pQ P Q G (m:Int) cs ks=true))(m1:Hid (aN P Q E1=true))(m2:Hid (aN P Q E2=true))(hQ:Q<9223372036854775808)(w:World)(hv:Hid (Vars w))(hC:Hid (Sl w Cs cs))(hK:Hid (Sl w Ks ks))(hL:Hid (Pa w L ps)) :
  Calls Tryz.prog 84 #[gv P Q G,jY (m:Int) Cs cn cc Ks kn kc,CE E1 E2 A na ca C Z nz cz, .slice L n c] w (Rt w (.tuple #[.int .i64 (lT P Q (m:Int) kn E1 E2 ps), .int .i64 (iU P Q (m:Int) kn E1 E2 ps)])):=by
 obtain⟨i0,hi,hz0,hz1,hz2⟩:=info_parts n_;obtain⟨kz,n1,n2,n3,n4,n5,n6⟩:=lu hr.out hcn.out hkn.out;obtain⟨w0,HW,ai,kC⟩:=qD (bg P Q G) fq (uV (m:Int) Cs cn cc Ks kn kc) fq (GY E1 E2 A na ca C Z nz cz) vF w;have kV:=mkV ai hv;have qo:=mkS ai hC;have uX:=mkS ai hK;have kL:=fo (fun u=>Pa u L ps) ai hL (·.below);have ah:=bI w0;clear hv hC hK hL;go_in
 go_wp2_with fail
 rw[HW.out];have zc:=kC.out _ ah
 go_wp2_with fail
 clear zc;refine fe kC ah (lI P Q G (m:Int) Cs cs cn cc Ks ks kn kc hcn hkn true hr hQ _ (kV.out _ ah) (qo.out _ ah) (uX.out _ ah)) fun w1 ax zc=>?_
 go_wp2_with fail
 clear zc;refine fe kC ax (eT P Q G E1 true (aa (by rw[xX,kz.out,m1.out];rfl)) hQ _ (kV.out _ ax)) fun w2 az zc=>?_
 go_wp2_with fail
 clear zc;refine fe kC az (eT P Q G E2 true (aa (by rw[xX,kz.out,m2.out];rfl)) hQ _ (kV.out _ az)) fun w3 aW zc=>?_;go_wp2;clear zc
 go_loopw [10,40] (fun vx i wr=>∃k:Nat,k≤n∧i = .int .i64 k∧Hid (ps.all (Cv P Q kn)=(ps.drop k).all (Cv P Q kn))∧Hid (wr.ownsRow w0.heap.size 3 1 vx k ((mh (ps.take k)).map (Value.int .i64)))∧Hid (Below w0.heap.size w0 wr)) (fun _ i _=>n-(intOf i).toNat)
 case atStart=>exact⟨0,by omega,rfl,aa rfl,aa (World.ownsRow_nil _ _ _ _),aW⟩
 case round=>
  obtain⟨k,hk,rfl,HR,Yk,aD⟩:=hrel
  by_cases hlt:k<n
  ·
   have hkl:k<ps.length:=by rw[hn.out];exact hlt
   obtain⟨b,o,hA,j0,j1,j2,j3,j4,hok⟩:=(kL.out _ aD).out k hkl;subst hA;have tx:=FK hkl;obtain⟨px,hpx⟩:∃x,ps.getD k aC=x:=⟨_,rfl⟩;obtain⟨ix,v,pA,mD,sO,qJ,pC,pZ,mq,sN,qI⟩:=px;rw[hpx]at j0 j1 j2 j3 j4 tx;have TX:=aa tx;have hst:True→Hid True:=fun _=>aa trivial;clear tx hok hst
   dsimp only at j0 j1 j2 j3 j4
   cases hm:sP kn ix with
   | true=>
    cases hg:aN P Q v with
    | true=>
     have HS:Hid (ps.all (Cv P Q kn)=(ps.drop (k+1)).all (Cv P Q kn)):=aa (HR.out.trans (DC hkl (by rw[hpx,Cv,hm,hg];rfl)));have HM:=aa hm;have HG:=aa hg;clear hm hg HR hpx;have cK:=bI wr;have zc:=kC.out _ aD;obtain⟨w4,hw,wH,J2,-,kS⟩:=pO (Q7 ix v pA mD sO pC pZ mq sN) vF wr;have bE:=iW aD wH;have fA:=iW cK wH;have dJ:=bI w4;clear wH;have pK:=kC.out _ bE;have l_:=kS.out _ dJ
     go_wp2_with fail
     clear zc pK l_ hw;have zc:=kC.out _ bE;have jW:=kS.out _ dJ;clear j0 j1 j2 j3 j4;clear zc jW;have zc:=kC.out _ bE;have jW:=kS.out _ dJ
     go_wp2_with fail
     clear zc jW;refine um bE fA dJ (pg (m:Int) Cs cn cc Ks kn kc ix true HM _) fun w5 iH sw fB=>?_;have zc:=kC.out _ iH;have jW:=kS.out _ fB
     go_wp2_with fail
     clear zc jW;refine um iH sw fB (eT P Q G v true (aa (by rw[xX,kz.out,HG.out];rfl)) hQ _ (kV.out _ iH)) fun w6 jg Av gH=>?_;have zc:=kC.out _ jg;have jW:=kS.out _ gH;have MU:=aa (Yk.out.kept (lQ Av.out none) (lM _));have hown:=MU.out;have hbs:=jg.out.size
     go_wp2_with (at_builtin;refine wpList_append_own _ rfl _ _ 24 rfl w0.heap.size 3 i0 (.int .i64 0) 1 8 Tryz.underlying24 hi hz0 hz1 hz2 rfl (by decide) _ _ _ rfl (hown.alloc _) ⟨w6.heap.size,0,none⟩ 1 1 [.int .i64 ix] rfl rfl (cell_one_new _ _ _) (ints_oneCell .i64 [ix]) (by unfold maxLen;omega) (by omega) (by simp;omega) ?_;intro v' y3 hown1 hgrow1 _)
     have om:Hid (y3.ownsRow w0.heap.size 3 1 v' (k+1) ((mh (ps.take (k+1))).map (Value.int .i64))):=aa (by rw[TX.out];simpa using hown1);have HB3:Hid (Below w0.heap.size w0 y3):=aa ((jg.out.alloc hbs _).grown hgrow1 (by simp;omega) (fun j hj=>(hown.lt j hj).1));clear hown hown1 hgrow1 MU
     go_roundw
     case rel=>exact⟨k+1,by omega,by go_num,HS,om,HB3⟩
     case measure=>simp[intOf];omega
    | false=>
     have HF:Hid (iU P Q (m:Int) kn E1 E2 ps=2):=aa (by rw[iU,m1.out,m2.out,HR.out,x_ hkl (by rw[hpx,Cv,hm,hg];rfl)];rfl);have HM:=aa hm;have HG:=aa hg;clear hm hg HR hpx;have cK:=bI wr;have zc:=kC.out _ aD;obtain⟨w4,hw,wH,J2,-,kS⟩:=pO (Q7 ix v pA mD sO pC pZ mq sN) vF wr;have bE:=iW aD wH;have fA:=iW cK wH;have dJ:=bI w4;clear wH;have pK:=kC.out _ bE;have l_:=kS.out _ dJ
     go_wp2_with fail
     clear zc pK l_ hw;have zc:=kC.out _ bE;have jW:=kS.out _ dJ;clear j0 j1 j2 j3 j4;clear zc jW;have zc:=kC.out _ bE;have jW:=kS.out _ dJ
     go_wp2_with fail
     clear zc jW;refine um bE fA dJ (pg (m:Int) Cs cn cc Ks kn kc ix true HM _) fun w5 iH sw fB=>?_;have zc:=kC.out _ iH;have jW:=kS.out _ fB
     go_wp2_with fail
     clear zc jW;refine um iH sw fB (eT P Q G v false (aa (by rw[xX,kz.out,HG.out];rfl)) hQ _ (kV.out _ iH)) fun w6 jg Av gH=>?_;have zc:=kC.out _ jg;have jW:=kS.out _ gH;have bT:=ag ai.out jg.out;go_wp2;go_ret2;exact⟨by rw[lT,HF.out];rfl,bT⟩
   | false=>
    have HF:Hid (iU P Q (m:Int) kn E1 E2 ps=2):=aa (by rw[iU,m1.out,m2.out,HR.out,x_ hkl (by rw[hpx,Cv,hm];rfl)];rfl);have HM:=aa hm;clear hm HR hpx;have cK:=bI wr;have zc:=kC.out _ aD;obtain⟨w4,hw,wH,J2,-,kS⟩:=pO (Q7 ix v pA mD sO pC pZ mq sN) vF wr;have bE:=iW aD wH;have fA:=iW cK wH;have dJ:=bI w4;clear wH;have pK:=kC.out _ bE;have l_:=kS.out _ dJ
    go_wp2_with fail
    clear zc pK l_ hw;have zc:=kC.out _ bE;have jW:=kS.out _ dJ;clear j0 j1 j2 j3 j4;clear zc jW;have zc:=kC.out _ bE;have jW:=kS.out _ dJ
    go_wp2_with fail
    clear zc jW;refine um bE fA dJ (pg (m:Int) Cs cn cc Ks kn kc ix false HM _) fun w5 iH sw fB=>?_;have zc:=kC.out _ iH;have jW:=kS.out _ fB;have bT:=ag ai.out iH.out;go_wp2;go_ret2;exact⟨by rw[lT,HF.out];rfl,bT⟩
  ·
   obtain rfl:k=n:=by omega
   have hall:ps.all (Cv P Q kn)=true:=by rw[HR.out,←hn.out,List.drop_length];rfl
   have hox:=Yk.out;rw[List.take_of_length_le (by rw[hn.out];exact Nat.le_refl _)]at hox;have Js:(mh ps).length=k:=by rw[List.length_map];exact hn.out
   obtain⟨AX,cX,hvX,sX,hcX⟩:=zY hox Js;subst hvX;have HSX:=aa sX;have YC:=aa Js;have qY:=aa hall;have ab7:Hid (∀j,j<k → -9223372036854775808≤(mh ps).getD j 0∧(mh ps).getD j 0<9223372036854775808):=aa (fun j hj=>by rw[R9 (by rw[hn.out];exact hj)];exact hlr.out j hj);clear hall hox Js sX HR Yk;have cK:=bI wr;have kX:=nQ (w:=wr) (fun u=>Sl u AX (mh ps)) HSX.out (·.below);have zc:=kC.out _ aD
   by_cases hnt:mQ (mh ps)
   ·
    have zP:=aa hnt;clear hnt
    go_wp2_with fail
    clear zc;refine PZ aD cK (CY AX (mh ps) k cX false (aa ⟨fun _=>zP.out,fun _=>rfl⟩) YC (by omega) ab7 _ (kX.out _ cK)) fun w4 bE fA=>?_;have zc:=kC.out _ bE
    by_cases hfw:k<m
    ·
     have HF:Hid (iU P Q (m:Int) kn E1 E2 ps=7):=aa (by rw[iU,m1.out,m2.out,qY.out];simp[zP.out,hn.out];omega);have df:decide ((k:Int)<(m:Int))=true:=by simp;omega
     have bT:=ag ai.out bE.out;go_wp2;go_ret2;exact⟨by rw[lT,HF.out];rfl,bT⟩
    ·
     have HF:Hid (iU P Q (m:Int) kn E1 E2 ps=0):=aa (by rw[iU,m1.out,m2.out,qY.out];simp[zP.out,hn.out];omega);have HVF:Hid (lT P Q (m:Int) kn E1 E2 ps=E8 P Q E2 (Ec ps) (wU Q ((mh ps).take m) 0) m):=aa (by rw[lT,HF.out];rfl);have df:decide ((k:Int)<(m:Int))=false:=by simp;omega
     have hmc:m≤cX:=by omega
     have Vb:Hid (((mh ps).take m).length=m):=aa (by rw[List.length_take,YC.out];omega);have XV:Hid (((mh ps).take m).all (jc Q)=true):=aa (Ol qY.out n3);have HTT:Hid (mQ ((mh ps).take m)):=aa (Eh zP.out);obtain⟨q1,q2,q3,q4⟩:=bW kz.out;have HPQ:Hid (qc Q=true):=aa (FD kz.out);have kX2:=aa (show ∀u:World,Hid (Below wr.heap.size wr u)→Hid (Sl u AX ((mh ps).take m))from fun u h=>aa ((DX (HSX.out.below h.out) m)))
     go_upto_region 17 with(fail)
     clear zc;have hO:=aa (fun(u:World) (h:Hid (Below w0.heap.size w0 u∧Below wr.heap.size wr u))=>kC.out u (aa h.out.1));refine uG (fun u=>Below w0.heap.size w0 u∧Below wr.heap.size wr u) [] (bb2 (aa ⟨bE.out,fA.out⟩) ((Below.refl _ _).drew)) (fun hHeld=>?_);refine aP 0 1 2 3 ?_;refine aL 4 ?_;refine aL 5 ?_;refine dh 6 fun K hK=>?_;go_simp;refine(Fy Q AX ((mh ps).take m) m cX 0 (by omega) HPQ Vb (by omega) XV (by omega) (by omega) hmc HTT _ (kV.out _ (aa hHeld.out.1)) (kX2.out _ (aa hHeld.out.2))).mono ?_;intro e wA hW;obtain⟨vw,rfl,hOW,bN⟩:=hW;have HOW:=aa hOW;clear hOW;refine hK.out _ _ (bb2 hHeld bN) (fun hHeld=>?_);clear hK K;refine aP 7 8 9 10 ?_;refine aL 11 ?_;refine gM ?_;clear hO;have iE:=(aa hHeld.out.1);have J7:=(aa hHeld.out.2);clear hHeld;have zc:=kC.out _ iE;have MC:=HOW.out;unfold iD at MC;rw[iq]at MC;obtain⟨AW,cW,hvw,sW,hcW⟩:=zY MC (iq _ _ _ _);subst hvw;have Ie:=aa sW;clear MC sW HOW;clear zc;have ac_:=bI wA;have kW:=nQ (w:=wA) (fun u=>Sl u AW (Fv Q ((mh ps).take m) 0 m)) Ie.out (·.below);have zc:=kC.out _ iE;go_wp2;clear zc
     go_loopw [15,86] (fun a i wz=>∃j:Nat,j≤m∧i = .int .i64 j∧a = .int .i64 (Mg P Q (Ec ps) (wU Q ((mh ps).take m) 0) j)∧Hid (Below wA.heap.size wA wz)) (fun _ i _=>m-(intOf i).toNat)
     case atStart=>exact⟨0,by omega,rfl,rfl,aa (Below.refl _ _)⟩
     case round=>
      obtain⟨j,hj,rfl,rfl,sJ⟩:=hrel;have sI:=aa (ag iE.out sJ.out);have U_:=aa (ag J7.out sJ.out);have hmm:=KE (ws:=wU Q ((mh ps).take m) 0) q1 (by omega) j (fun i hi=>zX (yj qY.out (show i<ps.length by have:=hn.out;omega)))
      by_cases zJ:j<m
      ·
       have hkl:j<ps.length:=by have:=hn.out;omega
       obtain⟨b1,o1,hA1,i1⟩:=(kW.out _ sJ).out j (by rw[iq];exact zJ);subst hA1;have hjk:j<k:=by omega
       obtain⟨b2,o2,hA2,j0,j1,j2,j3,j4,hok⟩:=(kL.out _ sI).out j hkl;subst hA2;rw[Kj _ _ _ _ _ zJ]at i1;have ss:Mg P Q (Ec ps) (wU Q ((mh ps).take m) 0) (j+1)=Mg P Q (Ec ps) (wU Q ((mh ps).take m) 0) j*pw (Ec ps j) (wU Q ((mh ps).take m) 0 j%Q) P%P:=rfl;obtain⟨x0,x1⟩:=AJ (q:=Q) (by omega) ((mh ps).take m) 0 j;have hyb:=zX (yj qY.out hkl);have j1':=j1;obtain⟨x,hx⟩:∃x,wU Q ((mh ps).take m) 0 j=x:=⟨_,rfl⟩;obtain⟨y,hy⟩:∃x,Ec ps j=x:=⟨_,rfl⟩;obtain⟨s9,Jm⟩:∃x,Mg P Q (Ec ps) (wU Q ((mh ps).take m) 0) j=x:=⟨_,rfl⟩;rw[hx]at i1 x0 x1 ss;rw[show(ps.getD j aC).v=y from hy]at j1;rw[show(ps.getD j aC).v=y from hy]at hyb;rw[hy,Jm]at ss;rw[Jm]at hmm ⊢;obtain⟨p,hp⟩:∃z,pw y (x%Q) P=z:=⟨_,rfl⟩;obtain⟨t9,WE⟩:∃z,s9*p%P=z:=⟨_,rfl⟩;rw[hp,WE]at ss;have mp:aN P Q p=true:=by rw[←hp];exact yM q1 (by omega) (Int.emod_nonneg _ (by omega)) hyb
       have ck1:Hid (lZ P Q G [y]=0):=aa (uO kz.out (by simp[hyb]));have ck2:Hid (lZ P Q G [s9,p]=0):=aa (uO kz.out (by simp[hmm,mp]));have SS:=aa ss;have HP:=aa hp;have HT9:=aa WE;have kI:=mkc (p:=⟨b2,o2+j*5+1,none⟩) (v:= .int .i64 y) j1;clear ss hx hy Jm hp WE hkl hyb mp hmm j0 j1 j1' j2 j3 j4 hok;have sw:=bI wr;have zc:=kC.out _ sI;have vk:=kI.out _ sw
       go_wp2_with fail
       clear zc vk;have hO:=aa (fun(u:World) (h:Hid (Below w0.heap.size w0 u∧Below wA.heap.size wA u∧Below wr.heap.size wr u))=>And.intro (kC.out u (aa h.out.1)) (kI.out u (aa h.out.2.2)));refine uG (fun u=>Below w0.heap.size w0 u∧Below wA.heap.size wA u∧Below wr.heap.size wr u) [] (bb3 (aa ⟨sI.out,sJ.out,sw.out⟩) ((Below.refl _ _).drew)) (fun hHeld=>?_);refine aP 0 1 2 3 ?_;refine aL 4 ?_;refine aL 5 ?_;refine aL 6 ?_;refine dh 7 fun K hK=>?_;go_simp;refine(KX P Q G y x p ck1 HP (by omega) (by omega) _ (kV.out _ (aa hHeld.out.1))).mono ?_;rintro e wA ⟨rfl,bN⟩;refine hK.out _ _ (bb3 hHeld bN) (fun hHeld=>?_);clear hK K;refine aP 8 9 10 11 ?_;refine aL 12 ?_;refine gM ?_;clear hO;have J6:=(aa hHeld.out.1);have Yv:=(aa hHeld.out.2.1);have QO:=(aa hHeld.out.2.2);clear hHeld;have zc:=kC.out _ J6;have vk:=kI.out _ QO
       go_wp2_with fail
       clear zc vk;refine um J6 Yv QO (EB P Q G s9 p t9 ck2 HT9 hQ _ (kV.out _ J6)) fun w7 pW Lp Lm=>?_;have zc:=kC.out _ pW;have vk:=kI.out _ Lm;go_wp2
       go_roundw
       case rel=>exact⟨j+1,by omega,by go_num,by rw[SS.out],Lp⟩
       case measure=>simp[intOf];omega
      ·
       obtain rfl:j=m:=by omega
       obtain⟨s9,Jm⟩:∃x,Mg P Q (Ec ps) (wU Q ((mh ps).take j) 0) j=x:=⟨_,rfl⟩;rw[Jm]at hmm ⊢;have HS9:=aa Jm;have ck1:Hid (lZ P Q G [s9]=0):=aa (uO kz.out (by simp[hmm]));have HMM:=aa hmm;clear hmm Jm;have zc:=kC.out _ sI
       go_wp2_with fail
       refine(Tx P Q G s9 ck1 hQ _ (kV.out _ sI)).mono ?_;intro e w6 hI;obtain⟨xi,rfl,x0,x1,hxi,hb0⟩:=hI;have HXI:=aa hxi;clear hxi;have jg:=bJ sI hb0;have Av:=bJ U_ hb0;have Uu:=bJ sJ hb0;clear zc hb0;have zc:=kC.out _ jg;have mxi:=Sw q1 (by omega) HMM.out x0 x1 HXI.out;have afC:Hid (E2*xi%P=E8 P Q E2 (Ec ps) (wU Q ((mh ps).take j) 0) j):=aa (G_ q1 (by omega) (by have:=gD m2.out;omega) (gF m2.out) (fun i hi=>rH (zX (yj qY.out (show i<ps.length by have:=hn.out;omega)))) (by rw[HS9.out];exact HXI.out));have ck2:Hid (lZ P Q G [E2,xi]=0):=aa (uO kz.out (by simp[m2.out,mxi]));clear mxi
       go_wp2_with fail
       clear zc;refine um jg Av Uu (EB P Q G E2 xi _ ck2 afC hQ _ (kV.out _ jg)) fun w7 pW Lm Lp=>?_;have zc:=kC.out _ pW;have bT:=ag ai.out pW.out;go_wp2;go_ret2;exact⟨by rw[HVF.out,HF.out];rfl,bT⟩
   ·
    have HF:Hid (iU P Q (m:Int) kn E1 E2 ps=8):=aa (by rw[iU,m1.out,m2.out,qY.out];simp[hnt]);have zP:=aa hnt;clear hnt
    go_wp2_with fail
    clear zc;refine PZ aD cK (CY AX (mh ps) k cX true (aa ⟨fun h=>(by cases h),fun h=>absurd h zP.out⟩) YC (by omega) ab7 _ (kX.out _ cK)) fun w4 bE fA=>?_;have zc:=kC.out _ bE;have bT:=ag ai.out bE.out;go_wp2;go_ret2;exact⟨by rw[lT,HF.out];rfl,bT⟩
end Go.Proofs.YtchcllcbknfikaaGreatDoor
namespace Go.Proofs.YtchcllcbknfikaaGreatDoor
open Go.ChangeShapes Go.WideShapes Go.ChangeAt Go.RowKit sH
theorem P8:Tryz.prog.cellsOf 26=3:=by kernel_rfl
theorem Dy:Tryz.prog.cellsOf 56=5:=by kernel_rfl
section
variable {H : Type} {enc : TypeId × Value → H} {w : World} {base : Nat} {held : Bool}
theorem Ov {r:Reach} {b0:Nat} {v:Value} {d:DataW H} {ps:List MemPlace} (hval:Value.okWide Tryz.prog w r b0 26 v)(hd:DataW.Trod enc Tryz.prog w base (fun _=>true) held 26 v d ps) :
  ∃(need:Int) (Cs:Option Addr) (cn cc:Nat) (cs:List Int) (Ks:Option Addr) (kn kc:Nat) (ks:List Int),v = .agg #[.int .i64 need, .slice Cs cn cc, .slice Ks kn kc] ∧ -9223372036854775808≤need∧need≤9223372036854775807∧cs.length=cn∧ks.length=kn∧Sl w Cs cs∧Sl w Ks ks:=by
 obtain⟨cs,rfl,hsz⟩:=okWide_struct Tryz.underlying26 hval;obtain⟨n,h⟩:=hd;obtain⟨xs,m,rfl,_,hl,hxl,hf⟩:=DataW.trod_struct Tryz.underlying26 h;rw[P8]at hl;obtain⟨cl⟩:=cs
 simp only[Value.cells]at hl hf
 match cl,hl with
 | [c0,c1,c2],_=>
  have f0:DataW.trod enc Tryz.prog w base (fun _=>true) held m 3 (([c0,c1,c2].drop 0).take (Tryz.prog.cellsOf 3))=xs[0]? :=hf 0 _ rfl;have f1:DataW.trod enc Tryz.prog w base (fun _=>true) held m 24 (([c0,c1,c2].drop 1).take (Tryz.prog.cellsOf 24))=xs[1]? :=hf 1 _ rfl;have f2:DataW.trod enc Tryz.prog w base (fun _=>true) held m 24 (([c0,c1,c2].drop 2).take (Tryz.prog.cellsOf 24))=xs[2]? :=hf 2 _ rfl;rw[Hq]at f1 f2;rw[nG]at f0;have hl3:xs.length=3:=hxl
  match xs,hl3 with
  | [x0,x1,x2],_=>
   obtain⟨N,hN,_,wN⟩:=DataW.trod_int Tryz.underlying3 f0;obtain⟨RA,hA,oA⟩:=open_row f1;obtain⟨RZ,hZ,oZ⟩:=open_row f2
   simp at hA hN hZ
   subst hA;subst hN;subst hZ
   have hb: -9223372036854775808≤N∧N≤9223372036854775807:=by
    simp[Lit.wf,IntKind.min,IntKind.max,IntKind.signed,IntKind.bits]at wN
    omega
   exact⟨N,RA.p,RA.n,RA.c,RA.xs,RZ.p,RZ.n,RZ.c,RZ.xs,rfl,hb.1,hb.2,oA.1,oZ.1,oA.2,oZ.2⟩
def paC (p:aS):List Value:= [.int .i64 p.ix, .int .i64 p.v, .slice p.A p.na p.ca, .int .i64 p.C, .slice p.Z p.nz p.cz]
theorem uQ (b o k:Nat)(spot:Option Nat)(h:spot=none):(⟨b,o,spot⟩:Addr).add k=⟨b,o+k,none⟩:=by
 subst h;unfold Addr.add
 split
 · rename_i h0;subst h0;rfl
 · rfl
end
theorem Hg {cl:List Value} :∀(k:Nat),(∀i,i<k→∃z:Int,(cl.drop i).take 1 = [.int .u8 z]∧0≤z∧z<256)→∃h:List Int,h.length=k∧cl.take k=h.map (.int .u8)∧aF h=true
 | 0,_=>⟨[],rfl,by simp,rfl⟩
 | k+1,hf=>by
  obtain⟨h,h1,h2,h3⟩:=Hg k (fun i hi=>hf i (by omega));obtain⟨z,hz,z0,z1⟩:=hf k (by omega);refine⟨h ++ [z],by simp[h1],by rw[List.take_add,h2,hz,List.map_append];rfl, ?_⟩;rw[dS,h3]
  simp[aF,z0,z1]
section
variable {H : Type} {enc : TypeId × Value → H} {w : World} {base : Nat} {held : Bool}
theorem Dz:Tryz.prog.cellsOf 41=32:=by kernel_rfl
end
end Go.Proofs.YtchcllcbknfikaaGreatDoor
namespace Go.Proofs.YtchcllcbknfikaaGreatDoor
open Go.RowKit sH
def Qr:Nat→(List Bool→Bool)→Bool
 | 0,p=>p []
 | n+1,p=>Qr n (fun l=>p (true::l))&&Qr n (fun l=>p (false::l))
theorem uP:∀ {n:Nat} {p:List Bool→Bool},Qr n p=true→∀l,l.length=n→p l=true
 | 0,p,h,l,hl=>by
  obtain rfl:l = []:=List.eq_nil_of_length_eq_zero hl;exact h
 | n+1,p,h,l,hl=>by
  cases l with
  | nil=>simp at hl
  | cons b l=>
   simp only[Qr,Bool.and_eq_true]at h
   cases b
   · exact uP h.2 l (by simpa using hl)
   · exact uP h.1 l (by simpa using hl)
def cntF (l:Array Bool):Nat:=l.toList.count false
theorem count_set {l:List Bool} :∀ {i:Nat},l[i]? = some false→(l.set i true).count false+1=l.count false:=by
 induction l with
 | nil=>intro i h;simp at h
 | cons b l ih=>
  intro i h
  cases i with
  | zero=>simp only[List.getElem?_cons_zero,Option.some.injEq]at h;subst h;simp
  | succ i=>
   have:=ih (i:=i) (by simpa using h);rw[List.set_cons_succ,List.count_cons,List.count_cons]
   omega
theorem He {l:Array Bool} {i:Nat} (h:l.getD i true=false):cntF (l.setIfInBounds i true)+1=cntF l:=by
 have h2:l.toList[i]? = some false:=by
  rcases Nat.lt_or_ge i l.size with h' | h'
  · simp[h']at h;simp[h',h]
  · simp[Array.getD,Nat.not_lt.2 h']at h
 rw[cntF,cntF,Array.toList_setIfInBounds];exact count_set h2
def Q_ (l0:Array Bool)(OP:List Nat)(bs:List Bool):Array Bool:=(OP.zip bs).foldl (fun a p=>a.setIfInBounds p.1 p.2) l0
def kJ (D N:List (List Nat))(bs:List Bool)(j:Nat):Bool:= !(bs.getD j true)&&((D.getD j []).all (fun d=>bs.getD d false)&&(N.getD j []).all (fun d=> !(bs.getD d true)))
def Sn (D:List (List Nat))(bs:List Bool):Bool:=(List.range bs.length).all fun j=> !(bs.getD j false) || (D.getD j []).all (fun d=>bs.getD d false)
def aaf (md:Region.Mode)(ops:Array Oper)(OP:List Nat)(D N:List (List Nat))(rest fuel:Nat)(l0 full:Array Bool):Bool:=
 Q_ l0 OP (List.replicate OP.length false) == l0&&(Q_ l0 OP (List.replicate OP.length true) == full&&(cntF full == rest&&(cntF l0 == fuel&&(Sn D (List.replicate OP.length false) &&
 Qr OP.length fun bs=> !(Sn D bs) || (bs == List.replicate OP.length true || (!(Region.ready md ops (Q_ l0 OP bs)).isEmpty&&(Region.ready md ops (Q_ l0 OP bs)).all fun i=>(List.range OP.length).any fun j=>
  OP[j]? == some i&&(kJ D N bs j&&(Sn D (bs.set j true)&&(Q_ l0 OP (bs.set j true) == (Q_ l0 OP bs).setIfInBounds i true)))))))))
section
variable {P : Program} {ops : Array Oper} {Q : Exit → Act → World → Prop} {md : Region.Mode} {S : World → Prop} {E : List Nat}
def stp (P:Program)(ops:Array Oper)(Q:Exit→Act→World→Prop)(S:World→Prop)(D N:List (List Nat))(I:List Bool→Act→World→Prop)(j i:Nat):Prop:=
 ∀bs a w,I bs a w→kJ D N bs j=true→∃o,ops[i]? = some o∧∀K':Act→World→Prop,Shut (∀a' w',S w'→I (bs.set j true) a' w'→K' a' w')→if Region.wanted o (yielded ops a.tmps)=true then Oper.wp P o a w K' Q else K' (a.put o.dst undef) w
def Vx (P:Program)(ops:Array Oper)(Q:Exit→Act→World→Prop)(S:World→Prop)(D N:List (List Nat))(I:List Bool→Act→World→Prop):Nat→List Nat→Prop
 | _, []=>True
 | j,i::l=>stp P ops Q S D N I j i∧Vx P ops Q S D N I (j+1) l
theorem FU {D N:List (List Nat)} {I:List Bool→Act→World→Prop} :∀ {l:List Nat} {k j i:Nat},Vx P ops Q S D N I k l→l[j]? = some i→stp P ops Q S D N I (k+j) i
 | [],_,_,_,_,h=>by simp at h
 | x::l,k,0,i,h,hj=>by
  simp only[List.getElem?_cons_zero,Option.some.injEq]at hj
  subst hj;exact h.1
 | x::l,k,j+1,i,h,hj=>by
  have:=FU (j:=j) (i:=i) h.2 (by simpa using hj);rw[show k+(j+1)=k+1+j by omega];exact this
theorem RG {fuel:Nat} {l0:Array Bool} {a0:Act} {w0:World} (OP:List Nat)(D N:List (List Nat))(rest:Nat)(full:Array Bool)(I:List Bool→Act→World→Prop)
  (h0:I (List.replicate OP.length false) a0 w0) (hfin:∀bs a w,bs.all (fun b=>b)=true→I bs a w→nI P md ops Q S E rest full a w) (hgo:Vx P ops Q S D N I 0 OP)
  (hck:aaf md ops OP D N rest fuel l0 full=true:=by kernel_rfl):nI P md ops Q S E fuel l0 a0 w0:=by
 simp only[aaf,Bool.and_eq_true,beq_iff_eq]at hck
 obtain⟨c1,c2,c3,c4,c5,c6⟩:=hck
 have main:∀(n:Nat) (bs:List Bool) (a:Act) (w:World),bs.length=OP.length→Sn D bs=true→I bs a w→cntF (Q_ l0 OP bs)=n→nI P md ops Q S E n (Q_ l0 OP bs) a w:=by
  intro n
  induction n with
  | zero=>
   intro bs a w hl hok hI hn;have h:=uP c6 bs hl
   simp only[hok,Bool.not_true,Bool.false_or,Bool.or_eq_true,beq_iff_eq,Bool.and_eq_true]at h
   rcases h with rfl | ⟨h1,h2⟩
   ·
    rw[c2]at hn ⊢;have:=hfin _ a w (by simp) hI;rw[←c3,hn]at this;exact this
   ·
    exfalso
    cases hr:Region.ready md ops (Q_ l0 OP bs)with
    | nil=>rw[hr]at h1;simp at h1
    | cons i l=>
     have hi:=(mem_ready.1 (show i∈Region.ready md ops (Q_ l0 OP bs) by rw[hr];simp)).1;have:=He hi
     omega
  | succ n ih=>
   intro bs a w hl hok hI hn;have h:=uP c6 bs hl
   simp only[hok,Bool.not_true,Bool.false_or,Bool.or_eq_true,beq_iff_eq,Bool.and_eq_true]at h
   rcases h with rfl | ⟨h1,h2⟩
   ·
    rw[c2]at hn ⊢;have:=hfin _ a w (by simp) hI;rw[←c3,hn]at this;exact this
   ·
    refine⟨fun e=>by rw[e]at h1;simp at h1,fun i hi=>?_⟩;have h3:=List.all_eq_true.1 h2 i hi;obtain⟨j,hj,h4⟩:=List.any_eq_true.1 h3
    simp only[Bool.and_eq_true,beq_iff_eq]at h4
    obtain⟨e1,e2,e3,e4⟩:=h4;have hs:=FU hgo e1;rw[Nat.zero_add]at hs;obtain⟨o,ho,hstep⟩:=hs bs a w hI e2;refine wpOp_step ho (fun K' hK=>hstep K' (fun a' w' hS hI'=>hK a' w' ⟨fun _=>hS, ?_⟩));rw[←e4];have hc:=He (mem_ready.1 hi).1;exact ih (bs.set j true) a' w' (by rw[List.length_set];exact hl) e3 hI' (by rw[e4];omega)
 have:=main fuel (List.replicate OP.length false) a0 w0 (by simp) c5 h0 (by rw[c1,c4]);rw[c1]at this;exact this
theorem tFr {fuel:Nat} {listed:Array Bool} {a:Act} {w:World} (h:∀a0:Act,a0=a→nI P md ops Q S E fuel listed a0 w):nI P md ops Q S E fuel listed a w:=h _ rfl
end
structure aG where
 num:Int
 rs:ByteArray
 E1:Int
 E2:Int
 A:Option Addr
 na:Nat
 ca:Nat
 al:List Int
 C:Int
 Z:Option Addr
 nz:Nat
 cz:Nat
 zs:List Int
 L:Option Addr
 np:Nat
 cp:Nat
 ps:List aS
 key:Int
abbrev dN:aG:=⟨0,⟨#[]⟩,0,0,none,0,0, [],0,none,0,0, [],none,0,0, [],0⟩
abbrev zD (o:aG):Value:= .agg #[.int .i64 o.num, .string o.rs, .int .i64 o.E1, .int .i64 o.E2, .slice o.A o.na o.ca, .int .i64 o.C, .slice o.Z o.nz o.cz, .slice o.L o.np o.cp, .int .i64 o.key]
abbrev l6 (o:aG):Obj:= .cells #[.int .i64 o.num, .string o.rs, .int .i64 o.E1, .int .i64 o.E2, .slice o.A o.na o.ca, .int .i64 o.C, .slice o.Z o.nz o.cz, .slice o.L o.np o.cp, .int .i64 o.key] 104
abbrev Gc (p:aS):Value:= .agg #[.int .i64 p.ix, .int .i64 p.v, .slice p.A p.na p.ca, .int .i64 p.C, .slice p.Z p.nz p.cz]
abbrev sM (p:aS):Obj:= .cells #[.int .i64 p.ix, .int .i64 p.v, .slice p.A p.na p.ca, .int .i64 p.C, .slice p.Z p.nz p.cz] 56
def dM (w:World)(o:aG):Prop:=o.al.length=o.na∧o.zs.length=o.nz∧(o.ps.length=o.np∧o.np≤o.cp)∧Sl w o.A o.al∧Sl w o.Z o.zs∧Pa w o.L o.ps
theorem dM.below {w w':World} {o:aG} (h:dM w o)(hb:Below w.heap.size w w'):dM w' o:=
 ⟨h.1,h.2.1,h.2.2.1,h.2.2.2.1.below hb,h.2.2.2.2.1.below hb,h.2.2.2.2.2.below hb⟩
def Qy (w:World)(b k:Nat)(o:aG):Prop:=w.cell? ⟨b,k,none⟩=some (.int .i64 o.num)∧w.cell? ⟨b,k+1,none⟩=some (.string o.rs)∧w.cell? ⟨b,k+2,none⟩=some (.int .i64 o.E1)∧w.cell? ⟨b,k+3,none⟩=some (.int .i64 o.E2)∧w.cell? ⟨b,k+4,none⟩=some (.slice o.A o.na o.ca)∧w.cell? ⟨b,k+5,none⟩=some (.int .i64 o.C)∧w.cell? ⟨b,k+6,none⟩=some (.slice o.Z o.nz o.cz)∧w.cell? ⟨b,k+7,none⟩=some (.slice o.L o.np o.cp)∧w.cell? ⟨b,k+8,none⟩=some (.int .i64 o.key)
theorem Qy.below {w w':World} {b k:Nat} {o:aG} (h:Qy w b k o)(hb:Below w.heap.size w w'):Qy w' b k o:=by
 obtain⟨h0,h1,h2,h3,h4,h5,h6,h7,h8⟩:=h;exact⟨cell_below h0 hb,cell_below h1 hb,cell_below h2 hb,cell_below h3 hb,cell_below h4 hb,cell_below h5 hb,cell_below h6 hb,cell_below h7 hb,cell_below h8 hb⟩
def Os (w:World)(O:Option Addr)(os:List aG):Prop:=∀k,k<os.length→∃b o,O=some ⟨b,o,none⟩∧Qy w b (o+k*9) (os.getD k dN)∧dM w (os.getD k dN)
theorem Os.below {w w':World} {O:Option Addr} {os:List aG} (h:Os w O os)(hb:Below w.heap.size w w'):Os w' O os:=fun k hk=>by
 obtain⟨b,o,h1,h2,h3⟩:=h k hk;exact⟨b,o,h1,h2.below hb,h3.below hb⟩
def wO (na nz:Nat):Bool:=decide (na≤20)&&decide (nz≤20)
def LK (s:ByteArray):Bool:=decide (1≤s.size)&&decide (s.size≤200)
def EC (ps:List aS)(x:Int):Nat→Bool
 | 0=>true
 | k+1=>EC ps x k&&((ps.getD k aC).ix != x)
def xA (ps:List aS)(k:Nat):Bool:=decide (1≤(ps.getD k aC).ix)&&(decide ((ps.getD k aC).ix≤8)&&(EC ps (ps.getD k aC).ix k&&wO (ps.getD k aC).na (ps.getD k aC).nz))
def mo (ps:List aS):Nat→Bool
 | 0=>true
 | k+1=>mo ps k&&xA ps k
def Cw (o:aG):Bool:=decide (0≤o.num)&&(decide (o.num<100)&&(LK o.rs&&(wO o.na o.nz&&(decide (o.np≤8)&&(decide (0≤o.key)&&mo o.ps o.np)))))
theorem Dc {ps:List aS} {k:Nat} (h:mo ps k=false):∀m,k≤m→mo ps m=false
  | 0, hm => by obtain rfl : k = 0 := by omega
                exact h
  | m+1,hm=>by
    by_cases e:k=m+1
    · rw[←e];exact h
    · rw[mo,Dc h m (by omega)];rfl
theorem ng {ps:List aS} {k m:Nat} (h:xA ps k=false)(hk:k<m):mo ps m=false:=Dc (k:=k+1) (by rw[mo,h,Bool.and_false]) m (by omega)
def Ib (ps:List aS)(x r:Int):Prop:=(r = -1∧EC ps x ps.length=true)∨∃k:Nat,k<ps.length∧r=(k:Int)∧(ps.getD k aC).ix=x∧EC ps x k=true
theorem uL {ps:List aS} {x:Int} :∀ {k:Nat},EC ps x k=true→∀j,j<k→(ps.getD j aC).ix≠x
 | 0,_,j,hj=>absurd hj (by omega)
 | k+1,h,j,hj=>by
  simp only[EC,Bool.and_eq_true,bne_iff_ne,ne_eq]at h
  by_cases e:j=k
  · subst e;exact h.2
  · exact uL h.1 j (by omega)
theorem PK {ps:List aS} {x:Int} :∀ {k:Nat},EC ps x k=false→∃j,j<k∧(ps.getD j aC).ix=x
 | 0,h=>by cases h
 | k+1,h=>by
  cases h1:EC ps x k with
  | false=>obtain⟨j,hj,e⟩:=PK h1;exact⟨j,by omega,e⟩
  | true=>
   rw[EC,h1,Bool.true_and]at h;exact⟨k,by omega,by simpa using h⟩
theorem JC {ps:List aS} {k:Nat} {x r:Int} {b:Bool} (hk:k<ps.length)(hx:(ps.getD k aC).ix=x)(h:Ib ps x r)(hb:EC ps x k=b):(r != (k:Int)) = !b:=by
 rcases h with⟨rfl,h⟩ | ⟨j,hj,rfl,h1,h2⟩
 · exact absurd hx (uL h k hk)
 ·
  cases b with
  | true=>
   have h3:¬j<k:=fun hlt=>uL hb j hlt h1;have h4:¬k<j:=fun hlt=>uL h2 k hlt hx;have:j=k:=by omega
   subst this
   simp
  | false=>
   obtain⟨i,hi,he⟩:=PK hb;have h3:¬i<j:=fun hlt=>uL h2 i hlt he
   simp;omega
theorem iw (A:Option Addr)(na ca:Nat)(C:Int)(Z:Option Addr)(nz cz:Nat)(r:Bool)(hr:Hid (wO na nz=r))(w:World) :
  Calls Tryz.prog 119 #[jL A na ca C Z nz cz] w (Rt w (.bool r)):=by
 have HX:=af w (fU A na ca C Z nz cz);have hr1:=hr.out;unfold wO at hr1
 by_cases h0:na≤20
 ·
  have d0:decide ((na:Int)≤20)=true:=by simp;omega
  by_cases h1:nz≤20
  ·
   have d1:decide ((nz:Int)≤20)=true:=by simp;omega
   obtain rfl:r=true:=by rw[←hr1];simp;omega
   clear hr1 hr;go_in;go_wp2;go_ret;exact⟨rfl,HX⟩
  ·
   have d1:decide ((nz:Int)≤20)=false:=by simp;omega
   obtain rfl:r=false:=by rw[←hr1];simp;omega
   clear hr1 hr;go_in;go_wp2;go_ret;exact⟨rfl,HX⟩
 ·
  have d0:decide ((na:Int)≤20)=false:=by simp;omega
  obtain rfl:r=false:=by rw[←hr1];simp;omega
  clear hr1 hr;go_in;go_wp2;go_ret;exact⟨rfl,HX⟩
theorem kM (s:ByteArray)(r:Bool)(hr:Hid (LK s=r))(w:World) :
  Calls Tryz.prog 118 #[.string s] w fun e' w'=>e' = .returned (.bool r)∧w'=w:=by
 have hr1:=hr.out;unfold LK at hr1
 by_cases h0:1≤s.size
 ·
  have d0:decide ((1:Int)≤(s.size:Int))=true:=by simp;omega
  by_cases h1:s.size≤200
  ·
   have d1:decide ((s.size:Int)≤200)=true:=by simp;omega
   obtain rfl:r=true:=by rw[←hr1];simp;omega
   clear hr1 hr;go_in;go_wp2;go_ret;exact⟨rfl,rfl⟩
  ·
   have d1:decide ((s.size:Int)≤200)=false:=by simp;omega
   obtain rfl:r=false:=by rw[←hr1];simp;omega
   clear hr1 hr;go_in;go_wp2;go_ret;exact⟨rfl,rfl⟩
 ·
  have d0:decide ((1:Int)≤(s.size:Int))=false:=by simp;omega
  obtain rfl:r=false:=by rw[←hr1];simp;omega
  clear hr1 hr;go_in;go_wp2;go_ret;exact⟨rfl,rfl⟩
theorem Dp (p:aS)(a:Nat)(x:Int)(r:Bool)(hr:Hid ((p.ix == x)=r))(w:World)(hx:Hid (w.cell? ⟨a,0,none⟩=some (.int .i64 x))) :
  Calls Tryz.prog 125 #[Gc p, .pointer (some ⟨a,0,none⟩)] w (Rt w (.bool r)):=by
 have hb:=af w (sM p);have c0:=cell_below hx.out hb;have d0:=hr.out;clear hx;go_in;go_wp2;go_ret;exact⟨by first | rfl | rw[d0],hb⟩
theorem O3 (a:Nat)(x:Int)(L:Option Addr)(ps:List aS)(n c:Nat)(hn:Hid (ps.length=n))(hbig:n<1000000)(w:World)(hs:Hid (Pa w L ps))(hx:Hid (w.cell? ⟨a,0,none⟩=some (.int .i64 x))) :
  Calls Tryz.prog 124 #[.slice L n c, .func (.func 125) #[] #[.pointer (some ⟨a,0,none⟩)]] w fun e w'=>∃i:Int,e = .returned (.int .i64 i)∧Ib ps x i∧Below w.heap.size w w':=by
 go_in;go_wp2
 go_loopw [8] (fun i wr=>∃k:Nat,k≤n∧i = .int .i64 k∧Hid (EC ps x k=true)∧Hid (Below w.heap.size w wr)) (fun i _=>n-(intOf i).toNat)
 case atStart=>exact⟨0,by omega,rfl,aa rfl,aa (Below.refl _ _)⟩
 case round=>
  obtain⟨k,hk,rfl,HR,aD⟩:=hrel
  by_cases hlt:k<n
  ·
   have hkl:k<ps.length:=by rw[hn.out];exact hlt
   obtain⟨b,o,hA,i0,i1,i2,i3,i4,_⟩:=(hs.out.below aD.out) k hkl;subst hA;have HXr:Hid (wr.cell? ⟨a,0,none⟩=some (.int .i64 x)):=aa (cell_below hx.out aD.out)
   cases hpx:((ps.getD k aC).ix == x)with
   | false=>
    have HN:Hid (EC ps x (k+1)=true):=aa (by rw[EC,HR.out,bne,hpx];rfl);obtain⟨p,hp⟩:∃p,ps.getD k aC=p:=⟨_,rfl⟩;rw[hp]at i0 i1 i2 i3 i4 hpx;have BX:=aa hpx;clear hp hkl hpx HR
    go_wp2_with fail
    refine(Dp p a x false BX wr HXr).mono ?_;rintro e w2 ⟨rfl,hb0⟩;have HB2:=aa (ag aD.out hb0);clear hb0 aD i0 i1 i2 i3 i4;go_wp2
    go_roundw
    case rel=>exact⟨k+1,by omega,by go_num,HN,HB2⟩
    case measure=>simp[intOf];omega
   | true=>
    have HN:Hid (Ib ps x (k:Int)):=aa (.inr ⟨k,hkl,rfl,by simpa using hpx,HR.out⟩);obtain⟨p,hp⟩:∃p,ps.getD k aC=p:=⟨_,rfl⟩;rw[hp]at i0 i1 i2 i3 i4 hpx;have BX:=aa hpx;clear hp hkl hpx HR
    go_wp2_with fail
    refine(Dp p a x true BX wr HXr).mono ?_;rintro e w2 ⟨rfl,hb0⟩;have HB2:=aa (ag aD.out hb0);clear hb0 aD i0 i1 i2 i3 i4;go_wp2;go_ret;exact⟨k,rfl,HN.out,HB2.out⟩
  ·
   obtain rfl:k=n:=by omega
   have HN:Hid (Ib ps x (-1)):=aa (.inl ⟨rfl,by rw[hn.out];exact HR.out⟩);clear HR;go_wp2;go_ret;exact⟨-1,rfl,HN.out,aD.out⟩
theorem BD (L:Option Addr)(ps:List aS)(n c:Nat)(x:Int)(hn:Hid (ps.length=n))(hbig:n<1000000)(w:World)(hs:Hid (Pa w L ps)) :
  Calls Tryz.prog 73 #[.slice L n c, .int .i64 x] w fun e w'=>∃i:Int,e = .returned (.int .i64 i)∧Ib ps x i∧Below w.heap.size w w':=by
 have hb:=af w (.cells #[.int .i64 x] 3);have HXc:Hid ((w.alloc (.cells #[.int .i64 x] 3)).cell? ⟨w.heap.size,0,none⟩=some (.int .i64 x)):=aa (au (heap_alloc_new _ _) 0);have HP:=aa (hs.out.below hb);have HB:=aa hb;clear hb;go_in
 go_wp2_with fail
 refine(O3 w.heap.size x L ps n c hn hbig _ HP HXc).mono ?_;rintro e w2 ⟨i,rfl,hi,hb0⟩;have HI:=aa hi;have HB2:=aa (ag HB.out hb0);clear hi hb0;go_wp2;go_ret;exact⟨i,rfl,HI.out,HB2.out⟩
theorem Z_ (o:aG)(h:o.num<0)(w:World) :
  Calls Tryz.prog 122 #[zD o] w (Rt w (.bool false)):=by
 have K4:decide (o.num<0)=true:=by simp;omega
 obtain⟨w0,HW,ai,kC⟩:=st1 (l6 o) zq w;have ah:=bI w0;go_in
 go_upto_region 1 with(fail)
 rw[HW.out];have zc:=kC.out _ ah;go_wp2;go_ret;exact⟨rfl,f_ ai ah⟩
theorem Z9 (o:aG)(h1:0≤o.num)(h:100≤o.num)(w:World) :
  Calls Tryz.prog 122 #[zD o] w (Rt w (.bool false)):=by
 have K4:decide (o.num<0)=false:=by simp;omega
 have Iz:decide ((100:Int)≤o.num)=true:=by simp;omega
 obtain⟨w0,HW,ai,kC⟩:=st1 (l6 o) zq w;have ah:=bI w0;go_in
 go_upto_region 1 with(fail)
 rw[HW.out];have zc:=kC.out _ ah;go_wp2;go_ret;exact⟨rfl,f_ ai ah⟩
theorem Z8 (o:aG)(h1:0≤o.num)(h2:o.num<100)(hrs:Hid (LK o.rs=false))(w:World) :
  Calls Tryz.prog 122 #[zD o] w (Rt w (.bool false)):=by
 have K4:decide (o.num<0)=false:=by simp;omega
 have Iz:decide ((100:Int)≤o.num)=false:=by simp;omega
 obtain⟨w0,HW,ai,kC⟩:=st1 (l6 o) zq w;have ah:=bI w0;go_in
 go_upto_region 1 with(fail)
 rw[HW.out];have zc:=kC.out _ ah
 go_wp2_with fail
 refine(kM o.rs false hrs _).mono ?_;rintro e9 w9 ⟨rfl,xP⟩;rw[xP];clear xP;go_wp2;go_ret;exact⟨rfl,f_ ai ah⟩
theorem Z7 (o:aG)(h1:0≤o.num)(h2:o.num<100)(hrs:Hid (LK o.rs=true))(hsh:Hid (wO o.na o.nz=false))(w:World) :
  Calls Tryz.prog 122 #[zD o] w (Rt w (.bool false)):=by
 have K4:decide (o.num<0)=false:=by simp;omega
 have Iz:decide ((100:Int)≤o.num)=false:=by simp;omega
 obtain⟨w0,HW,ai,kC⟩:=st1 (l6 o) zq w;have ah:=bI w0;go_in
 go_upto_region 1 with(fail)
 rw[HW.out];have zc:=kC.out _ ah
 go_wp2_with fail
 refine(kM o.rs true hrs _).mono ?_;rintro e9 w9 ⟨rfl,xP⟩;rw[xP];clear xP
 go_wp2_with fail
 clear zc;refine fe kC ah (iw o.A o.na o.ca o.C o.Z o.nz o.cz false hsh _) fun w1 ax zc=>?_;go_wp2;go_ret;exact⟨rfl,f_ ai ax⟩
theorem Z6 (o:aG)(h1:0≤o.num)(h2:o.num<100)(hrs:Hid (LK o.rs=true))(hsh:Hid (wO o.na o.nz=true))(h3:¬o.np≤8)(w:World) :
  Calls Tryz.prog 122 #[zD o] w (Rt w (.bool false)):=by
 have K4:decide (o.num<0)=false:=by simp;omega
 have Iz:decide ((100:Int)≤o.num)=false:=by simp;omega
 have dp8:decide ((8:Int)<(o.np:Int))=true:=by simp;omega
 obtain⟨w0,HW,ai,kC⟩:=st1 (l6 o) zq w;have ah:=bI w0;go_in
 go_upto_region 1 with(fail)
 rw[HW.out];have zc:=kC.out _ ah
 go_wp2_with fail
 refine(kM o.rs true hrs _).mono ?_;rintro e9 w9 ⟨rfl,xP⟩;rw[xP];clear xP
 go_wp2_with fail
 clear zc;refine fe kC ah (iw o.A o.na o.ca o.C o.Z o.nz o.cz true hsh _) fun w1 ax zc=>?_;go_wp2;go_ret;exact⟨rfl,f_ ai ax⟩
theorem Z5 (o:aG)(h1:0≤o.num)(h2:o.num<100)(hrs:Hid (LK o.rs=true))(hsh:Hid (wO o.na o.nz=true))(h3:o.np≤8)(h4:¬0≤o.key)(w:World) :
  Calls Tryz.prog 122 #[zD o] w (Rt w (.bool false)):=by
 have K4:decide (o.num<0)=false:=by simp;omega
 have Iz:decide ((100:Int)≤o.num)=false:=by simp;omega
 have dp8:decide ((8:Int)<(o.np:Int))=false:=by simp;omega
 have dk0:decide (o.key<0)=true:=by simp;omega
 obtain⟨w0,HW,ai,kC⟩:=st1 (l6 o) zq w;have ah:=bI w0;go_in
 go_upto_region 1 with(fail)
 rw[HW.out];have zc:=kC.out _ ah
 go_wp2_with fail
 refine(kM o.rs true hrs _).mono ?_;rintro e9 w9 ⟨rfl,xP⟩;rw[xP];clear xP
 go_wp2_with fail
 clear zc;refine fe kC ah (iw o.A o.na o.ca o.C o.Z o.nz o.cz true hsh _) fun w1 ax zc=>?_;go_wp2;go_ret;exact⟨rfl,f_ ai ax⟩
theorem Z4 (o:aG)(h1:0≤o.num)(h2:o.num<100)(hrs:Hid (LK o.rs=true))(hsh:Hid (wO o.na o.nz=true))(h3:o.np≤8)(h4:0≤o.key)(w:World)(ho:Hid (dM w o)) :
  Calls Tryz.prog 122 #[zD o] w (Rt w (.bool (mo o.ps o.np))):=by
 have K4:decide (o.num<0)=false:=by simp;omega
 have Iz:decide ((100:Int)≤o.num)=false:=by simp;omega
 have dp8:decide ((8:Int)<(o.np:Int))=false:=by simp;omega
 have dk0:decide (o.key<0)=false:=by simp;omega
 obtain⟨w0,HW,ai,kC⟩:=st1 (l6 o) zq w;have kO:=fo (fun u=>dM u o) ai ho (·.below);have ah:=bI w0;clear ho;go_in
 go_upto_region 1 with(fail)
 rw[HW.out];have zc:=kC.out _ ah
 go_wp2_with fail
 refine(kM o.rs true hrs _).mono ?_;rintro e9 w9 ⟨rfl,xP⟩;rw[xP];clear xP
 go_wp2_with fail
 clear zc;refine fe kC ah (iw o.A o.na o.ca o.C o.Z o.nz o.cz true hsh _) fun w1 ax zc=>?_;go_wp2;clear zc
 go_loopw [40] (fun i wr=>∃k:Nat,k≤o.np∧i = .int .i64 k∧Hid (mo o.ps k=true)∧Hid (Below w0.heap.size w0 wr)) (fun i _=>o.np-(intOf i).toNat)
 case atStart=>exact⟨0,by omega,rfl,aa rfl,ax⟩
 case round=>
  obtain⟨k,hk,rfl,HR,aD⟩:=hrel
  by_cases hlt:k<o.np
  ·
   obtain⟨ok1,Me,⟨Md,UG⟩,UI,UH,Mc⟩:=(kO.out _ aD).out;have hkl:k<o.ps.length:=by rw[Md];exact hlt
   obtain⟨b,f,hA,j0,j1,j2,j3,j4,j5⟩:=Mc k hkl;clear j5;have Ar:=aa hA;have Ih:=aa Mc;have qi:=aa Md;clear ok1 Me UI UH Mc UG;obtain⟨p,hp⟩:∃p,o.ps.getD k aC=p:=⟨_,rfl⟩;have oI:=aa hp;rw[hp]at j0 j1 j2 j3 j4;clear hp Md hA;rw[Ar.out]
   by_cases hx0:p.ix<1
   ·
    have HF:Hid (mo o.ps o.np=false):=aa (ng (k:=k) (by rw[xA,oI.out];simp;omega) hlt);have Y6:decide (p.ix<1)=true:=by simp;omega
    have hq:=af wr (sM p);obtain⟨q0,q1,q2,q3,q4⟩:(wr.alloc (sM p)).cell? ⟨wr.heap.size,0,none⟩=some (.int .i64 p.ix)∧(wr.alloc (sM p)).cell? ⟨wr.heap.size,1,none⟩=some (.int .i64 p.v)∧(wr.alloc (sM p)).cell? ⟨wr.heap.size,2,none⟩=some (.slice p.A p.na p.ca)∧(wr.alloc (sM p)).cell? ⟨wr.heap.size,3,none⟩=some (.int .i64 p.C)∧(wr.alloc (sM p)).cell? ⟨wr.heap.size,4,none⟩=some (.slice p.Z p.nz p.cz):=⟨dx rfl (by rfl),dx rfl (by rfl),dx rfl (by rfl),dx rfl (by rfl),dx rfl (by rfl)⟩;have bT:=ag ai.out (ag aD.out hq);obtain⟨yw,yu,za,y_,Ct,EZ,EY,AB,IK⟩:=kC.out _ aD;rw[Ar.out]at AB;clear yw yu za y_ Ct EZ EY AB IK;go_wp2;go_ret;exact⟨(by rw[HF.out];try rfl),bT⟩
   ·
    have Y6:decide (p.ix<1)=false:=by simp;omega
    by_cases hx1:8<p.ix
    ·
     have HF:Hid (mo o.ps o.np=false):=aa (ng (k:=k) (by rw[xA,oI.out];simp;omega) hlt);have dx1:decide ((8:Int)<p.ix)=true:=by simp;omega
     have hq:=af wr (sM p);obtain⟨q0,q1,q2,q3,q4⟩:(wr.alloc (sM p)).cell? ⟨wr.heap.size,0,none⟩=some (.int .i64 p.ix)∧(wr.alloc (sM p)).cell? ⟨wr.heap.size,1,none⟩=some (.int .i64 p.v)∧(wr.alloc (sM p)).cell? ⟨wr.heap.size,2,none⟩=some (.slice p.A p.na p.ca)∧(wr.alloc (sM p)).cell? ⟨wr.heap.size,3,none⟩=some (.int .i64 p.C)∧(wr.alloc (sM p)).cell? ⟨wr.heap.size,4,none⟩=some (.slice p.Z p.nz p.cz):=⟨dx rfl (by rfl),dx rfl (by rfl),dx rfl (by rfl),dx rfl (by rfl),dx rfl (by rfl)⟩;have bT:=ag ai.out (ag aD.out hq);obtain⟨yw,yu,za,y_,Ct,EZ,EY,AB,IK⟩:=kC.out _ aD;rw[Ar.out]at AB;clear yw yu za y_ Ct EZ EY AB IK;go_wp2;go_ret;exact⟨(by rw[HF.out];try rfl),bT⟩
    ·
     have dx1:decide ((8:Int)<p.ix)=false:=by simp;omega
     cases hfr:EC o.ps p.ix k with
     | true=>
      cases hss:wO p.na p.nz with
      | true=>
       have HS:Hid (mo o.ps (k+1)=true):=aa (by rw[mo,HR.out,xA,oI.out];simp[hfr,hss];omega);have QX:=aa hfr;have Fp:=aa hss;clear hfr hss HR;have Um:=aa hkl;clear hkl;have eZ:=bI wr;have kP:=nQ (w:=wr) (fun u=>Pa u o.L o.ps) Ih.out (·.below);have zc:=kC.out _ aD;obtain⟨w2,hw,lW,yV,-,kS⟩:=pO (sM p) vF wr;have az:=iW aD lW;have bM:=iW eZ lW;have aM:=bI w2;clear lW;have pK:=kC.out _ az;have l_:=kS.out _ aM
       go_wp2_with fail
       clear zc pK l_ hw;have zc:=kC.out _ az;have jW:=kS.out _ aM;clear j0 j1 j2 j3 j4;clear zc jW;have zc:=kC.out _ az;have jW:=kS.out _ aM
       go_wp2_with fail
       refine(BD o.L o.ps o.np o.cp p.ix qi (by omega) _ (kP.out _ bM)).mono ?_;rintro e w3 ⟨ri,rfl,UM,hb0⟩;have hne:(ri != (k:Int))=false:=JC Um.out (by rw[oI.out]) UM QX.out;clear UM;have aW:=bJ az hb0;have cK:=bJ bM hb0;have eG:=bJ aM hb0;clear zc jW hb0;have zc:=kC.out _ aW;have jW:=kS.out _ eG
       go_wp2_with fail
       clear zc jW;refine um aW cK eG (iw p.A p.na p.ca p.C p.Z p.nz p.cz true Fp _) fun w4 bE fA jm=>?_;have zc:=kC.out _ bE;have jW:=kS.out _ jm;go_wp2
       go_roundw
       case rel=>exact⟨k+1,by omega,by go_num,HS,bE⟩
       case measure=>simp[intOf];omega
      | false=>
       have HF:Hid (mo o.ps o.np=false):=aa (ng (k:=k) (by rw[xA,oI.out];simp[hss]) hlt);have QX:=aa hfr;have Fp:=aa hss;clear hfr hss HR;have Um:=aa hkl;clear hkl;have eZ:=bI wr;have kP:=nQ (w:=wr) (fun u=>Pa u o.L o.ps) Ih.out (·.below);have zc:=kC.out _ aD;obtain⟨w2,hw,lW,yV,-,kS⟩:=pO (sM p) vF wr;have az:=iW aD lW;have bM:=iW eZ lW;have aM:=bI w2;clear lW;have pK:=kC.out _ az;have l_:=kS.out _ aM
       go_wp2_with fail
       clear zc pK l_ hw;have zc:=kC.out _ az;have jW:=kS.out _ aM;clear j0 j1 j2 j3 j4;clear zc jW;have zc:=kC.out _ az;have jW:=kS.out _ aM
       go_wp2_with fail
       refine(BD o.L o.ps o.np o.cp p.ix qi (by omega) _ (kP.out _ bM)).mono ?_;rintro e w3 ⟨ri,rfl,UM,hb0⟩;have hne:(ri != (k:Int))=false:=JC Um.out (by rw[oI.out]) UM QX.out;clear UM;have aW:=bJ az hb0;have cK:=bJ bM hb0;have eG:=bJ aM hb0;clear zc jW hb0;have zc:=kC.out _ aW;have jW:=kS.out _ eG
       go_wp2_with fail
       clear zc jW;refine um aW cK eG (iw p.A p.na p.ca p.C p.Z p.nz p.cz false Fp _) fun w4 bE fA jm=>?_;have zc:=kC.out _ bE;have jW:=kS.out _ jm;have bT:=ag ai.out bE.out;go_wp2;go_ret;exact⟨(by rw[HF.out];try rfl),bT⟩
     | false=>
      have HF:Hid (mo o.ps o.np=false):=aa (ng (k:=k) (by rw[xA,oI.out];simp[hfr]) hlt);have QX:=aa hfr;clear hfr HR;have Um:=aa hkl;clear hkl;have eZ:=bI wr;have kP:=nQ (w:=wr) (fun u=>Pa u o.L o.ps) Ih.out (·.below);have zc:=kC.out _ aD;obtain⟨w2,hw,lW,yV,-,kS⟩:=pO (sM p) vF wr;have az:=iW aD lW;have bM:=iW eZ lW;have aM:=bI w2;clear lW;have pK:=kC.out _ az;have l_:=kS.out _ aM
      go_wp2_with fail
      clear zc pK l_ hw;have zc:=kC.out _ az;have jW:=kS.out _ aM;clear j0 j1 j2 j3 j4;clear zc jW;have zc:=kC.out _ az;have jW:=kS.out _ aM
      go_wp2_with fail
      refine(BD o.L o.ps o.np o.cp p.ix qi (by omega) _ (kP.out _ bM)).mono ?_;rintro e w3 ⟨ri,rfl,UM,hb0⟩;have hne:(ri != (k:Int))=true:=JC Um.out (by rw[oI.out]) UM QX.out;clear UM;have aW:=bJ az hb0;have cK:=bJ bM hb0;have eG:=bJ aM hb0;clear zc jW hb0;have zc:=kC.out _ aW;have jW:=kS.out _ eG;have bT:=ag ai.out aW.out;go_wp2;go_ret;exact⟨(by rw[HF.out];try rfl),bT⟩
  ·
   have hke:k=o.np:=by omega
   have HF:Hid (mo o.ps o.np=true):=aa (by rw[←hke];exact HR.out);have bT:=ag ai.out aD.out;rw[hke];go_wp2;go_ret;exact⟨(by rw[HF.out];try rfl),bT⟩
theorem Ma (o:aG)(r:Bool)(hr:Hid (Cw o=r))(w:World)(ho:Hid (dM w o)) :
  Calls Tryz.prog 122 #[zD o] w (Rt w (.bool r)):=by
 rw[←hr.out];unfold Cw
 by_cases h1:0≤o.num
 ·
  rw[decide_eq_true h1,Bool.true_and]
  by_cases h2:o.num<100
  ·
   rw[decide_eq_true h2,Bool.true_and]
   cases hrs:LK o.rs with
   | false=>exact Z8 o h1 h2 (aa hrs) w
   | true=>
    cases hsh:wO o.na o.nz with
    | false=>exact Z7 o h1 h2 (aa hrs) (aa hsh) w
    | true=>
     by_cases h3:o.np≤8
     ·
      rw[decide_eq_true h3]
      by_cases h4:0≤o.key
      ·
       rw[decide_eq_true h4];exact Z4 o h1 h2 (aa hrs) (aa hsh) h3 h4 w ho
      ·
       rw[decide_eq_false h4];exact Z5 o h1 h2 (aa hrs) (aa hsh) h3 h4 w
     ·
      rw[decide_eq_false h3];exact Z6 o h1 h2 (aa hrs) (aa hsh) h3 w
  ·
   rw[decide_eq_false h2];exact Z9 o h1 (by omega) w
 ·
  rw[decide_eq_false h1];exact Z_ o (by omega) w
def Ci (p:aS):It:= .lst [.lst ([p.ix,p.v].map .int), .lst (p.al.map .int), .int p.C, .lst (p.zs.map .int)]
def M8 (E1 E2:Int)(al:List Int)(C:Int)(zs:List Int):It:= .lst [.lst ([E1,E2].map .int), .lst (al.map .int), .int C, .lst (zs.map .int)]
def xJ (o:aG):It:= .lst [.int o.num, .byt (bq o.rs),M8 o.E1 o.E2 o.al o.C o.zs, .lst (o.ps.map Ci), .int o.key]
def i64 (x:Int):Prop:= -9223372036854775808≤x∧x<9223372036854775808
def BS (p:aS):Prop:=i64 p.ix∧i64 p.v∧i64 p.C∧(∀x∈p.al,i64 x)∧∀x∈p.zs,i64 x
def dD (o:aG):Prop:=i64 o.num∧i64 o.E1∧i64 o.E2∧i64 o.C∧i64 o.key∧(∀x∈o.al,i64 x)∧(∀x∈o.zs,i64 x)∧∀p∈o.ps,BS p
theorem EE {l:List Int} (h:∀x∈l,i64 x)(hl:l.length≤1000):fits 1 (.lst (l.map .int)):=
 ⟨by rw[List.length_map];exact hl,fun x hx=>by obtain⟨n,hn,rfl⟩:=List.mem_map.1 hx;exact h n hn⟩
theorem PM {E1 E2 C:Int} {al zs:List Int} (h1:i64 E1)(h2:i64 E2)(h3:i64 C)(h4:∀x∈al,i64 x)(h5:∀x∈zs,i64 x)(la:al.length≤1000)(lz:zs.length≤1000):fits 2 (M8 E1 E2 al C zs):=by
 refine⟨by simp,fun x hx=>?_⟩
 simp only[List.mem_cons,List.not_mem_nil,or_false]at hx
 rcases hx with rfl | rfl | rfl | rfl
 · exact EE (by intro x hx;simp at hx;rcases hx with rfl | rfl <;> assumption) (by simp)
 · exact EE h4 la
 · exact h3
 · exact EE h5 lz
theorem TG (l:List Int):(gz (l.map .int)).length=9*l.length:=by
 induction l with
 | nil=>rfl
 | cons a t ih=>
  rw[List.map_cons,show It.int a::t.map .int = [It.int a]++t.map .int from rfl,xU,G5,List.length_append,ih,og,List.length_cons]
  simp[g_]
  omega
theorem Xu (l:List Int):(enc (.lst (l.map .int))).length=5+9*l.length:=by
 rw[fV];simp[eX,TG];omega
theorem qQ (a:It)(t:List It):(gz (a::t)).length=(enc a).length+(gz t).length:=by
 rw[show a::t = [a]++t from rfl,xU,G5,List.length_append]
theorem U1 (E1 E2 C:Int)(al zs:List Int):(enc (M8 E1 E2 al C zs)).length=47+9*al.length+9*zs.length:=by
 rw[M8,fV]
 simp only[List.length_cons,List.length_append,eX,qQ,Xu,og,g_,List.length_nil,show(gz []).length=0 from rfl]
 omega
theorem TF {ps:List aS} (h:∀p∈ps,p.al.length≤20∧p.zs.length≤20):(gz (ps.map Ci)).length≤407*ps.length:=by
 induction ps with
 | nil=>exact Nat.le_refl _
 | cons p t ih=>
  rw[List.map_cons,qQ,List.length_cons];have h1:=ih fun q hq=>h q (List.mem_cons_of_mem _ hq);have h2:=h p (List.mem_cons_self ..);have h3:(enc (Ci p)).length=47+9*p.al.length+9*p.zs.length:=U1 _ _ _ _ _
  omega
structure fE (o:aG):Prop where
 a:o.al.length≤20
 z:o.zs.length≤20
 n:o.ps.length≤8
 p:∀p∈o.ps,p.al.length≤20∧p.zs.length≤20
 r0:1≤o.rs.size
 r1:o.rs.size≤200
theorem JF {o:aG} (h:dD o)(hs:fE o):fits 4 (xJ o):=by
 obtain⟨h1,h2,h3,h4,h5,h6,h7,h8⟩:=h;refine⟨by simp,fun x hx=>?_⟩
 simp only[List.mem_cons,List.not_mem_nil,or_false]at hx
 rcases hx with rfl | rfl | rfl | rfl | rfl
 · exact h1
 · exact⟨⟨by rw[bP];exact hs.r0,by rw[bP];have:=hs.r1;omega⟩,jN _⟩
 · exact qN (PM h2 h3 h4 h6 h7 (by have:=hs.a;omega) (by have:=hs.z;omega)) (by decide)
 ·
  refine⟨by rw[List.length_map];have:=hs.n;omega,fun x hx=>?_⟩;obtain⟨p,hp,rfl⟩:=List.mem_map.1 hx;obtain⟨p1,p2,p3,p4,p5⟩:=h8 p hp;obtain⟨s1,s2⟩:=hs.p p hp;exact PM p1 p2 p3 p4 p5 (by omega) (by omega)
 · exact h5
theorem UZ {o:aG} (hs:fE o):(enc (xJ o)).length≤4000:=by
 have h1:=TF hs.p;have h2:=hs.n;have h3:=hs.a;have h4:=hs.z;have h5:=hs.r1;rw[xJ,fV]
 simp only[List.length_cons,List.length_append,eX,qQ,U1,og,jh,fV,g_,List.length_nil,show(gz []).length=0 from rfl,bP]
 omega
theorem SL (L:Option Addr)(c:Nat) {w:World} :pV w (.lst []) ⟨3,0,none,0,0,L,0,c⟩:=
 .lst [] _ rfl rfl rfl rfl (fun _=>default) (fun k hk=>absurd hk (by simp)) (fun k hk=>absurd hk (by simp))
theorem xN {w:World} {g n c:Nat} {cs:Array Value} {l:List It} (f:Nat→Ic)(h:w.heap[g]? = some (.cells cs 117))(hl:l.length=n)
  (hc:∀k,k<n→cs[k*4]? = some (.int .i64 (f k).kind)∧cs[k*4+1]? = some (.int .i64 (f k).n)∧cs[k*4+2]? = some (.slice (f k).B (f k).nb (f k).cb)∧cs[k*4+3]? = some (.slice (f k).L (f k).nl (f k).cl))
  (hr:∀k,k<n→pV w (l.getD k default) (f k)):pV w (.lst l) ⟨3,0,none,0,0,some ⟨g,0,none⟩,n,c⟩:=
 .lst l _ rfl rfl rfl hl.symm f (fun k hk=>by
  obtain⟨h0,h1,h2,h3⟩:=hc k (by omega)
  exact⟨g,0,rfl,(au h _).trans (by rw[Nat.zero_add];exact h0),(au h _).trans (by rw[Nat.zero_add];exact h1),(au h _).trans (by rw[Nat.zero_add];exact h2),(au h _).trans (by rw[Nat.zero_add];exact h3)⟩) (fun k hk=>hr k (by omega))
theorem rY.kept {lo:Nat} {w w':World} {i:It} {c:Ic} (h:rY lo w i c)(hb:Below w.heap.size w w'):rY lo w' i c:=
 fun w2 hw=>h w2 fun b h1 h2=>(hw b h1 (by have:=hb.size;omega)).trans (hb.block b h2)
theorem rY.mono {lo lo':Nat} {w:World} {i:It} {c:Ic} (h:rY lo w i c)(hl:lo'≤lo):rY lo' w i c:=
 fun w2 hw=>h w2 fun b h1 h2=>hw b (by omega) h2
theorem rY.setRow {lo g:Nat} {w:World} {i:It} {c:Ic} (h:rY lo w i c)(hg:g<lo)(cs:Array Value):rY lo (w.setRow g cs) i c:=
 fun w2 hw=>h w2 fun b h1 h2=>(hw b h1 (by simpa [World.setRow]using h2)).trans (setRow_other w g b cs (by omega))
theorem rY.setCell {lo g j:Nat} {w:World} {i:It} {c:Ic} {v:Value} (h:rY lo w i c)(hg:g<lo):rY lo (w.setCell ⟨g,j,none⟩ v) i c:=
 fun w2 hw=>h w2 fun b h1 h2=>(hw b h1 (by rw[World.size_setCell];exact h2)).trans (Go.Deep.blk_setCell_other _ _ _ _ (show b≠g by omega))
theorem qb (lo:Nat)(w:World)(n:Int):rY lo w (.int n) (aR n):=fun _ _=> .int _ _ rfl rfl rfl rfl
theorem mJ {w w':World} {b j:Nat} (h:w'.heap[b]? = w.heap[b]?):w'.cell? ⟨b,j,none⟩=w.cell? ⟨b,j,none⟩:=by simp[World.cell?,h]
theorem Er {lo g o n c:Nat} {w:World} {l:List Int} (h:Sk .u8 w (some ⟨g,o,none⟩) l)(hg:lo≤g)(hn:l.length=n):rY lo w (.byt l) (aQ (some ⟨g,o,none⟩) n c):=
 fun w' hw=>kr (fun j hj=>by
  obtain⟨b1,o1,e,hc⟩:=h j hj
  cases e
  exact⟨_,_,rfl,(mJ (hw _ hg (World.block_lt_of_cell? _ _ hc))).trans hc⟩) hn
theorem uK {lo g n c:Nat} {w:World} {cs:Array Value} {l:List It} (f:Nat→Ic)(h:w.heap[g]? = some (.cells cs 117))(hg:lo≤g)(hl:l.length=n)
  (hc:∀k,k<n→cs[k*4]? = some (.int .i64 (f k).kind)∧cs[k*4+1]? = some (.int .i64 (f k).n)∧cs[k*4+2]? = some (.slice (f k).B (f k).nb (f k).cb)∧cs[k*4+3]? = some (.slice (f k).L (f k).nl (f k).cl))
  (hr:∀k,k<n→rY lo w (l.getD k default) (f k)):rY lo w (.lst l) ⟨3,0,none,0,0,some ⟨g,0,none⟩,n,c⟩:=
 fun w' hw=>xN f ((hw g hg (Array.getElem?_eq_some_iff.1 h).1).trans h) hl hc fun k hk=>hr k hk w' hw
theorem SI (lo:Nat)(w:World)(L:Option Addr)(c:Nat):rY lo w (.lst []) ⟨3,0,none,0,0,L,0,c⟩:=fun _ _=>SL L c
theorem uJ (n:Int)(w:World) :
  Calls Tryz.prog 169 #[.int .i64 n] w fun e w'=>e = .returned (aR n).val∧Below w.heap.size w w':=by
 have fH:Hid ((w.alloc (.cells #[.int .i64 0, .int .i64 0, .slice none 0 0, .slice none 0 0] 117)).heap[w.heap.size]? = some (.cells #[.int .i64 0, .int .i64 0, .slice none 0 0, .slice none 0 0] 117 (0,0))):=aa (heap_alloc_new _ _);go_in
 go_wp2_with ((with_reducible show wpList _ _ _ (⟨none,_,_,_,_,_⟩::_) _ _);refine wpList_store_row rfl 117 _ _ rfl w.heap.size (Ic.cs (aR n)) rfl rfl _ _ fH.out (dz _) rfl (kQ _) ?_)
 have hrw:=setRow_heap _ _ _ (Ic.cs (aR n)) _ _ fH.out;exact bodyPost_ret (v:=(aR n).val) (aK (p:=2) (ty:=117) rfl _ _ ⟨w.heap.size,0,none⟩ _ rfl (run_loadVar_row _ _ _ _ _ _ _ hrw Tryz.underlying117 rfl (dz _))) rfl ⟨rfl,aj (af _ _) (Nat.le_refl _)⟩
theorem zW (A:Option Addr)(n c:Nat)(w:World) :
  Calls Tryz.prog 142 #[.slice A n c] w fun e w'=>e = .returned (aQ A n c).val∧Below w.heap.size w w':=by
 have fH:Hid ((w.alloc (.cells #[.int .i64 0, .int .i64 0, .slice none 0 0, .slice none 0 0] 117)).heap[w.heap.size]? = some (.cells #[.int .i64 0, .int .i64 0, .slice none 0 0, .slice none 0 0] 117 (0,0))):=aa (heap_alloc_new _ _);go_in
 go_wp2_with ((with_reducible show wpList _ _ _ (⟨none,_,_,_,_,_⟩::_) _ _);refine wpList_store_row rfl 117 _ _ rfl w.heap.size (Ic.cs (aQ A n c)) rfl rfl _ _ fH.out (dz _) rfl (kQ _) ?_)
 have hrw:=setRow_heap _ _ _ (Ic.cs (aQ A n c)) _ _ fH.out;exact bodyPost_ret (v:=(aQ A n c).val) (aK (p:=2) (ty:=117) rfl _ _ ⟨w.heap.size,0,none⟩ _ rfl (run_loadVar_row _ _ _ _ _ _ _ hrw Tryz.underlying117 rfl (dz _))) rfl ⟨rfl,aj (af _ _) (Nat.le_refl _)⟩
theorem xM (L:Option Addr)(n c:Nat)(w:World) :
  Calls Tryz.prog 141 #[.slice L n c] w fun e w'=>e = .returned (Ic.mk 3 0 none 0 0 L n c).val∧Below w.heap.size w w':=by
 have fH:Hid ((w.alloc (.cells #[.int .i64 0, .int .i64 0, .slice none 0 0, .slice none 0 0] 117)).heap[w.heap.size]? = some (.cells #[.int .i64 0, .int .i64 0, .slice none 0 0, .slice none 0 0] 117 (0,0))):=aa (heap_alloc_new _ _);go_in
 go_wp2_with ((with_reducible show wpList _ _ _ (⟨none,_,_,_,_,_⟩::_) _ _);refine wpList_store_row rfl 117 _ _ rfl w.heap.size (Ic.cs (Ic.mk 3 0 none 0 0 L n c)) rfl rfl _ _ fH.out (dz _) rfl (kQ _) ?_)
 have hrw:=setRow_heap _ _ _ (Ic.cs (Ic.mk 3 0 none 0 0 L n c)) _ _ fH.out;exact bodyPost_ret (v:=(Ic.mk 3 0 none 0 0 L n c).val) (aK (p:=2) (ty:=117) rfl _ _ ⟨w.heap.size,0,none⟩ _ rfl (run_loadVar_row _ _ _ _ _ _ _ hrw Tryz.underlying117 rfl (dz _))) rfl ⟨rfl,aj (af _ _) (Nat.le_refl _)⟩
theorem Dr (E1 E2:Int)(A:Option Addr)(na ca:Nat)(al:List Int)(C:Int)(Z:Option Addr)(nz cz:Nat)(zs:List Int)(hna:Hid (al.length=na))(hnz:Hid (zs.length=nz))(hb1:na≤1000)(hb2:nz≤1000)(w:World)(hA:Hid (Sl w A al))(hZ:Hid (Sl w Z zs)) :
  Calls Tryz.prog 170 #[CE E1 E2 A na ca C Z nz cz] w (pG (M8 E1 E2 al C zs) w):=by
 obtain⟨w0,HW,ai,kC⟩:=st2 (GY E1 E2 A na ca C Z nz cz) MN (.cells #[.int .i64 0, .int .i64 0, .slice none 0 0, .slice none 0 0] 117) sZ w;have kA:=mkS ai hA;have kZ:=mkS ai hZ;have nZ:=Cj (w0:=w0) (o:= .cells #[.int .i64 0, .int .i64 0, .slice none 0 0, .slice none 0 0] 117) (w.heap.size+1) (by rw[←HW.out];exact heap_alloc2_new _ _ _);have ah:=bI w0;clear hA hZ;go_in
 go_wp2_with fail
 rw[HW.out];have zc:=kC.out _ ah;have lV:Hid (w0.heap.size=w.heap.size+2):=aa (by rw[←HW.out];simp)
 go_upto_region 1 with(fail)
 clear zc;have hO:=kC;have pJ:=bJ (aa ah.out) (Below.refl _ _).drew;refine uG (fun u=>Below w0.heap.size w0 u) [20] pJ (fun hHeld=>?_);obtain⟨wD,pq⟩:∃u,w0.drew=u:=⟨_,rfl⟩;rw[pq]at pJ hHeld ⊢;have BV:Hid (w0.heap.size≤wD.heap.size):=aa (by rw[←pq];exact Nat.le_refl _);clear pq;refine aP 0 1 2 3 ?_;refine aP 6 7 8 10 ?_;refine aP 11 12 13 14 ?_;refine aL 15 ?_;refine aL 16 ?_;have FB:=pJ;obtain⟨u1,hw,HQ,-,-,-⟩:=pO (.cells #[.int .i64 (E1), .int .i64 (E2)] 3) sZ wD;have pI:=aa hw;clear hw;refine dh 4 fun K hK=>?_;go_simp;rw[pI.out];have aX:=bJ FB HQ.out;refine hK.out _ _ aX (fun hHeld=>?_);clear hK K hHeld;have FE:Hid (Fj u1 (wD.heap.size) (E1) (E2)):=by rw[←pI.out];exact(aa (Fj.new wD (E1) (E2)))
 obtain⟨gE,hg⟩:∃x,wD.heap.size=x:=⟨_,rfl⟩;rw[hg]at FE ⊢;clear hg;have FB:=aX;clear aX pI HQ
 try simp only[qq,Ic.val,Ic.cs,aR,aQ]
 refine dh 5 fun K hK=>?_;go_simp;refine(mH (some ⟨gE,0,none⟩) [E1,E2] 2 2 (aa rfl) (by omega) _ (aa FE.out.sl)).mono ?_;rintro e u2 ⟨cE,rfl,hit,hq⟩;have aX:=bJ FB hq;refine hK.out _ _ aX (fun hHeld=>?_);clear hK K hHeld;have FE:=aa (FE.out.below hq);have HE:=(aa (hit.mono (by have:=FB.out.size;omega)));have FB:=aX;clear aX
 try simp only[qq,Ic.val,Ic.cs,aR,aQ]
 refine dh 9 fun K hK=>?_;go_simp;refine(mH A al na ca hna (by omega) _ (kA.out _ (aa FB.out))).mono ?_;rintro e u3 ⟨cA,rfl,hit,hq⟩;have aX:=bJ FB hq;refine hK.out _ _ aX (fun hHeld=>?_);clear hK K hHeld;have FE:=aa (FE.out.below hq);have HE:=aa (HE.out.kept hq);have HA:=(aa (hit.mono (by have:=FB.out.size;omega)));have FB:=aX;clear aX
 try simp only[qq,Ic.val,Ic.cs,aR,aQ]
 refine dh 17 fun K hK=>?_;go_simp;refine(mH Z zs nz cz hnz (by omega) _ (kZ.out _ (aa FB.out))).mono ?_;rintro e u4 ⟨cZ,rfl,hit,hq⟩;have aX:=bJ FB hq;refine hK.out _ _ aX (fun hHeld=>?_);clear hK K hHeld;have FE:=aa (FE.out.below hq);have HE:=aa (HE.out.kept hq);have HA:=aa (HA.out.kept hq);have HZ:=(aa (hit.mono (by have:=FB.out.size;omega)));have FB:=aX;clear aX
 try simp only[qq,Ic.val,Ic.cs,aR,aQ]
 obtain⟨u,hw,HQ,-,-,-⟩:=pO (.cells #[.int .i64 cE.kind, .int .i64 cE.n, .slice cE.B cE.nb cE.cb, .slice cE.L cE.nl cE.cl, .int .i64 cA.kind, .int .i64 cA.n, .slice cA.B cA.nb cA.cb, .slice cA.L cA.nl cA.cl, .int .i64 1, .int .i64 C, .slice none 0 0, .slice none 0 0, .int .i64 cZ.kind, .int .i64 cZ.n, .slice cZ.B cZ.nb cZ.cb, .slice cZ.L cZ.nl cZ.cl] 117) sZ u4;have pI:=aa hw;clear hw;refine dh 18 fun K hK=>?_;go_simp;rw[pI.out];have aX:=bJ FB HQ.out;refine hK.out _ _ aX (fun hHeld=>?_);clear hK K hHeld;have FE:=aa (FE.out.below HQ.out);have HE:=aa (HE.out.kept HQ.out);have HA:=aa (HA.out.kept HQ.out);have HZ:=aa (HZ.out.kept HQ.out);have FL:Hid (u.heap[(u4.heap.size)]? = some (.cells #[.int .i64 cE.kind, .int .i64 cE.n, .slice cE.B cE.nb cE.cb, .slice cE.L cE.nl cE.cl, .int .i64 cA.kind, .int .i64 cA.n, .slice cA.B cA.nb cA.cb, .slice cA.L cA.nl cA.cl, .int .i64 1, .int .i64 C, .slice none 0 0, .slice none 0 0, .int .i64 cZ.kind, .int .i64 cZ.n, .slice cZ.B cZ.nb cZ.cb, .slice cZ.L cZ.nl cZ.cl] 117)):=by rw[←pI.out];exact(aa (heap_alloc_new u4 _))
 have nJ:Hid (w0.heap.size≤(u4.heap.size)):=(aa (by have:=FB.out.size;omega));obtain⟨gL,hg⟩:∃x,u4.heap.size=x:=⟨_,rfl⟩;rw[hg]at FL nJ ⊢;clear hg;have FB:=aX;clear aX pI HQ
 try simp only[qq,Ic.val,Ic.cs,aR,aQ]
 have hHeld:=FB;have hT:=trivial;have ha0:=trivial;have vJ:=FB;refine b_ 19 ?_;have qZ:=nZ.out _ (aa FB.out);refine oz 20 fun K hK=>?_;rw[show(if Region.wanted _ _=true then _ else _:Prop)=_ from if_pos rfl];refine wp_store_row 117 _ _ rfl (w.heap.size+1) (Ic.cs ⟨3,0,none,0,0,some ⟨gL,0,none⟩,4,4⟩) rfl rfl 117 _ qZ.out (dz _) rfl (kQ _) ?_;refine hK.out _ _ ?_;clear hK K
 try simp only[qq]
 refine gM ?_
 have hit:rY w0.heap.size u (M8 E1 E2 al C zs) ⟨3,0,none,0,0,some ⟨gL,0,none⟩,4,4⟩:=uK (fun k=>match k with | 0=>cE | 1=>cA | 2=>aR C | _=>cZ) FL.out nJ.out rfl (fun k hk=>by
   rcases (show k=0∨k=1∨k=2∨k=3 by omega)with rfl | rfl | rfl | rfl <;> exact⟨rfl,rfl,rfl,rfl⟩) (fun k hk=>by
   rcases (show k=0∨k=1∨k=2∨k=3 by omega)with rfl | rfl | rfl | rfl
   · exact HE.out
   · exact HA.out
   · exact qb _ _ _
   · exact HZ.out)
 have hit2:=(hit.setRow (g:=w.heap.size+1) (by have:=lV.out;omega) (Ic.cs ⟨3,0,none,0,0,some ⟨gL,0,none⟩,4,4⟩)).mono (lo':=w.heap.size) (by have:=lV.out;omega);have bT:=aj (ag ai.out FB.out) (cs:=Ic.cs ⟨3,0,none,0,0,some ⟨gL,0,none⟩,4,4⟩) (Nat.le_add_right w.heap.size 1);have hrw:=setRow_heap _ _ _ (Ic.cs ⟨3,0,none,0,0,some ⟨gL,0,none⟩,4,4⟩) _ _ qZ.out;go_wp2;exact bodyPost_ret (v:=(Ic.mk 3 0 none 0 0 (some ⟨gL,0,none⟩) 4 4).val) (aK (p:=2) (ty:=117) rfl _ _ ⟨w.heap.size+1,0,none⟩ _ rfl (run_loadVar_row _ _ _ _ _ _ _ hrw Tryz.underlying117 rfl (dz _))) rfl ⟨_,rfl,hit2,bT⟩
def IA (g:Option Nat)(lo:Nat)(w:World)(i:It)(c:Ic):Prop:=∀w':World,(∀b,lo≤b→b<w.heap.size→g≠some b→w'.heap[b]? = w.heap[b]?)→pV w' i c
theorem rY.g {lo lo':Nat} {g:Option Nat} {w:World} {i:It} {c:Ic} (h:rY lo' w i c)(hl:lo≤lo')(hg:∀b,g=some b→b<lo'):IA g lo w i c:=
 fun w' hw=>h w' fun b h1 h2=>hw b (by omega) h2 (fun e=>by have:=hg b e;omega)
theorem IA.s {lo:Nat} {g:Option Nat} {w:World} {i:It} {c:Ic} (h:IA g lo w i c):rY lo w i c:=fun w' hw=>h w' fun b h1 h2 _=>hw b h1 h2
theorem IA.kept {lo:Nat} {g:Option Nat} {w w':World} {i:It} {c:Ic} (h:IA g lo w i c)(hb:Below w.heap.size w w'):IA g lo w' i c:=
 fun w2 hw=>h w2 fun b h1 h2 h3=>(hw b h1 (by have:=hb.size;omega) h3).trans (hb.block b h2)
theorem IA.grown {lo:Nat} {g g':Option Nat} {w w1:World} {i:It} {c:Ic} (h:IA g lo w i c)(hgr:w.grownBy w1 g)(hz:w.heap.size≤w1.heap.size)(hg:∀b,g'=some b→g=some b∨w.heap.size≤b):IA g' lo w1 i c:=
 fun w2 hw=>h w2 fun b h1 h2 h3=>(hw b h1 (by omega) (fun e=>by rcases hg b e with e2 | e2;exact h3 e2;omega)).trans (hgr.block b h2 (fun e=>h3 e.symm))
theorem IA.setCell {lo a j:Nat} {g:Option Nat} {w:World} {i:It} {c:Ic} {v:Value} (h:IA g lo w i c)(ha:a<lo):IA g lo (w.setCell ⟨a,j,none⟩ v) i c:=
 fun w2 hw=>h w2 fun b h1 h2 h3=>(hw b h1 (by rw[World.size_setCell];exact h2) h3).trans (Go.Deep.blk_setCell_other _ _ _ _ (show b≠a by omega))
theorem KO {w:World} {base lo n:Nat} {v:Value} {cs:List Ic} {l:List It} (h:d_ w base v cs)(hc:cs.length=n)(hl:l.length=n)(hlo:lo≤base)(hr:∀k,k<n→rY lo w (l.getD k default) (cs.getD k default)) :
  ∃L cl,v = .slice L n cl∧rY lo w (.lst l) ⟨3,0,none,0,0,L,n,cl⟩:=by
 by_cases h0:0<n
 ·
  obtain⟨g,cap,e,_⟩:=h.four (by omega);rw[hc]at e;refine⟨_,_,e,fun w' hw=>?_⟩;obtain⟨g',cap',e',hr'⟩:=tY (Bp h fun b h1 h2=>hw b (by omega) h2) hc hl h0 fun k hk=>hr k hk w' hw;rw[e]at e'
  simp only[Value.slice.injEq,Option.some.injEq,Addr.mk.injEq]at e'
  obtain⟨⟨rfl,-⟩,-,rfl⟩:=e';exact hr'
 ·
  obtain rfl:n=0:=by omega
  obtain rfl:l = []:=List.eq_nil_of_length_eq_zero hl;obtain⟨L,cl,hv⟩:=h.len;rw[hc]at hv;exact⟨L,cl,hv,SI _ _ _ _⟩
theorem iL {ps:List aS} {k:Nat} (h:k<ps.length):ps.getD k aC∈ps:=by
 rw[List.getD_eq_getElem?_getD,List.getElem?_eq_getElem h];exact List.getElem_mem _
theorem OW (o:aG)(hs:fE o)(w:World)(ho:Hid (dM w o)) :
  Calls Tryz.prog 143 #[zD o] w (pG (xJ o) w):=by
 obtain⟨w0,HW,ai,kC⟩:=st2 (l6 o) bp9 (.cells #[.int .i64 0, .int .i64 0, .slice none 0 0, .slice none 0 0] 117) sZ w;have kO:=fo (fun u=>dM u o) ai ho (·.below);have nZ:=Cj (w0:=w0) (o:= .cells #[.int .i64 0, .int .i64 0, .slice none 0 0, .slice none 0 0] 117) (w.heap.size+1) (by rw[←HW.out];exact heap_alloc2_new _ _ _);have ah:=bI w0;clear ho;go_in
 go_wp2_with fail
 rw[HW.out];have zc:=kC.out _ ah;have lV:Hid (w0.heap.size=w.heap.size+2):=aa (by rw[←HW.out];simp)
 go_wp2_with fail
 refine(xM none 0 0 _).mono ?_;rintro e w1 ⟨rfl,hb0⟩;rw[show(Ic.mk 3 0 none 0 0 none 0 0).val = .agg #[.int .i64 3, .int .i64 0, .slice none 0 0, .slice none 0 0]from rfl];have ax:=bJ ah hb0;clear zc hb0;have Us:=ax;have hq0:=af w1 (.cells #[.int .i64 3, .int .i64 0, .slice none 0 0, .slice none 0 0] 117);have az:=bJ ax hq0;clear hq0;have zc:=kC.out _ az;go_wp2;clear zc;obtain⟨W,hW⟩:∃x,w1.alloc (.cells #[.int .i64 3, .int .i64 0, .slice none 0 0, .slice none 0 0] 117)=x:=⟨_,rfl⟩;rw[hW]at az;have cu:=az;obtain⟨B,hB⟩:∃x,w1.heap.size=x:=⟨_,rfl⟩;have zy:Hid (W.heap.size=B+1∧w0.heap.size≤B):=aa ⟨by rw[←hW,←hB];simp,by rw[←hB];exact Us.out.size⟩;have hbk:W.heap[B]? = some (.cells #[.int .i64 3, .int .i64 0, .slice none 0 0, .slice none 0 0] 117):=by rw[←hW,←hB];exact heap_alloc_new _ _
 have qW:Hid (Own W ⟨B,3,none⟩ (.slice none 0 0)):=aa ⟨au hbk 3,ay hbk 3⟩;have HX0:Hid (Own W ⟨B,0,none⟩ (.int .i64 3)∧Own W ⟨B,1,none⟩ (.int .i64 0)∧Own W ⟨B,2,none⟩ (.slice none 0 0)):=aa ⟨⟨au hbk 0,ay hbk 0⟩,⟨au hbk 1,ay hbk 1⟩,⟨au hbk 2,ay hbk 2⟩⟩;rw[hW,hB];clear hW hbk Us;obtain⟨i0,hi,hz0,hz1,hz2⟩:=info_parts j_;obtain⟨⟨okn,UG⟩,ok8⟩:(o.ps.length=o.np∧o.np≤o.cp)∧o.ps.length≤8:=⟨((kO.out _ cu).out).2.2.1,hs.n⟩
 go_loopw [10] (fun i u=>∃(k:Nat) (v:Value) (cs:List Ic),k≤o.np∧i = .int .i64 k∧Hid (cs.length=k)∧Hid (Own u ⟨B,3,none⟩ v)∧Hid (Own u ⟨B,0,none⟩ (.int .i64 3)∧Own u ⟨B,1,none⟩ (.int .i64 0)∧Own u ⟨B,2,none⟩ (.slice none 0 0))∧Hid (d_ u (B+1) v cs)∧Hid (∀j,j<k→IA v.ownBlock (B+1) u (Ci (o.ps.getD j aC)) (cs.getD j default))∧Hid (Below B W u)) (fun i _=>o.np-(intOf i).toNat)
 case atStart=>exact⟨0,_, [],by omega,rfl,aa rfl,qW,HX0,aa (tV _ _),aa (fun j h=>absurd h (by omega)),aa (Below.refl _ _)⟩
 case round=>
  obtain⟨k,v,cs,hk,rfl,si,HV,qh,HO,HG,aD⟩:=hrel;have jw:Hid (Below w0.heap.size w0 wr):=aa (cu.out.trans (aD.out.mono zy.out.2))
  by_cases hlt:k<o.np
  ·
   have hkl:k<o.ps.length:=by rw[okn];exact hlt
   obtain⟨b,f,hA,j0,j1,j2,j3,j4,j5⟩:=(kO.out _ jw).out.2.2.2.2.2 k hkl;have Ar:=aa hA;have hps:=hs.p _ (iL hkl);obtain⟨p,hp⟩:∃p,o.ps.getD k aC=p:=⟨_,rfl⟩;have oI:=aa hp;rw[hp]at j0 j1 j2 j3 j4 j5 hps;obtain⟨x1,x2,x3,x4⟩:=j5;have Zh:=aa x1;have Zg:=aa x2;have Re:=aa x3;have l8:=aa x4;obtain⟨Pf,Pe⟩:=hps;have U8:p.na≤20:=by rw[←x1];exact Pf
   have U7:p.nz≤20:=by rw[←x2];exact Pe
   obtain⟨v3,IQ⟩:=HV.out;clear hp hA hkl x1 x2 x3 x4 Pf Pe;rw[Ar.out];have bM:=bI wr;have Mr:=nQ (w:=wr) (fun u=>Sl u p.A p.al) Re.out (·.below);have Mq:=nQ (w:=wr) (fun u=>Sl u p.Z p.zs) l8.out (·.below);have zc:=kC.out _ jw;have kX:=aa (show ∀u:World,Hid (Below wr.heap.size wr u)→u.cell? ⟨B,3,none⟩=some v from fun u h=>cell_below HV.out.1 h.out);obtain⟨w3,hw,Vf,abI,-,kS⟩:=pO (sM p) vF wr;have aW:=iW jw Vf;have cK:=iW bM Vf;have fZ:=bI w3;clear Vf;have pK:=kC.out _ aW;have adk:=kX.out _ cK;have l_:=kS.out _ fZ
   go_upto_region 5 with(fail)
   clear zc pK adk l_ hw;have zc:=kC.out _ aW;have sV:=kX.out _ cK;have jW:=kS.out _ fZ;clear j0 j1 j2 j3 j4 v3 IQ;clear zc sV jW;have hO:=aa (fun(u:World) (h:Hid (Below w0.heap.size w0 u∧Below wr.heap.size wr u∧Below w3.heap.size w3 u))=>And.intro (kC.out u (aa h.out.1)) (And.intro (kX.out u (aa h.out.2.1)) (kS.out u (aa h.out.2.2))));have pJ:=bb3 (aa ⟨aW.out,cK.out,fZ.out⟩) (Below.refl _ _).drew;refine uG (fun u=>Below w0.heap.size w0 u∧Below wr.heap.size wr u∧Below w3.heap.size w3 u) [23,24,25] pJ (fun hHeld=>?_);obtain⟨wD,pq⟩:∃u,w3.drew=u:=⟨_,rfl⟩;rw[pq]at pJ hHeld ⊢;have BV:Hid (w3.heap.size≤wD.heap.size):=aa (by rw[←pq];exact Nat.le_refl _);clear pq;refine aP 0 1 2 3 ?_;refine aP 4 5 8 9 ?_;refine aP 10 12 13 14 ?_;refine aL 16 ?_;refine aL 17 ?_;refine aL 18 ?_;have FB:=pJ;obtain⟨u1,hw,HQ,-,-,-⟩:=pO (.cells #[.int .i64 (p.ix), .int .i64 (p.v)] 3) sZ wD;have pI:=aa hw;clear hw;refine dh 6 fun K hK=>?_;go_simp;rw[pI.out];have aX:=bb3 FB HQ.out;refine hK.out _ _ aX (fun hHeld=>?_);clear hK K hHeld;have FE:Hid (Fj u1 (wD.heap.size) (p.ix) (p.v)):=by rw[←pI.out];exact(aa (Fj.new wD (p.ix) (p.v)))
   obtain⟨gE,hg⟩:∃x,wD.heap.size=x:=⟨_,rfl⟩;rw[hg]at FE ⊢;clear hg;have FB:=aX;clear aX pI HQ
   try simp only[qq,Ic.val,Ic.cs,aR,aQ]
   refine dh 7 fun K hK=>?_;go_simp;refine(mH (some ⟨gE,0,none⟩) [p.ix,p.v] 2 2 (aa rfl) (by omega) _ (aa FE.out.sl)).mono ?_;rintro e u2 ⟨cE,rfl,hit,hq⟩;have aX:=bb3 FB hq;refine hK.out _ _ aX (fun hHeld=>?_);clear hK K hHeld;have FE:=aa (FE.out.below hq);have HE:=(aa (hit.mono (by have:=FB.out.2.2.size;omega)));have FB:=aX;clear aX
   try simp only[qq,Ic.val,Ic.cs,aR,aQ]
   refine dh 11 fun K hK=>?_;go_simp;refine(mH p.A p.al p.na p.ca Zh (by omega) _ (Mr.out _ (aa FB.out.2.1))).mono ?_;rintro e u3 ⟨cA,rfl,hit,hq⟩;have aX:=bb3 FB hq;refine hK.out _ _ aX (fun hHeld=>?_);clear hK K hHeld;have FE:=aa (FE.out.below hq);have HE:=aa (HE.out.kept hq);have HA:=(aa (hit.mono (by have:=FB.out.2.2.size;omega)));have FB:=aX;clear aX
   try simp only[qq,Ic.val,Ic.cs,aR,aQ]
   refine dh 15 fun K hK=>?_;go_simp;refine(uJ p.C _).mono ?_;rintro e u4 ⟨rfl,hq⟩;have aX:=bb3 FB hq;refine hK.out _ _ aX (fun hHeld=>?_);clear hK K hHeld;have FE:=aa (FE.out.below hq);have HE:=aa (HE.out.kept hq);have HA:=aa (HA.out.kept hq);have FB:=aX;clear aX
   try simp only[qq,Ic.val,Ic.cs,aR,aQ]
   refine dh 19 fun K hK=>?_;go_simp;refine(mH p.Z p.zs p.nz p.cz Zg (by omega) _ (Mq.out _ (aa FB.out.2.1))).mono ?_;rintro e u5 ⟨cZ,rfl,hit,hq⟩;have aX:=bb3 FB hq;refine hK.out _ _ aX (fun hHeld=>?_);clear hK K hHeld;have FE:=aa (FE.out.below hq);have HE:=aa (HE.out.kept hq);have HA:=aa (HA.out.kept hq);have HZ:=(aa (hit.mono (by have:=FB.out.2.2.size;omega)));have FB:=aX;clear aX
   try simp only[qq,Ic.val,Ic.cs,aR,aQ]
   obtain⟨u6,hw,HQ,-,-,-⟩:=pO (.cells #[.int .i64 cE.kind, .int .i64 cE.n, .slice cE.B cE.nb cE.cb, .slice cE.L cE.nl cE.cl, .int .i64 cA.kind, .int .i64 cA.n, .slice cA.B cA.nb cA.cb, .slice cA.L cA.nl cA.cl, .int .i64 1, .int .i64 p.C, .slice none 0 0, .slice none 0 0, .int .i64 cZ.kind, .int .i64 cZ.n, .slice cZ.B cZ.nb cZ.cb, .slice cZ.L cZ.nl cZ.cl] 117) sZ u5;have pI:=aa hw;clear hw;refine dh 20 fun K hK=>?_;go_simp;rw[pI.out];have aX:=bb3 FB HQ.out;refine hK.out _ _ aX (fun hHeld=>?_);clear hK K hHeld;have FE:=aa (FE.out.below HQ.out);have HE:=aa (HE.out.kept HQ.out);have HA:=aa (HA.out.kept HQ.out);have HZ:=aa (HZ.out.kept HQ.out);have FL:Hid (u6.heap[(u5.heap.size)]? = some (.cells #[.int .i64 cE.kind, .int .i64 cE.n, .slice cE.B cE.nb cE.cb, .slice cE.L cE.nl cE.cl, .int .i64 cA.kind, .int .i64 cA.n, .slice cA.B cA.nb cA.cb, .slice cA.L cA.nl cA.cl, .int .i64 1, .int .i64 p.C, .slice none 0 0, .slice none 0 0, .int .i64 cZ.kind, .int .i64 cZ.n, .slice cZ.B cZ.nb cZ.cb, .slice cZ.L cZ.nl cZ.cl] 117)):=by rw[←pI.out];exact(aa (heap_alloc_new u5 _))
   have nJ:Hid (w3.heap.size≤(u5.heap.size)):=(aa (by have:=FB.out.2.2.size;omega));obtain⟨gL,hg⟩:∃x,u5.heap.size=x:=⟨_,rfl⟩;rw[hg]at FL nJ ⊢;clear hg;have FB:=aX;clear aX pI HQ
   try simp only[qq,Ic.val,Ic.cs,aR,aQ]
   refine dh 21 fun K hK=>?_;go_simp;refine(xM (some ⟨gL,0,none⟩) 4 4 _).mono ?_;rintro e u7 ⟨rfl,hq⟩;have aX:=bb3 FB hq;refine hK.out _ _ aX (fun hHeld=>?_);clear hK K hHeld;have FE:=aa (FE.out.below hq);have HE:=aa (HE.out.kept hq);have HA:=aa (HA.out.kept hq);have HZ:=aa (HZ.out.kept hq);have FL:=aa (bQ FL.out hq);have nJ:=nJ;have FB:=aX;clear aX
   try simp only[qq,Ic.val,Ic.cs,aR,aQ]
   obtain⟨u,hw,HQ,-,-,-⟩:=pO (.cells #[.int .i64 3, .int .i64 0, .slice none 0 0, .slice (some ⟨gL,0,none⟩) 4 4] 117) sZ u7;have pI:=aa hw;clear hw;refine dh 22 fun K hK=>?_;go_simp;rw[pI.out];have aX:=bb3 FB HQ.out;refine hK.out _ _ aX (fun hHeld=>?_);clear hK K hHeld;have FE:=aa (FE.out.below HQ.out);have HE:=aa (HE.out.kept HQ.out);have HA:=aa (HA.out.kept HQ.out);have HZ:=aa (HZ.out.kept HQ.out);have FL:=aa (bQ FL.out HQ.out);have nJ:=nJ;have FO:Hid (u.heap[(u7.heap.size)]? = some (.cells #[.int .i64 3, .int .i64 0, .slice none 0 0, .slice (some ⟨gL,0,none⟩) 4 4] 117)):=by rw[←pI.out];exact(aa (heap_alloc_new u7 _))
   obtain⟨gO,hg⟩:∃x,u7.heap.size=x:=⟨_,rfl⟩;rw[hg]at FO ⊢;clear hg;have FB:=aX;clear aX pI HQ
   try simp only[qq,Ic.val,Ic.cs,aR,aQ]
   have hHeld:=FB;have hT:=trivial;have ha0:=trivial;have vJ:=aa FB.out.1;have Vj:=aa FB.out.2.1;have acg:=aa FB.out.2.2
   have hit:rY w3.heap.size u (Ci p) (Ic.mk 3 0 none 0 0 (some ⟨gL,0,none⟩) 4 4):=uK (fun k=>match k with | 0=>cE | 1=>cA | 2=>aR p.C | _=>cZ) FL.out nJ.out rfl (fun k hk=>by
     rcases (show k=0∨k=1∨k=2∨k=3 by omega)with rfl | rfl | rfl | rfl <;> exact⟨rfl,rfl,rfl,rfl⟩) (fun k hk=>by
     rcases (show k=0∨k=1∨k=2∨k=3 by omega)with rfl | rfl | rfl | rfl
     · exact HE.out
     · exact HA.out
     · exact qb _ _ _
     · exact HZ.out)
   have hown:u.ownsRow (B+1) 117 4 v k (cs.flatMap aY):=by
    have h:=HO.out.keep FB.out.2.1;unfold d_ at h
    rwa [si.out]at h
   have hbz:=FB.out.1.size;have hWr:=aD.out.size;have hno:v.ownBlock≠some B:=HO.out.no (by omega);have hvq:=HV.out.below FB.out.2.1;have hsb:=zy.out;have ah5:=FB.out.2.1.size;have ah8:=FB.out.2.2.size;have ah7:=abI.out;refine oz 23 fun K hK=>?_;refine step_append_lies _ (by rfl) _ _ _ (by rfl) (B+1) 117 i0 _ 4 64 Tryz.underlying115 hi hz0 hz1 hz2 rfl (by omega) v k (cs.flatMap aY) (by rfl) hown ⟨gO,0,none⟩ 1 1 [.int .i64 3, .int .i64 0, .slice none 0 0, .slice (some ⟨gL,0,none⟩) 4 4] (by rfl) (by rfl) (World.news_of_block (cs:=#[.int .i64 3, .int .i64 0, .slice none 0 0, .slice (some ⟨gL,0,none⟩) 4 4]) (t:=117) (fr:=(0,0)) FO.out) (by simp[Value.oneCell']) (by omega) (by unfold maxLen;omega) (by omega) (by omega) u.heap.size rfl ?_;intro gg cap wz hown1 hgrow hgg hlt2;have JZ:=aJ hvq hgrow hno;have XQ:=JZ;obtain⟨p2,f2⟩:=XQ;refine hK.out _ _ ?_;clear hK K
   try simp only[qq]
   refine oz 24 fun K hK=>?_;go_simp;refine hK.out _ _ ?_;clear hK K
   try simp only[qq]
   refine oz 25 fun K hK=>?_;go_simp;refine hK.out _ _ ?_;clear hK K
   try simp only[qq]
   refine gM ?_;clear hHeld hT ha0;have hgz:u.heap.size≤wz.heap.size:=hgrow.size;have Aq:Hid (d_ (wz.setCell ⟨B,3,none⟩ (.slice (some ⟨gg,0,none⟩) (k+1) cap)) (B+1) (.slice (some ⟨gg,0,none⟩) (k+1) cap) (cs ++ [(Ic.mk 3 0 none 0 0 (some ⟨gL,0,none⟩) 4 4)])):=aa ((d_.app si.out.symm (by simpa [aY]using hown1)).set (by omega));have wu:Hid (Own (wz.setCell ⟨B,3,none⟩ (.slice (some ⟨gg,0,none⟩) (k+1) cap)) ⟨B,3,none⟩ (.slice (some ⟨gg,0,none⟩) (k+1) cap)):=aa (bu JZ);have TZ:Hid (Own (wz.setCell ⟨B,3,none⟩ (.slice (some ⟨gg,0,none⟩) (k+1) cap)) ⟨B,0,none⟩ (.int .i64 3)∧Own (wz.setCell ⟨B,3,none⟩ (.slice (some ⟨gg,0,none⟩) (k+1) cap)) ⟨B,1,none⟩ (.int .i64 0)∧Own (wz.setCell ⟨B,3,none⟩ (.slice (some ⟨gg,0,none⟩) (k+1) cap)) ⟨B,2,none⟩ (.slice none 0 0)):=aa ⟨ak (aJ (qh.out.1.below FB.out.2.1) hgrow hno) (by simp),ak (aJ (qh.out.2.1.below FB.out.2.1) hgrow hno) (by simp),ak (aJ (qh.out.2.2.below FB.out.2.1) hgrow hno) (by simp)⟩
   have Ex:∀b,((.slice (some ⟨gg,0,none⟩) (k+1) cap):Value).ownBlock=some b→v.ownBlock=some b∨u.heap.size≤b:=fun b e=>by
    cases e
    rcases hgg with e | e
    · exact Or.inl e
    · exact Or.inr (show u.heap.size≤gg by omega)
   have xR:∀b,v.ownBlock=some b→b<wr.heap.size:=fun b e=>(World.ownsRow.lt HO.out b e).2
   have Uo:Hid (∀j,j<k+1→IA ((.slice (some ⟨gg,0,none⟩) (k+1) cap):Value).ownBlock (B+1) (wz.setCell ⟨B,3,none⟩ (.slice (some ⟨gg,0,none⟩) (k+1) cap)) (Ci (o.ps.getD j aC)) ((cs ++ [(Ic.mk 3 0 none 0 0 (some ⟨gL,0,none⟩) 4 4)]).getD j default)):=aa (fun j hj=>by
    by_cases e:j=k
    ·
     subst e;rw[oI.out,show(cs ++ [((Ic.mk 3 0 none 0 0 (some ⟨gL,0,none⟩) 4 4):Ic)]).getD j default=(Ic.mk 3 0 none 0 0 (some ⟨gL,0,none⟩) 4 4) by rw[List.getD_eq_getElem?_getD,List.getElem?_append_right (by rw[si.out];exact Nat.le_refl _),si.out,Nat.sub_self];rfl];exact((hit.g (lo:=B+1) (by omega) (fun b e=>by have:=xR b e;omega)).grown hgrow hgz Ex).setCell (by omega)
    ·
     rw[show(cs ++ [((Ic.mk 3 0 none 0 0 (some ⟨gL,0,none⟩) 4 4):Ic)]).getD j default=cs.getD j default by rw[List.getD_eq_getElem?_getD,List.getElem?_append_left (by rw[si.out];omega),←List.getD_eq_getElem?_getD]]
     exact(((HG.out j (by omega)).kept FB.out.2.1).grown hgrow hgz Ex).setCell (by omega))
   have l5:Hid (Below B W (wz.setCell ⟨B,3,none⟩ (.slice (some ⟨gg,0,none⟩) (k+1) cap))):=aa (((aD.out.trans (FB.out.2.1.mono (by omega))).grown hgrow (by omega) (fun j hj=>by have:=(World.ownsRow.lt HO.out j hj).1;omega)).setCell (Nat.le_refl _) _);have YN:Hid ((cs ++ [((Ic.mk 3 0 none 0 0 (some ⟨gL,0,none⟩) 4 4):Ic)]).length=k+1):=aa (by rw[List.length_append,si.out];rfl);clear hown hvq hown1 hgrow hgg hlt2 JZ p2 f2 Ex xR hit;go_wp2
   go_roundw
   case rel=>exact⟨k+1,_,_,by omega,by go_num,YN,wu,TZ,Aq,Uo,l5⟩
   case measure=>simp[intOf];omega
  ·
   have hke:k=o.np:=by omega
   obtain⟨L5,M9,hv5,Po⟩:=KO (l:=o.ps.map Ci) (lo:=B+1) HO.out si.out (by rw[List.length_map,okn,hke]) (Nat.le_refl _) (fun j hj=>by
    rw[show(o.ps.map Ci).getD j default=Ci (o.ps.getD j aC) by rw[List.getD_eq_getElem?_getD,List.getElem?_map,List.getD_eq_getElem?_getD,List.getElem?_eq_getElem (show j<o.ps.length by omega)];rfl]
    exact(HG.out j hj).s)
   subst hv5;have YB:=aa Po;obtain⟨⟨a3,_⟩,⟨a0,_⟩,⟨a1,_⟩,⟨a2,_⟩⟩:=(⟨HV.out,qh.out⟩:_∧_∧_∧_);have Uq:Hid (wr.cell? ⟨B,0,none⟩=some (.int .i64 3)∧wr.cell? ⟨B,1,none⟩=some (.int .i64 0)∧wr.cell? ⟨B,2,none⟩=some (.slice none 0 0)∧wr.cell? ⟨B,3,none⟩=some (.slice L5 k M9)):=aa ⟨a0,a1,a2,a3⟩;have Zk:=aa hke;clear Po a0 a1 a2 a3 HO HG HV qh hke;have bM:=bI wr;have kX5:=aa (show ∀u:World,Hid (Below wr.heap.size wr u)→u.cell? ⟨B,0,none⟩=some (.int .i64 3)∧u.cell? ⟨B,1,none⟩=some (.int .i64 0)∧u.cell? ⟨B,2,none⟩=some (.slice none 0 0)∧u.cell? ⟨B,3,none⟩=some (.slice L5 k M9)from fun u h=>⟨cell_below Uq.out.1 h.out,cell_below Uq.out.2.1 h.out,cell_below Uq.out.2.2.1 h.out,cell_below Uq.out.2.2.2 h.out⟩);have hcv:=fun w=>run_bytes_of_string (P:=Tryz.prog) w 9 114 5 o.rs Tryz.underlying9 Tryz.underlying114 Tryz.underlying5;have kA:=aa (show ∀u:World,Hid (Below wr.heap.size wr u)→Hid (Sl u o.A o.al)from fun u h=>aa ((kO.out _ jw).out.2.2.2.1.below h.out));have kZ:=aa (show ∀u:World,Hid (Below wr.heap.size wr u)→Hid (Sl u o.Z o.zs)from fun u h=>aa ((kO.out _ jw).out.2.2.2.2.1.below h.out));obtain⟨q1,q2⟩:Hid (o.al.length=o.na)∧Hid (o.zs.length=o.nz):=⟨aa (kO.out _ jw).out.1,aa (kO.out _ jw).out.2.1⟩;have U8:o.na≤20:=by rw[←q1.out];exact hs.a
   have U7:o.nz≤20:=by rw[←q2.out];exact hs.z
   have zc:=kC.out _ jw;have adl:=kX5.out _ bM
   go_upto_region 7 with(fail)
   clear zc adl;have hO:=aa (fun(u:World) (h:Hid (Below w0.heap.size w0 u∧Below wr.heap.size wr u))=>And.intro (kC.out u (aa h.out.1)) (kX5.out u (aa h.out.2)));have pJ:=bb2 (aa ⟨jw.out,bM.out⟩) (Below.refl _ _).drew;refine uG (fun u=>Below w0.heap.size w0 u∧Below wr.heap.size wr u) [16] pJ (fun hHeld=>?_);obtain⟨wD,pq⟩:∃u,wr.drew=u:=⟨_,rfl⟩;rw[pq]at pJ hHeld ⊢;have BV:Hid (wr.heap.size≤wD.heap.size):=aa (by rw[←pq];exact Nat.le_refl _);clear pq;refine aP 0 1 3 4 ?_;refine aP 7 8 10 11 ?_;refine aL 12 ?_;refine tFr fun a0 ha0=>?_;clear hHeld;refine RG [2,5,6,9,13,14,15] [[], [], [0,1], [0,1,2], [0,1,2,3], [0,1,2,3,4], [0,1,2,3,4,5]] [[2,3,4,5,6], [2,3,4,5,6], [3,4,5,6], [4,5,6], [5,6], [6], []] 1 #[true,true,true,true,true,true,true,true,true,true,true,true,true,true,true,true,false] (fun bs a u=>∃(yx zH uI xI gX gW fI:Bool) (gC:Nat) (cC:Nat) (cE:Ic) (gL:Nat),bs = [yx,zH,uI,xI,gX,gW,fI]∧a=(((((((a0.put (some 42) (cond yx (.agg #[.int .i64 1, .int .i64 (o.num), .slice none 0 0, .slice none 0 0]) undef)).put (some 45) (cond zH (.slice (some ⟨gC,0,none⟩) o.rs.size cC) undef)).put (some 46) (cond uI (.agg #[.int .i64 2, .int .i64 (0), .slice (some ⟨gC,0,none⟩) o.rs.size cC, .slice none 0 0]) undef)).put (some 49) (cond xI (.agg #[.int .i64 cE.kind, .int .i64 cE.n, .slice cE.B cE.nb cE.cb, .slice cE.L cE.nl cE.cl]) undef)).put (some 53) (cond gX (.agg #[.int .i64 1, .int .i64 (o.key), .slice none 0 0, .slice none 0 0]) undef)).put (some 54) (cond gW (.slice (some ⟨gL,0,none⟩) 5 5) undef)).put (some 55) (cond fI (.agg #[.int .i64 3, .int .i64 (0), .slice none 0 0, .slice (some ⟨gL,0,none⟩) 5 5]) undef))∧Hid (Below w0.heap.size w0 u∧Below wr.heap.size wr u)∧(zH=true→Hid (Sk .u8 u (some ⟨gC,0,none⟩) (bq o.rs)))∧(zH=true→Hid (w0.heap.size≤gC))∧(xI=true→Hid (rY w0.heap.size u (M8 o.E1 o.E2 o.al o.C o.zs) cE))∧(gW=true→Hid (u.heap[gL]? = some (.cells #[.int .i64 1, .int .i64 o.num, .slice none 0 0, .slice none 0 0, .int .i64 2, .int .i64 0, .slice (some ⟨gC,0,none⟩) o.rs.size cC, .slice none 0 0, .int .i64 cE.kind, .int .i64 cE.n, .slice cE.B cE.nb cE.cb, .slice cE.L cE.nl cE.cl, .int .i64 3, .int .i64 0, .slice none 0 0, .slice L5 k M9, .int .i64 1, .int .i64 o.key, .slice none 0 0, .slice none 0 0] 117)))∧(gW=true→Hid (w0.heap.size≤gL))) ⟨false,false,false,false,false,false,false,0,0,(Ic.mk 0 0 none 0 0 none 0 0),0,rfl,by rw[ha0];simp only[qq],pJ,nofun,nofun,nofun,nofun,nofun⟩ ?_ ⟨?_, ?_, ?_, ?_, ?_, ?_, ?_,trivial⟩
   ·
    rintro bs a u hbs ⟨yx,zH,uI,xI,gX,gW,fI,gC,cC,cE,gL,rfl,rfl,FB,tF,jA,pM,qB,iF⟩;obtain⟨rfl,rfl,rfl,rfl,rfl,rfl,rfl⟩:yx=true∧zH=true∧uI=true∧xI=true∧gX=true∧gW=true∧fI=true:=by simpa using hbs
    have FC:=tF rfl;have Cq:=jA rfl;have HE:=pM rfl;have FL:=qB rfl;have nJ:=iF rfl;clear tF jA pM qB iF;have hHeld:=FB;have hT:=trivial;rw[ha0]
    simp only[qq]
    have vJ:=aa FB.out.1;have Vj:=aa FB.out.2;have qZ:=nZ.out _ (aa FB.out.1);refine oz 16 fun K hK=>?_;rw[show(if Region.wanted _ _=true then _ else _:Prop)=_ from if_pos rfl];refine wp_store_row 117 _ _ rfl (w.heap.size+1) (Ic.cs ⟨3,0,none,0,0,some ⟨gL,0,none⟩,5,5⟩) rfl rfl 117 _ qZ.out (dz _) rfl (kQ _) ?_;refine hK.out _ _ ?_;clear hK K
    try simp only[qq]
    refine gM ?_
    have hit:rY w0.heap.size u (xJ o) ⟨3,0,none,0,0,some ⟨gL,0,none⟩,5,5⟩:=uK (fun k9=>match k9 with | 0=>aR o.num | 1=>aQ (some ⟨gC,0,none⟩) o.rs.size cC | 2=>cE | 3=>⟨3,0,none,0,0,L5,k,M9⟩ | _=>aR o.key) FL.out nJ.out rfl (fun k9 hk=>by
      rcases (show k9=0∨k9=1∨k9=2∨k9=3∨k9=4 by omega)with rfl | rfl | rfl | rfl | rfl <;> exact⟨rfl,rfl,rfl,rfl⟩) (fun k9 hk=>by
      rcases (show k9=0∨k9=1∨k9=2∨k9=3∨k9=4 by omega)with rfl | rfl | rfl | rfl | rfl
      · exact qb _ _ _
      · exact Er FC.out Cq.out (bP _)
      · exact HE.out
      · exact(YB.out.kept FB.out.2).mono (by have:=zy.out;omega)
      · exact qb _ _ _)
    have hit2:=(hit.setRow (g:=w.heap.size+1) (by have:=lV.out;omega) (Ic.cs ⟨3,0,none,0,0,some ⟨gL,0,none⟩,5,5⟩)).mono (lo':=w.heap.size) (by have:=lV.out;omega);have bT:=aj (ag ai.out FB.out.1) (cs:=Ic.cs ⟨3,0,none,0,0,some ⟨gL,0,none⟩,5,5⟩) (Nat.le_add_right w.heap.size 1);have hrw:=setRow_heap _ _ _ (Ic.cs ⟨3,0,none,0,0,some ⟨gL,0,none⟩,5,5⟩) _ _ qZ.out;go_wp2;exact bodyPost_ret (v:=(Ic.mk 3 0 none 0 0 (some ⟨gL,0,none⟩) 5 5).val) (aK (p:=2) (ty:=117) rfl _ _ ⟨w.heap.size+1,0,none⟩ _ rfl (run_loadVar_row _ _ _ _ _ _ _ hrw Tryz.underlying117 rfl (dz _))) rfl ⟨_,rfl,hit2,bT⟩
   ·
    rintro bs a u ⟨yx,zH,uI,xI,gX,gW,fI,gC,cC,cE,gL,rfl,rfl,FB,tF,jA,pM,qB,iF⟩ hr
    simp[kJ,and_assoc]at hr
    obtain⟨rfl,rfl,rfl,rfl,rfl,rfl⟩:=hr;refine⟨_,rfl,fun K hK=>?_⟩;rw[ha0]
    simp only[qq]
    go_simp;refine(uJ o.num _).mono ?_;rintro e wB ⟨rfl,hq⟩;have aX:=bb2 FB hq;refine hK.out _ _ aX ⟨true,zH,false,false,false,false,false,gC,cC,cE,gL,rfl, ?_,aX,fun e=>aa ((tF e).out.below hq),fun e=>(jA e),nofun,nofun,nofun⟩;rw[ha0]
    simp only[qq]
    try rfl
   ·
    rintro bs a u ⟨yx,zH,uI,xI,gX,gW,fI,gC,cC,cE,gL,rfl,rfl,FB,tF,jA,pM,qB,iF⟩ hr
    simp[kJ,and_assoc]at hr
    obtain⟨rfl,rfl,rfl,rfl,rfl,rfl⟩:=hr;refine⟨_,rfl,fun K hK=>?_⟩;rw[ha0]
    simp only[qq]
    go_simp;have aX:=bb2 FB ((af u (.cells (bytesRow o.rs (grownCap u o.rs.size 0 5)) 5 ((bytesRow o.rs (grownCap u o.rs.size 0 5)).size,(bytesRow o.rs (grownCap u o.rs.size 0 5)).size+1))).drew);refine hK.out _ _ aX ⟨yx,true,false,false,false,false,false,u.heap.size,(grownCap u o.rs.size 0 5),cE,gL,rfl, ?_,aX,fun _=>(aa ((nN (heap_alloc_new u _)).below ((Below.refl _ _).drew))),fun _=>(aa (by have:=FB.out.1.size;omega)),nofun,nofun,nofun⟩;rw[ha0]
    simp only[qq]
    try rfl
   ·
    rintro bs a u ⟨yx,zH,uI,xI,gX,gW,fI,gC,cC,cE,gL,rfl,rfl,FB,tF,jA,pM,qB,iF⟩ hr
    simp[kJ,and_assoc]at hr
    obtain⟨rfl,rfl,rfl,rfl,rfl,rfl,rfl⟩:=hr;have FC:=tF rfl;have Cq:=jA rfl;refine⟨_,rfl,fun K hK=>?_⟩;rw[ha0]
    simp only[qq]
    go_simp;refine(zW (some ⟨gC,0,none⟩) o.rs.size cC _).mono ?_;rintro e wB ⟨rfl,hq⟩;have aX:=bb2 FB hq;refine hK.out _ _ aX ⟨true,true,true,false,false,false,false,gC,cC,cE,gL,rfl, ?_,aX,fun _=>aa (FC.out.below hq),fun _=>Cq,nofun,nofun,nofun⟩;rw[ha0]
    simp only[qq]
    try rfl
   ·
    rintro bs a u ⟨yx,zH,uI,xI,gX,gW,fI,gC,cC,cE,gL,rfl,rfl,FB,tF,jA,pM,qB,iF⟩ hr
    simp[kJ,and_assoc]at hr
    obtain⟨rfl,rfl,rfl,rfl,rfl,rfl,rfl⟩:=hr;have FC:=tF rfl;have Cq:=jA rfl;refine⟨_,rfl,fun K hK=>?_⟩;rw[ha0]
    simp only[qq]
    go_simp;refine(Dr o.E1 o.E2 o.A o.na o.ca o.al o.C o.Z o.nz o.cz o.zs q1 q2 (by omega) (by omega) _ (kA.out _ (aa FB.out.2)) (kZ.out _ (aa FB.out.2))).mono ?_;rintro e wB ⟨cB,rfl,hit,hq⟩;have aX:=bb2 FB hq;refine hK.out _ _ aX ⟨true,true,true,true,false,false,false,gC,cC,cB,gL,rfl, ?_,aX,fun _=>aa (FC.out.below hq),fun _=>Cq,fun _=>(aa (hit.mono (by have:=FB.out.1.size;omega))),nofun,nofun⟩;rw[ha0]
    simp only[qq]
    try rfl
   ·
    rintro bs a u ⟨yx,zH,uI,xI,gX,gW,fI,gC,cC,cE,gL,rfl,rfl,FB,tF,jA,pM,qB,iF⟩ hr
    simp[kJ,and_assoc]at hr
    obtain⟨rfl,rfl,rfl,rfl,rfl,rfl,rfl⟩:=hr;have FC:=tF rfl;have Cq:=jA rfl;have HE:=pM rfl;refine⟨_,rfl,fun K hK=>?_⟩;rw[ha0]
    simp only[qq]
    go_simp;refine(uJ o.key _).mono ?_;rintro e wB ⟨rfl,hq⟩;have aX:=bb2 FB hq;refine hK.out _ _ aX ⟨true,true,true,true,true,false,false,gC,cC,cE,gL,rfl, ?_,aX,fun _=>aa (FC.out.below hq),fun _=>Cq,fun _=>aa (HE.out.kept hq),nofun,nofun⟩;rw[ha0]
    simp only[qq]
    try rfl
   ·
    rintro bs a u ⟨yx,zH,uI,xI,gX,gW,fI,gC,cC,cE,gL,rfl,rfl,FB,tF,jA,pM,qB,iF⟩ hr
    simp[kJ,and_assoc]at hr
    obtain⟨rfl,rfl,rfl,rfl,rfl,rfl,rfl⟩:=hr;have FC:=tF rfl;have Cq:=jA rfl;have HE:=pM rfl;refine⟨_,rfl,fun K hK=>?_⟩;rw[ha0]
    simp only[qq]
    go_simp;have aX:=bb2 FB (af u (.cells #[.int .i64 1, .int .i64 o.num, .slice none 0 0, .slice none 0 0, .int .i64 2, .int .i64 0, .slice (some ⟨gC,0,none⟩) o.rs.size cC, .slice none 0 0, .int .i64 cE.kind, .int .i64 cE.n, .slice cE.B cE.nb cE.cb, .slice cE.L cE.nl cE.cl, .int .i64 3, .int .i64 0, .slice none 0 0, .slice L5 k M9, .int .i64 1, .int .i64 o.key, .slice none 0 0, .slice none 0 0] 117));refine hK.out _ _ aX ⟨true,true,true,true,true,true,false,gC,cC,cE,u.heap.size,rfl, ?_,aX,fun _=>aa (FC.out.below (af u (.cells #[.int .i64 1, .int .i64 o.num, .slice none 0 0, .slice none 0 0, .int .i64 2, .int .i64 0, .slice (some ⟨gC,0,none⟩) o.rs.size cC, .slice none 0 0, .int .i64 cE.kind, .int .i64 cE.n, .slice cE.B cE.nb cE.cb, .slice cE.L cE.nl cE.cl, .int .i64 3, .int .i64 0, .slice none 0 0, .slice L5 k M9, .int .i64 1, .int .i64 o.key, .slice none 0 0, .slice none 0 0] 117))),fun _=>Cq,fun _=>aa (HE.out.kept (af u (.cells #[.int .i64 1, .int .i64 o.num, .slice none 0 0, .slice none 0 0, .int .i64 2, .int .i64 0, .slice (some ⟨gC,0,none⟩) o.rs.size cC, .slice none 0 0, .int .i64 cE.kind, .int .i64 cE.n, .slice cE.B cE.nb cE.cb, .slice cE.L cE.nl cE.cl, .int .i64 3, .int .i64 0, .slice none 0 0, .slice L5 k M9, .int .i64 1, .int .i64 o.key, .slice none 0 0, .slice none 0 0] 117))),fun _=>(aa (heap_alloc_new u _)),fun _=>(aa (by have:=FB.out.1.size;omega))⟩;rw[ha0]
    simp only[qq]
    try rfl
   ·
    rintro bs a u ⟨yx,zH,uI,xI,gX,gW,fI,gC,cC,cE,gL,rfl,rfl,FB,tF,jA,pM,qB,iF⟩ hr
    simp[kJ,and_assoc]at hr
    obtain⟨rfl,rfl,rfl,rfl,rfl,rfl,rfl⟩:=hr;have FC:=tF rfl;have Cq:=jA rfl;have HE:=pM rfl;have FL:=qB rfl;have nJ:=iF rfl;refine⟨_,rfl,fun K hK=>?_⟩;rw[ha0]
    simp only[qq]
    go_simp;refine(xM (some ⟨gL,0,none⟩) 5 5 _).mono ?_;rintro e wB ⟨rfl,hq⟩;have aX:=bb2 FB hq;refine hK.out _ _ aX ⟨true,true,true,true,true,true,true,gC,cC,cE,gL,rfl, ?_,aX,fun _=>aa (FC.out.below hq),fun _=>Cq,fun _=>aa (HE.out.kept hq),fun _=>aa (bQ FL.out hq),fun _=>nJ⟩;rw[ha0]
    simp only[qq]
    try rfl
end Go.Proofs.YtchcllcbknfikaaGreatDoor