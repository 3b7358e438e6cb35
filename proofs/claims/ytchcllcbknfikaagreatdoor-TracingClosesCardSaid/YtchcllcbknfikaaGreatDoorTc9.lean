/- Contracts and lemmas: TlH, TlL, TlJ, TlK, TlM, TlN, TlO, TlP, TlQ, Row, TlR, Bef, Bld, Hex, HexR, TlT. -/
import Derived.Laws.AppendOwnNone
import Derived.Deep.MidRow
import Derived.Deep.RegionLaw
import Derived.Shelf.Strings.Builder1
import Derived.Deep.AppendLies
import Derived.Test.YtchcllcbknfikaaGreatDoorTc8
set_option linter.unusedVariables false
set_option linter.unusedSimpArgs false
set_option maxRecDepth 100000
set_option maxHeartbeats 25600000
namespace Go.Proofs.YtchcllcbknfikaaGreatDoor
open Go.RowKit sH
theorem RU (O:Option Addr)(n c:Nat)(K:Option Addr)(m d:Nat)(h:¬n≤100)(hb1:n≤1000000)(w:World) :
  Calls Tryz.prog 85 #[iA O n c K m d] w (Rt w (.bool false)):=by
 have dn:decide ((100:Int)<(n:Int))=true:=by simp;omega
 obtain⟨w0,HW,ai,kC⟩:=st1 (jC O n c K m d) qx w;have ah:=bI w0;go_in
 go_upto_region 1 with(fail)
 rw[HW.out];have zc:=kC.out _ ah;go_wp2;go_ret;exact⟨rfl,f_ ai ah⟩
theorem RS (O:Option Addr)(os:List aG)(n c:Nat)(K:Option Addr)(hs:List (List Int))(m d:Nat)(hn:Hid (os.length=n))(hm:Hid (hs.length=m))(hI:∀k,k<n→dD (bz os k))(hb1:n≤1000000)(hb2:m≤1000000)(Xl:n≤100)(r:Bool)(hr:Kp (gJ os hs=r))(w:World)(hv:Hid (bB w))(hO:Hid (Os w O os))(hK:Hid (Hs w K hs)) :
  Calls Tryz.prog 85 #[iA O n c K m d] w (Rt w (.bool r)):=by
 have dn:decide ((100:Int)<(n:Int))=false:=by simp;omega
 obtain⟨w0,HW,ai,kC⟩:=st1 (jC O n c K m d) qx w;have kD:=oF ai hv;have E_:=fo (fun u=>Os u O os) ai hO (·.below);have KN:=fo (fun u=>Hs u K hs) ai hK (·.below);have ah:=bI w0;clear hv hO hK;go_in
 go_upto_region 1 with(fail)
 rw[HW.out];have zc:=kC.out _ ah;have Us:=ah;have hq0:=af w0 (.cells z32 41);have ax:=bJ ah hq0;clear hq0;have pK:=kC.out _ ax;go_wp2;clear zc pK;obtain⟨W,hW⟩:∃x,w0.alloc (.cells z32 41)=x:=⟨_,rfl⟩;rw[hW]at ax;have cu:=ax;obtain⟨B,hB⟩:∃x,w0.heap.size=x:=⟨_,rfl⟩;have zy:Hid (W.heap.size=B+1∧w0.heap.size≤B):=aa ⟨by rw[←hW,←hB];simp,by rw[←hB];exact Nat.le_refl _⟩;have HK0:Hid (bS .u8 41 W B (dL 32)):=aa (by rw[←hW,←hB,jR];exact bS.new _ _);rw[hW,hB];have Ie:=aa hW;have J3:=aa hB;clear hW hB Us
 go_loopw [5,6] (fun ce i u=>∃(k:Nat) (h:List Int),k≤n∧i = .int .i64 k∧ce = .int .i64 (zn os k)∧Hid (zV os hs n k=true)∧Kp (hbL os k=h)∧Hid (bS .u8 41 u B h)∧Hid (Below B W u)) (fun _ i _=>n-(intOf i).toNat)
 case atStart=>exact⟨0,dL 32,by omega,rfl,rfl,aa rfl,⟨rfl⟩,HK0,aa (Below.refl _ _)⟩
 case round=>
  obtain⟨k,h,hk,rfl,rfl,HST,yZ,Il,aD⟩:=hrel;have jw:Hid (Below w0.heap.size w0 wr):=aa (cu.out.trans (aD.out.mono zy.out.2));have HL:Hid (h.length=32):=aa (by rw[←yZ.1];exact lN _ _);have HBY:Hid (aF h=true):=aa (by rw[←yZ.1];exact uf _ _)
  by_cases hlt:k<n
  ·
   have hkl:k<os.length:=by rw[hn.out];exact hlt
   obtain⟨b,f,hA,h9,hok⟩:=(E_.out _ jw).out k hkl;subst hA;have hoi:=hI k hlt;have hcl:zn os k=k:=K6 HST.out hlt;rw[hcl];obtain⟨o,ho⟩:∃o,os.getD k dN=o:=⟨_,rfl⟩;have oI:Hid (bz os k=o):=aa ho;rw[ho]at h9 hok;have Pj:dD o:=by rw[←ho];exact hoi
   have yX:=aa Pj;have jy:=aa hok;obtain⟨j0,j1,j2,j3,j4,j5,j6,j7,j8⟩:=h9;have dw:IntKind.i64.wrap ((n:Int)-1)=(n:Int)-1:=IntWalk.i64_in _ (by omega);have dw2:wrap64 ((n:Int)-1)=(n:Int)-1:=IntWalk.wrap64_in _ (by omega);have si:=aa hcl;clear ho hoi Pj hok hkl hcl;have eZ:=bI wr;have kOo:=nQ (w:=wr) (fun u=>dM u o) jy.out (·.below);have Wv:=nQ (w:=wr) (fun u=>bS .u8 41 u B h) Il.out (·.below);have zc:=kC.out _ jw;obtain⟨w2,hw,lW,yV,-,kS⟩:=pO (l6 o) zq wr;have az:=iW jw lW;have bM:=iW eZ lW;have aM:=bI w2;clear lW;have pK:=kC.out _ az;have l_:=kS.out _ aM
   go_wp2_with fail
   clear zc pK l_ hw;have zc:=kC.out _ az;have jW:=kS.out _ aM;clear j0 j1 j2 j3 j4 j5 j6 j7 j8;obtain⟨ob,oG⟩:∃x,Cw o=x:=⟨_,rfl⟩;have J4:=aa oG;clear oG
   go_wp2_with fail
   clear zc jW;refine um az bM aM (IZ o ob J4 _ (kOo.out _ bM)) fun w3 aW cK eG=>?_;have zc:=kC.out _ aW;have jW:=kS.out _ eG
   cases ob with
   | true=>
    have oG:=J4.out
    by_cases jd:o.num=(k:Int)
    ·
     have Iz:(o.num != (k:Int))=false:=by simpa using jd
     by_cases hkey:o.key=0
     ·
      have dk1:(o.key == 0)=true:=by simpa using hkey
      by_cases hlast:k+1=n
      ·
       have dl1:decide ((k:Int)<(n:Int)-1)=false:=by simp;omega
       have HS2:Hid (zV os hs n (k+1)=true):=aa (by rw[zV,HST.out,DU,oI.out];simp[oG,hkey,jd,hlast]);have QV:Kp (hbL os (k+1)=h):=⟨by rw[hbL,oI.out,if_pos hkey];exact yZ.1⟩;have YL:Hid (zn os (k+1)=k):=aa (by simp[zn,oI.out,hkey,si.out]);clear oG hkey jd hlast;have HBn:Hid (Below B W w3):=aa (aD.out.trans (cK.out.mono (by have:=aD.out.size;have:=zy.out.1;omega)));have HKn:Hid (bS .u8 41 w3 B h):=(Wv.out _ cK);go_wp2
       go_roundw
       case rel=>exact⟨k+1,h,by omega,by go_num,by rw[YL.out],HS2,QV,HKn,HBn⟩
       case measure=>simp[intOf];omega
      ·
       have dl1:decide ((k:Int)<(n:Int)-1)=true:=by simp;omega
       have WT:k+1≠n:=hlast;obtain rfl:r=false:=hr.1.symm.trans (mM hn.out hlt (by rw[DU,oI.out];simp[oG,hkey,WT]));clear oG hkey jd hlast WT;go_wp2;go_ret;exact⟨rfl,f_ ai aW⟩
     ·
      have dk1:(o.key == 0)=false:=by simpa using hkey
      obtain⟨RR,hRR⟩:∃x,zI h o=x:=⟨_,rfl⟩;have HRR:Kp (zI h o=RR):=⟨hRR⟩;have fQ:Hid (RR.length=32):=aa (by rw[←hRR];exact xL _ _);have QV:Kp (hbL os (k+1)=RR):=⟨by rw[hbL,oI.out,if_neg hkey,yZ.1];exact hRR⟩;have Yz:=aa hkey;have Yp:=aa jd;clear oG hkey jd hRR;have CP:=(Wv.out _ cK)
      go_wp2_with ((with_reducible show wpList _ _ _ (⟨some 46,_,_,_,_,_⟩::_) _ _);refine wpList_load_row rfl 41 _ rfl B rfl _ _ _ _ CP.out Tryz.underlying41 rfl (aH HL.out) ?_)
      refine(C9 h HL HBY o yX (jM J4.out jy.out) _ (kD.out _ aW) (kOo.out _ cK)).mono ?_;rintro e w4 ⟨rfl,hb0⟩;rw[HRR.1];have bE:=bJ aW hb0;have fA:=bJ cK hb0;have jm:=bJ eG hb0;clear zc jW hb0;have zc:=kC.out _ bE;have jW:=kS.out _ jm;have Cb:=(Wv.out _ fA);obtain⟨wz,hwz⟩:∃x,w4.setRow B (arr .u8 RR)=x:=⟨_,rfl⟩;have wJ:Hid (Below B W wz):=aa (by rw[←hwz];exact aj (aD.out.trans (fA.out.mono (by have:=aD.out.size;have:=zy.out.1;omega))) (Nat.le_refl _));have B_:Hid (Below w0.heap.size w0 wz):=aa (cu.out.trans (wJ.out.mono zy.out.2));have Kb:Hid (bS .u8 41 wz B RR):=aa (by rw[←hwz];exact Cb.out.setRow)
      go_upto_region 14 with((with_reducible show wpList _ _ _ (⟨none,_,_,_,_,_⟩::_) _ _);refine wpList_store_row rfl 41 _ _ rfl B (arr .u8 RR) rfl rfl _ _ Cb.out (aH fQ.out) (fu HL.out fQ.out) (dG _) ?_)
      clear zc jW;rw[hwz];clear hwz CP Cb
      by_cases hkm:m≤k
      ·
       have oG:=J4.out;have hkey:=Yz.out;have jd:=Yp.out;have dm1:decide ((m:Int)≤(k:Int))=true:=by simp;omega
       obtain rfl:r=false:=hr.1.symm.trans (mM hn.out hlt (by rw[DU,oI.out];simp[oG,hkey,jd,hm.out];omega));clear oG hkey jd;have lY:=bI wz;have hO:=aa (fun(u:World) (h:Hid (Below w0.heap.size w0 u∧Below wz.heap.size wz u))=>kC.out u (aa h.out.1));refine uG (fun u=>Below w0.heap.size w0 u∧Below wz.heap.size wz u) [] (bb2 (aa ⟨B_.out,lY.out⟩) ((Below.refl _ _).drew)) (fun hHeld=>?_);refine aP 0 1 2 3 ?_;refine aL 4 ?_;refine aL 5 ?_;refine eO 6 7 8 9 ?_;refine lC 10 ?_;refine lC 11 ?_;refine lC 12 ?_;refine aL 13 ?_;refine gM ?_;clear hO;have iE:=(aa hHeld.out.1);have mK:=(aa hHeld.out.2);clear hHeld;have zc:=kC.out _ iE;have zT:Hid (Below B W wz.drew):=aa (wJ.out.trans (mK.out.mono (by have:=wJ.out.size;have:=zy.out.1;omega)));go_wp2;go_ret;exact⟨rfl,f_ ai iE⟩
      ·
       cases hrq:(hsL hs k == zI h o)with
       | true=>
        have oG:=J4.out;have hkey:=Yz.out;have jd:=Yp.out;have dm1:decide ((m:Int)≤(k:Int))=false:=by simp;omega
        have WU:k<m:=by omega
        obtain⟨b2,f2,hA2,hl2,hrg2⟩:=(KN.out _ B_).out k (by rw[hm.out];omega);subst hA2;obtain⟨Ew,hhk⟩:∃x,hsL hs k=x:=⟨_,rfl⟩;rw[hhk]at hl2 hrg2;have HL2:=aa hl2;have YD:=aa hrg2;have YE:=aa hhk;rw[hhk,HRR.1]at hrq;have hbq:(!(Ew == RR))=false:=by rw[hrq];rfl
        clear hl2 hrg2 hhk;have HS2:Hid (zV os hs n (k+1)=true):=aa (by rw[zV,HST.out,DU,oI.out,QV.1,YE.out];simp[oG,hm.out,hrq,hkey,jd];omega);have YL:Hid (zn os (k+1)=k+1):=aa (by simp[zn,oI.out,hkey,si.out]);clear oG hkey jd hrq;have lY:=bI wz;have hO:=aa (fun(u:World) (h:Hid (Below w0.heap.size w0 u∧Below wz.heap.size wz u))=>kC.out u (aa h.out.1));refine uG (fun u=>Below w0.heap.size w0 u∧Below wz.heap.size wz u) [] (bb2 (aa ⟨B_.out,lY.out⟩) ((Below.refl _ _).drew)) (fun hHeld=>?_);refine aP 0 1 2 3 ?_;refine aP 4 5 6 7 ?_;refine aL 8 ?_;refine aL 9 ?_;refine Cf 10 (.agg (arr .u8 Ew)) rfl (mg 41 _ rfl b2 (f2+k*32) rfl (Ew.map (Value.int .u8)) _ (fun _ hq=>fF YD.out hq.out.2) Tryz.underlying41 rfl (ni HL2.out)) ?_;refine Cf 11 (.agg (arr .u8 RR)) rfl (ig 41 _ rfl B rfl _ _ _ _ (fun _ hq=>Kb.out.below hq.out.2) Tryz.underlying41 rfl (aH fQ.out)) ?_;refine Cf 12 (.bool false) rfl (iX _ _ _ rfl Ew RR HL2.out fQ.out rfl rfl _ hbq) ?_;refine aL 13 ?_;refine gM ?_;clear hO;have iE:=(aa hHeld.out.1);have mK:=(aa hHeld.out.2);clear hHeld;have zc:=kC.out _ iE;have zT:Hid (Below B W wz.drew):=aa (wJ.out.trans (mK.out.mono (by have:=wJ.out.size;have:=zy.out.1;omega)));have YA:Hid (bS .u8 41 wz.drew B RR):=aa (Kb.out.below mK.out);go_wp2
        go_roundw
        case rel=>exact⟨k+1,RR,by omega,by go_num,by rw[YL.out];go_num,HS2,QV,YA,zT⟩
        case measure=>simp[intOf];omega
       | false=>
        have oG:=J4.out;have hkey:=Yz.out;have jd:=Yp.out;have dm1:decide ((m:Int)≤(k:Int))=false:=by simp;omega
        have WU:k<m:=by omega
        obtain⟨b2,f2,hA2,hl2,hrg2⟩:=(KN.out _ B_).out k (by rw[hm.out];omega);subst hA2;obtain⟨Ew,hhk⟩:∃x,hsL hs k=x:=⟨_,rfl⟩;rw[hhk]at hl2 hrg2;have HL2:=aa hl2;have YD:=aa hrg2;have YE:=aa hhk;rw[hhk,HRR.1]at hrq;have hbq:(!(Ew == RR))=true:=by rw[hrq];rfl
        clear hl2 hrg2 hhk;obtain rfl:r=false:=hr.1.symm.trans (mM hn.out hlt (by rw[DU,oI.out];simp[oG,hkey,jd,hm.out,YE.out,QV.1,hrq]));clear oG hkey jd hrq;have lY:=bI wz;have hO:=aa (fun(u:World) (h:Hid (Below w0.heap.size w0 u∧Below wz.heap.size wz u))=>kC.out u (aa h.out.1));refine uG (fun u=>Below w0.heap.size w0 u∧Below wz.heap.size wz u) [] (bb2 (aa ⟨B_.out,lY.out⟩) ((Below.refl _ _).drew)) (fun hHeld=>?_);refine aP 0 1 2 3 ?_;refine aP 4 5 6 7 ?_;refine aL 8 ?_;refine aL 9 ?_;refine Cf 10 (.agg (arr .u8 Ew)) rfl (mg 41 _ rfl b2 (f2+k*32) rfl (Ew.map (Value.int .u8)) _ (fun _ hq=>fF YD.out hq.out.2) Tryz.underlying41 rfl (ni HL2.out)) ?_;refine Cf 11 (.agg (arr .u8 RR)) rfl (ig 41 _ rfl B rfl _ _ _ _ (fun _ hq=>Kb.out.below hq.out.2) Tryz.underlying41 rfl (aH fQ.out)) ?_;refine Cf 12 (.bool true) rfl (iX _ _ _ rfl Ew RR HL2.out fQ.out rfl rfl _ hbq) ?_;refine aL 13 ?_;refine gM ?_;clear hO;have iE:=(aa hHeld.out.1);have mK:=(aa hHeld.out.2);clear hHeld;have zc:=kC.out _ iE;have zT:Hid (Below B W wz.drew):=aa (wJ.out.trans (mK.out.mono (by have:=wJ.out.size;have:=zy.out.1;omega)));go_wp2;go_ret;exact⟨rfl,f_ ai iE⟩
    ·
     have Iz:(o.num != (k:Int))=true:=by simpa using jd
     obtain rfl:r=false:=hr.1.symm.trans (mM hn.out hlt (by rw[DU,oI.out];simp[oG,jd]));clear oG jd;go_wp2;go_ret;exact⟨rfl,f_ ai aW⟩
   | false=>
    have oG:=J4.out;obtain rfl:r=false:=hr.1.symm.trans (mM hn.out hlt (by rw[DU,oI.out];simp[oG]));clear oG;go_wp2;go_ret;exact⟨rfl,f_ ai aW⟩
  ·
   obtain rfl:k=n:=by omega
   have hre:((((zn os k:Nat):Int)) == ((m:Nat):Int))=r:=by
    rw[←hr.1,gJ,hn.out,HST.out,hm.out,decide_eq_true Xl];simp only[Bool.true_and];rw[Bool.eq_iff_iff];simp;omega
   have Pd:((((m:Nat):Int)) == ((zn os k:Nat):Int))=r:=by rw[←hre,BEq.comm]
   obtain⟨q,hq⟩:∃q,zn os k=q:=⟨_,rfl⟩;rw[hq]at hre Pd ⊢;clear hq;have zc:=kC.out _ jw;have bT:=ag ai.out jw.out;go_wp2;go_ret;exact⟨by first | rfl | rw[hre] | rw[Pd],bT⟩
theorem qG (O:Option Addr)(os:List aG)(n c:Nat)(K:Option Addr)(hs:List (List Int))(m d:Nat)(hn:Hid (os.length=n))(hm:Hid (hs.length=m))(hI:∀k,k<n→dD (bz os k))(hb1:n≤1000000)(hb2:m≤1000000)(r:Bool)(hr:Kp (gJ os hs=r))(w:World)(hv:Hid (bB w))(hO:Hid (Os w O os))(hK:Hid (Hs w K hs)) :
  Calls Tryz.prog 85 #[iA O n c K m d] w (Rt w (.bool r)):=by
 by_cases h:n≤100
 · exact RS O os n c K hs m d hn hm hI hb1 hb2 h r hr w hv hO hK
 ·
  obtain rfl:r=false:=hr.1.symm.trans (by rw[gJ,hn.out,decide_eq_false h];rfl);exact RU O n c K m d h hb1 w
theorem Di (A:Option Addr)(na ca:Nat)(C:Int)(Z:Option Addr)(nz cz:Nat)(w:World) :
  Calls Tryz.prog 23 #[jL A na ca C Z nz cz] w fun e' w'=>∃b:Bool,e' = .returned (.bool b)∧Below w.heap.size w w':=by
 have HX:=af w (fU A na ca C Z nz cz)
 by_cases h0:na≤30
 ·
  have d0:decide ((na:Int)≤30)=true:=by simp;omega
  by_cases h1:nz≤30
  ·
   have d1:decide ((nz:Int)≤30)=true:=by simp;omega
   go_in;go_wp2;go_ret;exact⟨_,rfl,HX⟩
  ·
   have d1:decide ((nz:Int)≤30)=false:=by simp;omega
   go_in;go_wp2;go_ret;exact⟨_,rfl,HX⟩
 ·
  have d0:decide ((na:Int)≤30)=false:=by simp;omega
  go_in;go_wp2;go_ret;exact⟨_,rfl,HX⟩
theorem aa0 (p:aS)(w:World) :
  Calls Tryz.prog 71 #[Gc p] w fun e' w'=>∃b:Bool,e' = .returned (.bool b)∧Below w.heap.size w w':=by
 obtain⟨w0,HW,ai,kC⟩:=st1 (sM p) vF w;have ah:=bI w0;go_in
 go_wp2_with fail
 rw[HW.out];have zc:=kC.out _ ah
 go_wp2_with fail
 refine(Di p.A p.na p.ca p.C p.Z p.nz p.cz _).mono ?_;rintro e w1 ⟨b,rfl,hb0⟩;have ax:=bJ ah hb0;clear zc hb0;have zc:=kC.out _ ax;have bT:=ag ai.out ax.out
 cases b with
 | false=>go_wp2;go_ret;exact⟨_,rfl,bT⟩
 | true=>go_wp2;go_ret;exact⟨_,rfl,bT⟩
theorem S9 (A:Option Addr)(xs:List aS)(n c:Nat)(hn:Hid (xs.length=n))(hbig:n<1000000)(w:World)(hs:Hid (Pa w A xs)) :
  Calls Tryz.prog 124 #[.slice A n c, .func (.func 71) #[] #[]] w fun e w'=>∃i:Int,e = .returned (.int .i64 i)∧Below w.heap.size w w':=by
 go_in;go_wp2
 go_loopw [8] (fun i wr=>∃k:Nat,k≤n∧i = .int .i64 k∧Hid (Below w.heap.size w wr)) (fun i _=>n-(intOf i).toNat)
 case atStart=>exact⟨0,by omega,rfl,aa (Below.refl _ _)⟩
 case round=>
  obtain⟨k,hk,rfl,aD⟩:=hrel
  by_cases hlt:k<n
  ·
   have hkl:k<xs.length:=by rw[hn.out];exact hlt
   obtain⟨b,o,hA,i0,i1,i2,i3,i4,i5⟩:=(hs.out.below aD.out) k hkl;subst hA;clear i5;obtain⟨p,hp⟩:∃p,xs.getD k aC=p:=⟨_,rfl⟩;rw[hp]at i0 i1 i2 i3 i4;clear hp hkl
   go_wp2_with fail
   refine(aa0 p wr).mono ?_;rintro e w2 ⟨b9,rfl,hb0⟩;have HB2:=aa (ag aD.out hb0);clear hb0 aD i0 i1 i2 i3 i4
   cases b9 with
   | false=>
    go_wp2
    go_roundw
    case rel=>exact⟨k+1,by omega,by go_num,HB2⟩
    case measure=>simp[intOf];omega
   | true=>
    go_wp2;go_ret;exact⟨_,rfl,HB2.out⟩
  ·
   obtain rfl:k=n:=by omega
   go_wp2;go_ret;exact⟨_,rfl,aD.out⟩
theorem JP (A:Option Addr)(xs:List aS)(n c:Nat)(hn:Hid (xs.length=n))(hbig:n<1000000)(w:World)(hs:Hid (Pa w A xs)) :
  Calls Tryz.prog 70 #[.slice A n c, .func (.func 71) #[] #[]] w fun e' w'=>∃b:Bool,e' = .returned (.bool b)∧Below w.heap.size w w':=by
 go_in
 go_wp2_with fail
 refine(S9 A xs n c hn hbig _ hs).mono ?_;rintro e w1 ⟨i,rfl,hb1⟩;go_wp2;go_ret;exact⟨_,rfl,hb1⟩
theorem Xo (o:aG)(h:300<o.rs.size)(w:World) :
  Calls Tryz.prog 69 #[zD o] w fun e' w'=>∃b:Bool,e' = .returned (.bool b)∧Below w.heap.size w w':=by
 have d0:decide ((300:Int)<(o.rs.size:Int))=true:=by simp;omega
 obtain⟨w0,HW,ai,kC⟩:=st1 (l6 o) zq w;have ah:=bI w0;go_in
 go_upto_region 1 with(fail)
 rw[HW.out];have zc:=kC.out _ ah;have bT:=ag ai.out ah.out;go_wp2;go_ret;exact⟨_,rfl,bT⟩
theorem Xn (o:aG)(h0:¬300<o.rs.size)(h:12<o.np)(w:World) :
  Calls Tryz.prog 69 #[zD o] w fun e' w'=>∃b:Bool,e' = .returned (.bool b)∧Below w.heap.size w w':=by
 have d0:decide ((300:Int)<(o.rs.size:Int))=false:=by simp;omega
 have d1:decide ((12:Int)<(o.np:Int))=true:=by simp;omega
 obtain⟨w0,HW,ai,kC⟩:=st1 (l6 o) zq w;have ah:=bI w0;go_in
 go_upto_region 1 with(fail)
 rw[HW.out];have zc:=kC.out _ ah;have bT:=ag ai.out ah.out;go_wp2;go_ret;exact⟨_,rfl,bT⟩
theorem Xm (o:aG)(h0:¬300<o.rs.size)(h:¬12<o.np)(w:World)(ho:Hid (dM w o)) :
  Calls Tryz.prog 69 #[zD o] w fun e' w'=>∃b:Bool,e' = .returned (.bool b)∧Below w.heap.size w w':=by
 have d0:decide ((300:Int)<(o.rs.size:Int))=false:=by simp;omega
 have d1:decide ((12:Int)<(o.np:Int))=false:=by simp;omega
 obtain⟨w0,HW,ai,kC⟩:=st1 (l6 o) zq w;have kO:=fo (fun u=>dM u o) ai ho (·.below);have ah:=bI w0;clear ho;go_in
 go_upto_region 1 with(fail)
 rw[HW.out];have zc:=kC.out _ ah
 go_wp2_with fail
 refine(Di o.A o.na o.ca o.C o.Z o.nz o.cz _).mono ?_;rintro e w1 ⟨b,rfl,hb0⟩;have ax:=bJ ah hb0;clear zc hb0;have zc:=kC.out _ ax
 cases b with
 | false=>
  have bT:=ag ai.out ax.out;go_wp2;go_ret;exact⟨_,rfl,bT⟩
 | true=>
  go_wp2_with fail
  refine(JP o.L o.ps o.np o.cp (aa ((kO.out _ ax)).out.2.2.1.1) (by omega) _ (aa ((kO.out _ ax)).out.2.2.2.2.2)).mono ?_;rintro e w2 ⟨b2,rfl,hb0⟩;have az:=bJ ax hb0;clear zc hb0;have zc:=kC.out _ az;have bT:=ag ai.out az.out;go_wp2;go_ret;exact⟨_,rfl,bT⟩
theorem PN (o:aG)(w:World)(ho:Hid (dM w o)) :
  Calls Tryz.prog 69 #[zD o] w fun e' w'=>∃b:Bool,e' = .returned (.bool b)∧Below w.heap.size w w':=by
 by_cases h0:300<o.rs.size
 · exact Xo o h0 w
 ·
  by_cases h1:12<o.np
  · exact Xn o h0 h1 w
  · exact Xm o h0 h1 w ho
theorem WA (A:Option Addr)(xs:List aG)(n c:Nat)(hn:Hid (xs.length=n))(hbig:n<1000000)(w:World)(hs:Hid (Os w A xs)) :
  Calls Tryz.prog 123 #[.slice A n c, .func (.func 69) #[] #[]] w fun e w'=>∃i:Int,e = .returned (.int .i64 i)∧Below w.heap.size w w':=by
 go_in;go_wp2
 go_loopw [8] (fun i wr=>∃k:Nat,k≤n∧i = .int .i64 k∧Hid (Below w.heap.size w wr)) (fun i _=>n-(intOf i).toNat)
 case atStart=>exact⟨0,by omega,rfl,aa (Below.refl _ _)⟩
 case round=>
  obtain⟨k,hk,rfl,aD⟩:=hrel
  by_cases hlt:k<n
  ·
   have hkl:k<xs.length:=by rw[hn.out];exact hlt
   obtain⟨b,o,hA,i9,iok⟩:=(hs.out.below aD.out) k hkl;obtain⟨i0,i1,i2,i3,i4,i5,i6,i7,i8⟩:=i9;subst hA;obtain⟨p,hp⟩:∃p,xs.getD k dN=p:=⟨_,rfl⟩;rw[hp]at i0 i1 i2 i3 i4 i5 i6 i7 i8 iok;have jy:=aa iok;clear iok hp hkl
   go_wp2_with fail
   refine(PN p wr jy).mono ?_;rintro e w2 ⟨b9,rfl,hb0⟩;have HB2:=aa (ag aD.out hb0);clear hb0 aD i0 i1 i2 i3 i4 i5 i6 i7 i8
   cases b9 with
   | false=>
    go_wp2
    go_roundw
    case rel=>exact⟨k+1,by omega,by go_num,HB2⟩
    case measure=>simp[intOf];omega
   | true=>
    go_wp2;go_ret;exact⟨_,rfl,HB2.out⟩
  ·
   obtain rfl:k=n:=by omega
   go_wp2;go_ret;exact⟨_,rfl,aD.out⟩
theorem Dx (A:Option Addr)(xs:List aG)(n c:Nat)(hn:Hid (xs.length=n))(hbig:n<1000000)(w:World)(hs:Hid (Os w A xs)) :
  Calls Tryz.prog 68 #[.slice A n c, .func (.func 69) #[] #[]] w fun e' w'=>∃b:Bool,e' = .returned (.bool b)∧Below w.heap.size w w':=by
 go_in
 go_wp2_with fail
 refine(WA A xs n c hn hbig _ hs).mono ?_;rintro e w1 ⟨i,rfl,hb1⟩;go_wp2;go_ret;exact⟨_,rfl,hb1⟩
theorem aaZ (O:Option Addr)(n c:Nat)(K:Option Addr)(m d:Nat)(h:12<n)(h1:n≤100)(w:World) :
  Calls Tryz.prog 22 #[iA O n c K m d] w fun e' w'=>∃b:Bool,e' = .returned (.bool b)∧(b=true→n≤110∧m≤120)∧Below w.heap.size w w':=by
 have d0:decide ((12:Int)<(n:Int))=true:=by simp;omega
 have d1:decide ((n:Int)≤100)=true:=by simp;omega
 obtain⟨w0,HW,ai,kC⟩:=st1 (jC O n c K m d) qx w;have ah:=bI w0;go_in
 go_upto_region 1 with(fail)
 rw[HW.out];have zc:=kC.out _ ah;have bT:=ag ai.out ah.out;go_wp2;go_ret;exact⟨false,by first | rfl | simp,fun h9=>Bool.noConfusion h9,bT⟩
theorem aaY (O:Option Addr)(n c:Nat)(K:Option Addr)(m d:Nat)(h:110<n)(w:World) :
  Calls Tryz.prog 22 #[iA O n c K m d] w fun e' w'=>∃b:Bool,e' = .returned (.bool b)∧(b=true→n≤110∧m≤120)∧Below w.heap.size w w':=by
 have d0:decide ((12:Int)<(n:Int))=true:=by simp;omega
 have d1:decide ((n:Int)≤100)=false:=by simp;omega
 have d2:decide ((110:Int)<(n:Int))=true:=by simp;omega
 obtain⟨w0,HW,ai,kC⟩:=st1 (jC O n c K m d) qx w;have ah:=bI w0;go_in
 go_upto_region 1 with(fail)
 rw[HW.out];have zc:=kC.out _ ah;have bT:=ag ai.out ah.out;go_wp2;go_ret;exact⟨false,by first | rfl | simp,fun h9=>Bool.noConfusion h9,bT⟩
theorem aaX (O:Option Addr)(n c:Nat)(K:Option Addr)(m d:Nat)(h:¬12<n)(h1:120<m)(w:World) :
  Calls Tryz.prog 22 #[iA O n c K m d] w fun e' w'=>∃b:Bool,e' = .returned (.bool b)∧(b=true→n≤110∧m≤120)∧Below w.heap.size w w':=by
 have d0:decide ((12:Int)<(n:Int))=false:=by simp;omega
 have d2:decide ((110:Int)<(n:Int))=false:=by simp;omega
 have d3:decide ((120:Int)<(m:Int))=true:=by simp;omega
 obtain⟨w0,HW,ai,kC⟩:=st1 (jC O n c K m d) qx w;have ah:=bI w0;go_in
 go_upto_region 1 with(fail)
 rw[HW.out];have zc:=kC.out _ ah;have bT:=ag ai.out ah.out;go_wp2;go_ret;exact⟨false,by first | rfl | simp,fun h9=>Bool.noConfusion h9,bT⟩
theorem aaW (O:Option Addr)(n c:Nat)(K:Option Addr)(m d:Nat)(h:¬n≤100)(h2:n≤110)(h1:120<m)(w:World) :
  Calls Tryz.prog 22 #[iA O n c K m d] w fun e' w'=>∃b:Bool,e' = .returned (.bool b)∧(b=true→n≤110∧m≤120)∧Below w.heap.size w w':=by
 have d0:decide ((12:Int)<(n:Int))=true:=by simp;omega
 have d1:decide ((n:Int)≤100)=false:=by simp;omega
 have d2:decide ((110:Int)<(n:Int))=false:=by simp;omega
 have d3:decide ((120:Int)<(m:Int))=true:=by simp;omega
 obtain⟨w0,HW,ai,kC⟩:=st1 (jC O n c K m d) qx w;have ah:=bI w0;go_in
 go_upto_region 1 with(fail)
 rw[HW.out];have zc:=kC.out _ ah;have bT:=ag ai.out ah.out;go_wp2;go_ret;exact⟨false,by first | rfl | simp,fun h9=>Bool.noConfusion h9,bT⟩
theorem aaV (O:Option Addr)(os:List aG)(n c:Nat)(K:Option Addr)(m d:Nat)(hn:Hid (os.length=n))(h:¬12<n)(h1:¬120<m)(w:World)(hO:Hid (Os w O os)) :
  Calls Tryz.prog 22 #[iA O n c K m d] w fun e' w'=>∃b:Bool,e' = .returned (.bool b)∧(b=true→n≤110∧m≤120)∧Below w.heap.size w w':=by
 have d0:decide ((12:Int)<(n:Int))=false:=by simp;omega
 have d2:decide ((110:Int)<(n:Int))=false:=by simp;omega
 have d3:decide ((120:Int)<(m:Int))=false:=by simp;omega
 obtain⟨w0,HW,ai,kC⟩:=st1 (jC O n c K m d) qx w;have E_:=fo (fun u=>Os u O os) ai hO (·.below);have ah:=bI w0;clear hO;go_in
 go_upto_region 1 with(fail)
 rw[HW.out];have zc:=kC.out _ ah
 go_wp2_with fail
 refine(Dx O os n c hn (by omega) _ (E_.out _ ah)).mono ?_;rintro e w1 ⟨b,rfl,hb0⟩;have ax:=bJ ah hb0;clear zc hb0;have zc:=kC.out _ ax;have bT:=ag ai.out ax.out;go_wp2;go_ret;exact⟨_,rfl,fun _=>⟨by omega,by omega⟩,bT⟩
theorem aaU (O:Option Addr)(os:List aG)(n c:Nat)(K:Option Addr)(m d:Nat)(hn:Hid (os.length=n))(h:¬n≤100)(h2:n≤110)(h1:¬120<m)(w:World)(hO:Hid (Os w O os)) :
  Calls Tryz.prog 22 #[iA O n c K m d] w fun e' w'=>∃b:Bool,e' = .returned (.bool b)∧(b=true→n≤110∧m≤120)∧Below w.heap.size w w':=by
 have d0:decide ((12:Int)<(n:Int))=true:=by simp;omega
 have d1:decide ((n:Int)≤100)=false:=by simp;omega
 have d2:decide ((110:Int)<(n:Int))=false:=by simp;omega
 have d3:decide ((120:Int)<(m:Int))=false:=by simp;omega
 obtain⟨w0,HW,ai,kC⟩:=st1 (jC O n c K m d) qx w;have E_:=fo (fun u=>Os u O os) ai hO (·.below);have ah:=bI w0;clear hO;go_in
 go_upto_region 1 with(fail)
 rw[HW.out];have zc:=kC.out _ ah
 go_wp2_with fail
 refine(Dx O os n c hn (by omega) _ (E_.out _ ah)).mono ?_;rintro e w1 ⟨b,rfl,hb0⟩;have ax:=bJ ah hb0;clear zc hb0;have zc:=kC.out _ ax;have bT:=ag ai.out ax.out;go_wp2;go_ret;exact⟨_,rfl,fun _=>⟨by omega,by omega⟩,bT⟩
theorem MF (O:Option Addr)(os:List aG)(n c:Nat)(K:Option Addr)(m d:Nat)(hn:Hid (os.length=n))(w:World)(hO:Hid (Os w O os)) :
  Calls Tryz.prog 22 #[iA O n c K m d] w fun e' w'=>∃b:Bool,e' = .returned (.bool b)∧(b=true→n≤110∧m≤120)∧Below w.heap.size w w':=by
 by_cases h:12<n
 ·
  by_cases h1:n≤100
  · exact aaZ O n c K m d h h1 w
  ·
   by_cases h2:110<n
   · exact aaY O n c K m d h2 w
   ·
    by_cases h3:120<m
    · exact aaW O n c K m d h1 (by omega) h3 w
    · exact aaU O os n c K m d hn h1 (by omega) h3 w hO
 ·
  by_cases h3:120<m
  · exact aaX O n c K m d h h3 w
  · exact aaV O os n c K m d hn h h3 w hO
abbrev nV (o:aG):List Value:= [.int .i64 o.num, .string o.rs, .int .i64 o.E1, .int .i64 o.E2, .slice o.A o.na o.ca, .int .i64 o.C, .slice o.Z o.nz o.cz, .slice o.L o.np o.cp, .int .i64 o.key]
abbrev xz (p:aS):List Value:= [.int .i64 p.ix, .int .i64 p.v, .slice p.A p.na p.ca, .int .i64 p.C, .slice p.Z p.nz p.cz]
abbrev nA (h:List Int):List Value:=h.map (Value.int .u8)
theorem Eg:(Tryz.prog.info? 104).map (fun i=>(i.zero,i.size,i.bytes))=some (some (.agg #[.int .i64 0, .string ⟨#[]⟩, .int .i64 0, .int .i64 0, .slice none 0 0, .int .i64 0, .slice none 0 0, .slice none 0 0, .int .i64 0]),9,128):=by kernel_rfl
theorem Kv:(Tryz.prog.info? 56).map (fun i=>(i.zero,i.size,i.bytes))=some (some (.agg #[.int .i64 0, .int .i64 0, .slice none 0 0, .int .i64 0, .slice none 0 0]),5,72):=by kernel_rfl
theorem Ag:(Tryz.prog.info? 41).map (fun i=>(i.zero,i.size,i.bytes))=some (some (.agg (arr .u8 (dL 32))),32,32):=by kernel_rfl
theorem ED {α:Type _} (f:α→List Value)(s:Nat)(d:α):∀(l:List α) (k r:Nat),(∀x∈l,(f x).length=s)→r<s→k<l.length→(l.flatMap f)[k*s+r]? = (f (l.getD k d))[r]?
 | [],k,r,_,_,hk=>absurd hk (by simp)
 | c::cs,0,r,h,hr,_=>by
  rw[List.flatMap_cons,Nat.zero_mul,Nat.zero_add,List.getElem?_append_left (by rw[h c (List.mem_cons_self ..)];exact hr)]
  rfl
 | c::cs,k+1,r,h,hr,hk=>by
  have hc:=h c (List.mem_cons_self ..);rw[List.flatMap_cons,List.getElem?_append_right (by rw[hc,Nat.succ_mul];omega)];rw[show(k+1)*s+r-(f c).length=k*s+r by rw[hc,Nat.succ_mul];omega];rw[ED f s d cs k r (fun x hx=>h x (List.mem_cons_of_mem _ hx)) hr (by simpa using hk)]
  rfl
theorem ug {α:Type _} (f:α→List Value)(s:Nat):∀(l:List α),(∀x∈l,(f x).length=s)→(l.flatMap f).length=l.length*s
 | [],_=>by simp
 | c::cs,h=>by
  rw[List.flatMap_cons,List.length_append,h c (List.mem_cons_self ..),ug f s cs fun x hx=>h x (List.mem_cons_of_mem _ hx),List.length_cons,Nat.succ_mul];omega
theorem Dn {α:Type _} (f:α→List Value)(s:Nat)(d:α)(hs:0<s) {l:List α} {n:Nat} (hn:l.length=n)(h:∀x∈l,(f x).length=s) {w:World} {b o:Nat}
  (hc:∀k,k<n→∀r u,(f (l.getD k d))[r]? = some u→w.cell? ⟨b,o+k*s+r,none⟩=some u):∀j u,(l.flatMap f)[j]? = some u→w.cell? ((⟨b,o,none⟩:Addr).add j)=some u:=fun j u hj=>by
 have hlt:j<n*s:=by rw[←hn,←ug f s l h];exact(List.getElem?_eq_some_iff.1 hj).1
 have hk:j / s<n:=(Nat.div_lt_iff_lt_mul hs).2 hlt;have hr:j%s<s:=Nat.mod_lt _ hs;have e:j=j / s*s+j%s:=by rw[Nat.mul_comm];exact(Nat.div_add_mod j s).symm
 rw[e,ED f s d l _ _ h hr (by omega)]at hj;rw[EO,e,←Nat.add_assoc];exact hc _ hk _ _ hj
theorem uH {α:Type _} (f:α→List Value)(s:Nat)(d:α) {w:World} {base n:Nat} {T:TypeId} {v:Value} {l:List α} (h:w.ownsRow base T s v n (l.flatMap f))(hn:l.length=n)(hl:∀x∈l,(f x).length=s)(h0:0<n) :
  ∃g cap,v = .slice (some ⟨g,0,none⟩) n cap∧base≤g∧g<w.heap.size∧n≤cap∧(∀j,w.frozen? ⟨g,j,none⟩=false)∧∀k,k<n→∀r,r<s→w.cell? ⟨g,k*s+r,none⟩=(f (l.getD k d))[r]? :=by
 rcases h.2 with⟨_,h3⟩ | ⟨g,cap,cur,rfl,hg,hh,hc,_,hs,ht⟩
 · omega
 ·
  refine⟨g,cap,rfl,hg,(Array.getElem?_eq_some_iff.1 hh).1,hc,fun j=>ay hh j,fun k hk r hr=>?_⟩
  have h1:k*s+r<n*s:=by
   have:(k+1)*s≤n*s:=Nat.mul_le_mul_right s hk;rw[Nat.succ_mul]at this;omega
  rw[au hh,←Array.getElem?_toList,←ED f s d l k r hl hr (by omega),←ht,List.getElem?_take_of_lt h1]
theorem mE {w:World} {base n s:Nat} {T:TypeId} {v:Value} {cs:List Value} (h:w.ownsRow base T s v n cs):∃A c,v = .slice A n c∧n≤c∧(∀b,v.ownBlock=some b→base≤b∧b<w.heap.size):=by
 have hlt:=fun b e=>World.ownsRow.lt h b e;rcases h.2 with⟨rfl,rfl⟩ | ⟨g,cap,cur,rfl,_,_,hc,_⟩
 · exact⟨none,0,rfl,Nat.le_refl _,hlt⟩
 · exact⟨some ⟨g,0,none⟩,cap,rfl,hc,hlt⟩
section
variable {P : Program} {w : World}
theorem zA (base:Nat)(t ty e:TypeId)(i:TypeInfo)(size:Nat)(ht:P.underlying t=some (.slice e))(hi:P.info? e=some i)
  (v:Value) (n:Nat) (xs:List Value) (hown:w.ownsRow base e size v n xs) (A:Option Addr) (c:Nat) :
  (Builtin.append_ #[t,t] ty #[v, .slice A 0 c]).run P w = .ok v w:=by
 rcases hown.2 with⟨rfl,rfl⟩ | ⟨g,cap,cur,rfl,_,_,hnc,_⟩
 · cases A <;> simp[Builtin.append_,run_underlying ht,sizeOf,typeInfo,hi,Builtin.lenOf,Builtin.firstCells,loadCells,loadCellsFrom]
 · cases A <;> simp[Builtin.append_,run_underlying ht,sizeOf,typeInfo,hi,Builtin.lenOf,Builtin.firstCells,hnc,storeCells,loadCells,loadCellsFrom]
theorem lH {ops:Array Oper} {rest:List Oper} {o:Oper} {a:Act} {Q:Exit→Act→World→Prop} (hgd:o.guard=none)(s x:Operand)(t:TypeId)
  (ho:o.op = .call { callee:= .builtin .append,args:=#[s,x],argTypes:=#[t,t] })
  (base:Nat) (e:TypeId) (i:TypeInfo) (z:Value) (size bytes:Nat) (ht:P.underlying t=some (.slice e)) (hi:P.info? e=some i) (hz:i.zero=some z)
  (hsize:i.size=size) (hby:i.bytes=bytes) (hzs:z.cells.size=size) (hsz:0<size)
  (v:Value) (n:Nat) (xs:List Value) (hs:a.eval s=v) (hown:w.ownsRow base e size v n xs)
  (A:Option Addr) (m c:Nat) (news:List Value) (hx:a.eval x = .slice A m c) (hl:news.length=m*size) (hnews:0<m→∃ad,A=some ad∧∀j u,news[j]? = some u→w.cell? (ad.add j)=some u) (h1:∀u∈news,u.oneCell'=true)
  (h63:n+m≤maxLen) (hbytes:(n+m)*bytes≤140737488355328) (hbase:base≤w.heap.size)
  (h:∀A' c' w',w'.ownsRow base e size (.slice A' (n+m) c') (n+m) (xs++news)→w.grownBy w' v.ownBlock→(∀b,(Value.slice A' (n+m) c').ownBlock=some b→v.ownBlock=some b∨b=w.heap.size)→wpList P ops Q rest (a.put o.dst (.slice A' (n+m) c')) w'):wpList P ops Q (o::rest) a w:=by
 by_cases hm:0<m
 ·
  obtain⟨ad,rfl,hn⟩:=hnews hm;exact wpList_append_lies hgd s x t ho base e i z size bytes ht hi hz hsize hby hzs hsz v n xs hs hown ad m c news hx hl hn h1 hm h63 hbytes hbase _ rfl fun g cap w' q1 q2 q3 q4=>h _ _ w' q1 q2 (fun b e=>by cases e;exact q3)
 ·
  obtain rfl:m=0:=by omega
  obtain rfl:news = []:=List.eq_nil_of_length_eq_zero (by rw[hl,Nat.zero_mul]);obtain⟨A',c',rfl,_⟩:=mE hown;refine wpList_plain hgd fun K hK=>?_;have hrun:=zA (P:=P) (w:=w) base t o.type e i size ht hi _ n xs hown A c;unfold Oper.wp
  simp[execOp,ho,resolve,invoke,builtin,hs,hx,hrun,Result.andThen]
  have h9:=hK _ _ (h A' c' w (by simpa using hown) ⟨rfl,rfl,rfl,Nat.le_refl _,fun _ _ _=>rfl⟩ (fun b e=> .inl e));have h10:K (a.put o.dst (.slice A' n c')) w:=by simpa using h9
  simpa [Oper.upon]using h10
end
theorem WJ {w:World} {base n c:Nat} {A:Option Addr} {hs:List (List Int)} (h:w.ownsRow base 41 32 (.slice A n c) n (hs.flatMap nA))(hn:hs.length=n)(hl:∀x∈hs,x.length=32):Hs w A hs:=fun k hk=>by
 obtain⟨g,cap,e,hg,_,_,_,hcs⟩:=uH nA 32 [] h hn (fun x hx=>by rw[nA,List.length_map];exact hl x hx) (by omega)
 cases e
 have hl2:(hsL hs k).length=32:=by
  rw[hsL,List.getD_eq_getElem?_getD,List.getElem?_eq_getElem hk];exact hl _ (List.getElem_mem hk)
 refine⟨g,0,rfl,hl2,fun j v hj=>?_⟩;have hjl:j<32:=by have:=(List.getElem?_eq_some_iff.1 hj).1;rw[List.length_map,hl2]at this;exact this
 rw[Nat.zero_add,hcs k (by omega) j hjl];exact hj
theorem xQ {w:World} {K:Option Addr} {hs:List (List Int)} (h:Hs w K hs):∀x∈hs,x.length=32:=fun x hx=>by
 obtain⟨k,hk,rfl⟩:=List.getElem_of_mem hx;obtain⟨b,o,_,hl,_⟩:=h k hk;rw[hsL,List.getD_eq_getElem?_getD,List.getElem?_eq_getElem hk]at hl;exact hl
theorem KQ {w:World} {K:Option Addr} {hs:List (List Int)} {m:Nat} (h:Hs w K hs)(hm:hs.length=m)(h0:0<m):∃ad,K=some ad∧∀j u,(hs.flatMap nA)[j]? = some u→w.cell? (ad.add j)=some u:=by
 obtain⟨b,o,rfl,_⟩:=h 0 (by omega);refine⟨_,rfl,Dn nA 32 [] (by decide) hm (fun x hx=>by rw[nA,List.length_map];exact xQ h x hx) fun k hk r u hr=>?_⟩;obtain⟨b',o',e,_,hrg⟩:=h k (by omega)
 cases e
 exact hrg r u hr
theorem KP (hs:List (List Int)):∀u∈hs.flatMap nA,u.oneCell'=true:=fun u hu=>by
 obtain⟨h,_,hh⟩:=List.mem_flatMap.1 hu;obtain⟨x,_,rfl⟩:=List.mem_map.1 hh
 rfl
theorem Sc (ps:List aS):∀u∈ps.flatMap xz,u.oneCell'=true:=fun u hu=>by
 obtain⟨p,_,hp⟩:=List.mem_flatMap.1 hu
 simp at hp
 rcases hp with rfl | rfl | rfl | rfl | rfl <;> rfl
theorem Sg {w:World} {L:Option Addr} {ps:List aS} {m:Nat} (h:Pa w L ps)(hm:ps.length=m)(h0:0<m):∃ad,L=some ad∧∀j u,(ps.flatMap xz)[j]? = some u→w.cell? (ad.add j)=some u:=by
 obtain⟨b,o,rfl,_⟩:=h 0 (by omega);refine⟨_,rfl,Dn xz 5 aC (by decide) hm (fun _ _=>rfl) fun k hk r u hr=>?_⟩;obtain⟨b',o',e,c0,c1,c2,c3,c4,_⟩:=h k (by omega)
 cases e
 match r,hr with
 | 0,hr=>cases hr;exact c0
 | 1,hr=>cases hr;exact c1
 | 2,hr=>cases hr;exact c2
 | 3,hr=>cases hr;exact c3
 | 4,hr=>cases hr;exact c4
 | r+5,hr=>cases hr
def PB (w:World)(b:Nat)(ps:List aS):Prop:=(∀j,w.frozen? ⟨b,j,none⟩=false)∧∀k,k<ps.length→∀r,r<5→w.cell? ⟨b,k*5+r,none⟩=(xz (ps.getD k aC))[r]?
theorem PB.agree {w w':World} {b:Nat} {ps:List aS} (h:PB w b ps)(e:w'.heap[b]? = w.heap[b]?):PB w' b ps:=
 ⟨fun j=>by have:=h.1 j;simp only[World.frozen?,e]at this ⊢;exact this,fun k hk r hr=>(mJ e).trans (h.2 k hk r hr)⟩
theorem PB.pa {w:World} {b:Nat} {ps:List aS} (h:PB w b ps)(hok:∀k,k<ps.length→yT w (ps.getD k aC)):Pa w (some ⟨b,0,none⟩) ps:=fun k hk=>by
 refine⟨b,0,rfl, ?_, ?_, ?_, ?_, ?_,hok k hk⟩
 · rw[Nat.zero_add];exact h.2 k hk 0 (by decide)
 · rw[Nat.zero_add];exact h.2 k hk 1 (by decide)
 · rw[Nat.zero_add];exact h.2 k hk 2 (by decide)
 · rw[Nat.zero_add];exact h.2 k hk 3 (by decide)
 · rw[Nat.zero_add];exact h.2 k hk 4 (by decide)
abbrev V3 (o:aG)(L:Option Addr)(c:Nat):aG:= { o with L:=L,cp:=c }
def UA (B:Nat)(g:Option Nat)(w:World)(o o':aG):Prop:=∃L c,o'=V3 o L c∧o.np≤c∧(0<o.np→∃b,L=some ⟨b,0,none⟩∧B<b∧b<w.heap.size∧g≠some b∧PB w b o.ps)
theorem UA.grown {B:Nat} {g g':Option Nat} {w w':World} {o o':aG} (h:UA B g w o o')(hg:w.grownBy w' g)(hz:w.heap.size≤w'.heap.size)(hgg:∀b,g'=some b→g=some b∨w.heap.size≤b):UA B g' w' o o':=by
 obtain⟨L,c,e,hc,hp⟩:=h;refine⟨L,c,e,hc,fun h0=>?_⟩;obtain⟨b,rfl,h1,h2,h3,h4⟩:=hp h0;exact⟨b,rfl,h1,by omega,fun e=>by rcases hgg b e with e2 | e2;exact h3 e2;omega,h4.agree (hg.block b h2 (fun e=>h3 e.symm))⟩
theorem UA.kept {B:Nat} {g:Option Nat} {w w':World} {o o':aG} (h:UA B g w o o')(hb:Below w.heap.size w w'):UA B g w' o o':=by
 obtain⟨L,c,e,hc,hp⟩:=h;refine⟨L,c,e,hc,fun h0=>?_⟩;obtain⟨b,rfl,h1,h2,h3,h4⟩:=hp h0;exact⟨b,rfl,h1,by have:=hb.size;omega,h3,h4.agree (hb.block b h2)⟩
theorem UA.setCell {B a j:Nat} {g:Option Nat} {w:World} {o o':aG} {v:Value} (h:UA B g w o o')(ha:a≤B):UA B g (w.setCell ⟨a,j,none⟩ v) o o':=by
 obtain⟨L,c,e,hc,hp⟩:=h;refine⟨L,c,e,hc,fun h0=>?_⟩;obtain⟨b,rfl,h1,h2,h3,h4⟩:=hp h0;exact⟨b,rfl,h1,by rw[World.size_setCell];exact h2,h3,h4.agree (Go.Deep.blk_setCell_other _ _ _ _ (show b≠a by omega))⟩
theorem own_below {w w':World} {B base s n:Nat} {T:TypeId} {v:Value} {cs:List Value} (h:w.ownsRow base T s v n cs)(hb:Below B w w')(hlt:∀b,v.ownBlock=some b→b<B):w'.ownsRow base T s v n cs:=by
 refine⟨h.1,h.2.imp id ?_⟩;rintro ⟨g,cap,cur,rfl,hg,hh,rest⟩;exact⟨g,cap,cur,rfl,hg,(hb.block g (hlt g rfl)).trans hh,rest⟩
theorem xB {w:World} {B base s n:Nat} {T:TypeId} {v:Value} {cs:List Value} (h:w.ownsRow base T s v n cs)(hb:B≤base):w.ownsRow B T s v n cs:=by
 refine⟨h.1,h.2.imp id ?_⟩;rintro ⟨g,cap,cur,rfl,hg,rest⟩;exact⟨g,cap,cur,rfl,Nat.le_trans hb hg,rest⟩
theorem yG {os:List aG} {o:aG} {j:Nat} (h:j<os.length):bz (os ++ [o]) j=bz os j:=by
 rw[bz,bz,List.getD_eq_getElem?_getD,List.getElem?_append_left h,←List.getD_eq_getElem?_getD]
theorem yF {os:List aG} {o:aG} {k:Nat} (h:os.length=k):bz (os ++ [o]) k=o:=by
 rw[bz,List.getD_eq_getElem?_getD,List.getElem?_append_right (by omega),h,Nat.sub_self];rfl
theorem Sr (w:World):Calls Tryz.prog 65 #[] w (Rt w (iA none 0 0 none 0 0)):=by
 have fH:Hid ((w.alloc (.cells #[.slice none 0 0, .slice none 0 0] 52)).heap[w.heap.size]? = some (.cells #[.slice none 0 0, .slice none 0 0] 52 (0,0))):=aa (heap_alloc_new _ _);go_in
 go_wp2_with ((with_reducible show wpList _ _ _ (⟨none,_,_,_,_,_⟩::_) _ _);refine wpList_store_row rfl 52 _ _ rfl (w.heap.size) #[.slice none 0 0, .slice none 0 0] rfl rfl _ _ fH.out (by kernel_rfl) rfl (by simp[Value.oneCell']) ?_)
 have hrw:=setRow_heap _ _ _ #[.slice none 0 0, .slice none 0 0] _ _ fH.out;exact bodyPost_ret (v:=iA none 0 0 none 0 0) (aK (p:=0) (ty:=52) rfl _ _ ⟨w.heap.size,0,none⟩ _ rfl (run_loadVar_row _ _ _ _ _ _ _ hrw Tryz.underlying52 rfl (by kernel_rfl))) rfl ⟨rfl,aj (af _ _) (Nat.le_refl _)⟩
def Sm (os:List aG)(n:Nat):Bool:=decide (0<n)&&((bz os (n-1)).key == 0)
theorem Wh (O:Option Addr)(c:Nat)(K:Option Addr)(m d:Nat)(w:World) :
  Calls Tryz.prog 120 #[iA O 0 c K m d] w (Rt w (.bool false)):=by
 obtain⟨w0,HW,ai,kC⟩:=st1 (jC O 0 c K m d) qx w;have ah:=bI w0;go_in
 go_wp2_with fail
 rw[HW.out];have zc:=kC.out _ ah;go_wp2;go_ret;exact⟨rfl,f_ ai ah⟩
theorem open_1 (O:Option Addr)(os:List aG)(n c:Nat)(K:Option Addr)(m d:Nat)(hn:Hid (os.length=n+1))(hb:n≤1000000)(r:Bool)(hr:Hid (Sm os (n+1)=r))(w:World)(hO:Hid (Os w O os)) :
  Calls Tryz.prog 120 #[iA O (n+1) c K m d] w (Rt w (.bool r)):=by
 obtain⟨w0,HW,ai,kC⟩:=st1 (jC O (n+1) c K m d) qx w;have E_:=fo (fun u=>Os u O os) ai hO (·.below);have ah:=bI w0;clear hO;obtain⟨b,f,hA,h9,hok⟩:=(E_.out _ ah).out n (by rw[hn.out];omega);subst hA;obtain⟨o,ho⟩:∃o,os.getD n dN=o:=⟨_,rfl⟩;rw[ho]at h9;have hr1:=hr.out;rw[Sm,show n+1-1=n by omega,bz,ho,decide_eq_true (show 0<n+1 by omega),Bool.true_and]at hr1;have HX:=aa h9.2.2.2.2.2.2.2.2;have dw:IntKind.i64.wrap ((n:Int)+1-1)=(n:Int):=by rw[show(n:Int)+1-1=n by omega];exact IntWalk.i64_in _ (by omega)
 have dw2:wrap64 ((n:Int)+1-1)=(n:Int):=by rw[show(n:Int)+1-1=n by omega];exact IntWalk.wrap64_in _ (by omega)
 have aiY:decide ((0:Int)<(n:Int)+1)=true:=decide_eq_true (by omega);have x8:=HX.out;clear ho h9 hok;go_in
 go_upto_region 1 with(fail)
 rw[HW.out];have zc:=kC.out _ ah;go_wp2;go_ret;exact⟨by first | rfl | rw[hr1],f_ ai ah⟩
theorem Hw (O:Option Addr)(n c:Nat)(K:Option Addr)(m d:Nat)(w:World):Calls Tryz.prog 89 #[iA O n c K m d, .int .i64 0] w (Rt w (.agg (arr .u8 (dL 32)))):=by
 obtain⟨W,hW⟩:∃W,(w.alloc (jC O n c K m d)).alloc (.cells z32 41)=W:=⟨_,rfl⟩;have cu:Hid (Below w.heap.size w W):=aa (by rw[←hW];exact aO (Below.refl _ _));have fH:Hid (bS .u8 41 W (w.heap.size+1) (dL 32)):=aa (by rw[←hW,jR];exact heap_alloc2_new _ _ _);have HW:=aa hW;clear hW;go_in
 go_upto_region 1 with(fail)
 rw[HW.out]
 go_wp2_with ((with_reducible show wpList _ _ _ (⟨none,_,_,_,_,_⟩::_) _ _);refine wpList_store_row rfl 41 _ _ rfl (w.heap.size+1) (arr .u8 (dL 32)) rfl rfl _ _ fH.out (aH (by simp[dL])) rfl (dG _) ?_)
 have hrw:=fH.out.setRow (l':=dL 32);exact bodyPost_ret (v:= .agg (arr .u8 (dL 32))) (aK (p:=4) (ty:=41) rfl _ _ ⟨w.heap.size+1,0,none⟩ _ rfl (run_loadVar_row _ _ _ _ _ _ _ hrw Tryz.underlying41 rfl (aH (by simp[dL])))) rfl ⟨rfl,aj cu.out (Nat.le_succ _)⟩
theorem PU (O:Option Addr)(os:List aG)(n c:Nat)(K:Option Addr)(d:Nat)(hn:Hid (os.length=n))(hI:∀k,k<n→dD (bz os k))(hb1:n≤1000000)(hr:Kp (gJ os []=true))(w:World)(hv:Hid (bB w))(hO:Hid (Os w O os))(hK:Hid (Hs w K [])) :
  Calls Tryz.prog 67 #[iA O n c K 0 d] w (Rt w (.agg (arr .u8 (dL 32)))):=by
 obtain⟨w0,HW,ai,kC⟩:=st2 (jC O n c K 0 d) sG (.cells z32 41) sZ w;have kD:=oF ai hv;have E_:=fo (fun u=>Os u O os) ai hO (·.below);have KN:=fo (fun u=>Hs u K []) ai hK (·.below);have nZ:=aa (show ∀u:World,Hid (Below w0.heap.size w0 u)→Hid (bS .u8 41 u (w.heap.size+1) (dL 32))from fun u h9=>aa (bS.below (by rw[←HW.out,jR];exact heap_alloc2_new _ _ _) h9.out));have ah:=bI w0;clear hv hO hK;go_in
 go_upto_region 1 with(fail)
 rw[HW.out];have zc:=kC.out _ ah
 go_wp2_with fail
 clear zc;refine fe kC ah (jX O os n c K [] 0 d hn (aa rfl) hI hb1 (by omega) true hr _ (kD.out _ ah) (E_.out _ ah) (KN.out _ ah)) fun w1 ax zc=>?_
 go_wp2_with fail
 clear zc;refine fe kC ax (Hw O n c K 0 d _) fun w2 az zc=>?_;have jU:=nZ.out _ az;have bT:=aj (ag ai.out az.out) (cs:=arr .u8 (dL 32)) (Nat.le_add_right w.heap.size 1)
 go_wp2_with ((with_reducible show wpList _ _ _ (⟨none,_,_,_,_,_⟩::_) _ _);refine wpList_store_row rfl 41 _ _ rfl (w.heap.size+1) (arr .u8 (dL 32)) rfl rfl _ _ jU.out (aH (by simp[dL])) rfl (dG _) ?_)
 have hrw:=jU.out.setRow (l':=dL 32);exact bodyPost_ret (v:= .agg (arr .u8 (dL 32))) (aK (p:=2) (ty:=41) rfl _ _ ⟨w.heap.size+1,0,none⟩ _ rfl (run_loadVar_row _ _ _ _ _ _ _ hrw Tryz.underlying41 rfl (aH (by simp[dL])))) rfl ⟨rfl,bT⟩
theorem PX (w:World):Calls Tryz.prog 128 #[.slice none 0 0] w (Rt w (.slice none 0 0)):=by
 have hq:∀w,(binOp .eql 50 (.slice none 0 0) (.slice none 0 0)).run Tryz.prog w = .ok (.bool true) w:=fun w=>by kernel_rfl
 go_in;go_wp2;go_ret;exact⟨rfl,Below.refl _ _⟩
theorem PY (w:World) :
  Calls Tryz.prog 75 #[iA none 0 0 none 0 0] w (Rt w (iA none 0 0 none 0 0)):=by
 obtain⟨w0,HW,ai,kC⟩:=st2 (jC none 0 0 none 0 0) sG (.cells #[.slice none 0 0, .slice none 0 0] 52) sZ w;have nZ:=Cj (w0:=w0) (o:= .cells #[.slice none 0 0, .slice none 0 0] 52) (w.heap.size+1) (by rw[←HW.out];exact heap_alloc2_new _ _ _);have ah:=bI w0;go_in
 go_upto_region 1 with(fail)
 rw[HW.out];have zc:=kC.out _ ah
 go_wp2_with fail
 clear zc;refine fe kC ah (PX _) fun w1 ax zc=>?_;have hq0:=af w1 (.cells #[.slice none 0 0, .slice none 0 0] 52);have az:=bJ ax hq0;clear hq0;have pK:=kC.out _ az;have hbk:(w1.alloc (.cells #[.slice none 0 0, .slice none 0 0] 52)).heap[w1.heap.size]? = some (.cells #[.slice none 0 0, .slice none 0 0] 52):=heap_alloc_new _ _;have y0:=au hbk 0;have y1:=au hbk 1;clear hbk;go_wp2
 go_loopw [16] (fun i u=>i = .int .i64 0∧u=w1.alloc (.cells #[.slice none 0 0, .slice none 0 0] 52)) (fun _ _=>0)
 case atStart=>exact⟨rfl,rfl⟩
 case round=>
  obtain⟨rfl,rfl⟩:=hrel;have jU:=nZ.out _ az;have bT:=aj (ag ai.out az.out) (cs:=#[.slice none 0 0, .slice none 0 0]) (Nat.le_add_right w.heap.size 1)
  go_wp2_with ((with_reducible show wpList _ _ _ (⟨none,_,_,_,_,_⟩::_) _ _);refine wpList_store_row rfl 52 _ _ rfl (w.heap.size+1) #[.slice none 0 0, .slice none 0 0] rfl rfl _ _ jU.out (by kernel_rfl) rfl (by simp[Value.oneCell']) ?_)
  have hrw:=setRow_heap _ _ _ #[.slice none 0 0, .slice none 0 0] _ _ jU.out;exact bodyPost_ret (v:=iA none 0 0 none 0 0) (aK (p:=2) (ty:=52) rfl _ _ ⟨w.heap.size+1,0,none⟩ _ rfl (run_loadVar_row _ _ _ _ _ _ _ hrw Tryz.underlying52 rfl (by kernel_rfl))) rfl ⟨rfl,bT⟩
theorem Sl.setRowS {w:World} {A:Option Addr} {xs:List Int} {a:Nat} {cs:Array Value} (h:Sl w A xs)(hne:∀b o,A=some ⟨b,o,none⟩→0<xs.length→a<b):Sl (w.setRow a cs) A xs:=fun k hk=>by
 obtain⟨b,o,e,hc⟩:=h k hk;have:=hne b o e (by omega);exact⟨b,o,e,(mJ (setRow_other w a b cs (by omega))).trans hc⟩
def XL (na:Nat)(al:List Int)(C:Int)(nz:Nat)(zs:List Int)(w:World)(e:Ending)(w':World):Prop:=∃A ca Z cz,e = .returned (jL A na ca C Z nz cz)∧Sl w' A al∧Sl w' Z zs∧Below w.heap.size w w'
def XM (na:Nat)(al:List Int)(C:Int)(nz:Nat)(zs:List Int)(w:World)(e:Ending)(w':World):Prop:=∃A ca Z cz,e = .returned (jL A na ca C Z nz cz)∧(Sl w' A al∧∀b o,A=some ⟨b,o,none⟩→0<al.length→w.heap.size≤b)∧(Sl w' Z zs∧∀b o,Z=some ⟨b,o,none⟩→0<zs.length→w.heap.size≤b)∧Below w.heap.size w w'
theorem Ed (A:Option Addr)(na ca:Nat)(al:List Int)(C:Int)(Z:Option Addr)(nz cz:Nat)(zs:List Int)(hna:Hid (al.length=na))(hnz:Hid (zs.length=nz))(hb1:na≤100000)(hb2:nz≤100000)(w:World)(hA:Hid (Sl w A al))(hZ:Hid (Sl w Z zs)) :
  Calls Tryz.prog 121 #[jL A na ca C Z nz cz] w (XM na al C nz zs w):=by
 obtain⟨w0,HW,ai,kC⟩:=st2 (fU A na ca C Z nz cz) fq (.cells #[.slice none 0 0, .int .i64 0, .slice none 0 0] 54) sZ w;have kA:=mkS ai hA;have kZ:=mkS ai hZ;have Iu:=aa (show ∀u:World,Hid (Below w0.heap.size w0 u)→∀j,u.frozen? ⟨w.heap.size,j,none⟩=false from fun u h j=>ay (bQ (by rw[←HW.out];exact heap_alloc2_old _ _ _) h.out) j);have nZ:=Cj (w0:=w0) (o:= .cells #[.slice none 0 0, .int .i64 0, .slice none 0 0] 54) (w.heap.size+1) (by rw[←HW.out];exact heap_alloc2_new _ _ _);have ah:=bI w0;clear hA hZ;have lV:Hid (w0.heap.size=w.heap.size+2):=aa (by rw[←HW.out];simp);go_in
 go_upto_region 1 with(fail)
 rw[HW.out];have hO:=kC;have pJ:=bJ (aa ah.out) (Below.refl _ _).drew;refine uG (fun u=>Below w0.heap.size w0 u) [7,8,9] pJ (fun hHeld=>?_);obtain⟨wD,pq⟩:∃u,w0.drew=u:=⟨_,rfl⟩;rw[pq]at pJ hHeld ⊢;have BV:Hid (w0.heap.size≤wD.heap.size):=aa (by rw[←pq];exact Nat.le_refl _);clear pq;refine aP 0 1 3 4 ?_;refine LB (fun T a0 hT ha0=>?_);clear hHeld
 have af5:∀(aA:Option Addr) (cA:Nat) (aZ:Option Addr) (cZ:Nat) (u:World),(Hid (Below w0.heap.size w0 u))→(Hid (Sl u aA al∧(∀b o,aA=some ⟨b,o,none⟩→0<al.length→w.heap.size+1<b)))→(Hid (Sl u aZ zs∧(∀b o,aZ=some ⟨b,o,none⟩→0<zs.length→w.heap.size+1<b)))→T 3 #[true,true,true,true,true,true,true,false,false,false] (((a0.put (some 5) (.slice aA na cA)).put (some 9) (.pointer (some ⟨w.heap.size,0,none⟩))).put (some 8) (.slice aZ nz cZ)) u:=by
  intro aA cA aZ cZ u FB HA HZ;have hHeld:=FB;rw[hT,ha0]
  try simp only[qq]
  have vJ:=FB;obtain⟨q0,q1,q2,-⟩:=kC.out _ (aa FB.out);have f0:=Iu.out _ (aa FB.out) 0;have f1:=Iu.out _ (aa FB.out) 1;have f2:=Iu.out _ (aa FB.out) 2;refine oz 7 fun K hK=>?_;go_simp;refine hK.out _ _ ?_;clear hK K
  try simp only[qq]
  refine oz 8 fun K hK=>?_;go_simp;refine hK.out _ _ ?_;clear hK K
  try simp only[qq]
  refine oz 9 fun K hK=>?_;go_simp;refine hK.out _ _ ?_;clear hK K
  try simp only[qq]
  refine gM ?_;obtain⟨wz,hwz⟩:∃x,((u.setCell ⟨w.heap.size,0,none⟩ (.slice aA na cA)).setCell ⟨w.heap.size,2,none⟩ (.slice aZ nz cZ))=x:=⟨_,rfl⟩;have z0:Own wz ⟨w.heap.size,0,none⟩ (.slice aA na cA):=by rw[←hwz];exact ak (bu ⟨q0,f0⟩) (by simp)
  have z1:Own wz ⟨w.heap.size,1,none⟩ (.int .i64 C):=by rw[←hwz];exact ak (ak ⟨q1,f1⟩ (by simp)) (by simp)
  have z2:Own wz ⟨w.heap.size,2,none⟩ (.slice aZ nz cZ):=by rw[←hwz];exact bu (ak ⟨q2,f2⟩ (by simp))
  have sJ:Hid (Below w.heap.size w wz):=aa (by rw[←hwz];exact((ag ai.out FB.out).setCell (Nat.le_refl _) _).setCell (Nat.le_refl _) _);have jU:Hid (wz.heap[w.heap.size+1]? = some (.cells #[.slice none 0 0, .int .i64 0, .slice none 0 0] 54)):=aa (by rw[←hwz];exact(Go.Deep.blk_setCell_other _ _ _ _ (show w.heap.size+1≠w.heap.size by omega)).trans ((Go.Deep.blk_setCell_other _ _ _ _ (show w.heap.size+1≠w.heap.size by omega)).trans (nZ.out _ (aa FB.out)).out));have HA9:Hid (Sl wz aA al):=aa (by rw[←hwz];exact(HA.out.1.set (fun b o e h0=>by have:=HA.out.2 b o e h0;omega)).set (fun b o e h0=>by have:=HA.out.2 b o e h0;omega));have HZ9:Hid (Sl wz aZ zs):=aa (by rw[←hwz];exact(HZ.out.1.set (fun b o e h0=>by have:=HZ.out.2 b o e h0;omega)).set (fun b o e h0=>by have:=HZ.out.2 b o e h0;omega));rw[hwz];clear hwz q0 f0 q1 f1 q2 f2 hHeld;obtain⟨z0,y0⟩:=z0;obtain⟨z1,y1⟩:=z1;obtain⟨z2,y2⟩:=z2
  go_wp2_with ((with_reducible show wpList _ _ _ (⟨none,_,_,_,_,_⟩::_) _ _);refine wpList_store_row rfl 54 _ _ rfl (w.heap.size+1) #[.slice aA na cA, .int .i64 C, .slice aZ nz cZ] rfl rfl _ _ jU.out (by kernel_rfl) rfl (by simp[Value.oneCell']) ?_)
  have hrw:=setRow_heap _ _ _ #[.slice aA na cA, .int .i64 C, .slice aZ nz cZ] _ _ jU.out;have bT:=aj sJ.out (cs:=#[.slice aA na cA, .int .i64 C, .slice aZ nz cZ]) (Nat.le_add_right w.heap.size 1);exact bodyPost_ret (v:=jL aA na cA C aZ nz cZ) (aK (p:=2) (ty:=54) rfl _ _ ⟨w.heap.size+1,0,none⟩ _ rfl (run_loadVar_row _ _ _ _ _ _ _ hrw Tryz.underlying54 rfl (by kernel_rfl))) rfl ⟨aA,cA,aZ,cZ,rfl,⟨HA9.out.setRowS (fun b o e h0=>by have:=HA.out.2 b o e h0;omega),fun b o e h0=>by have:=HA.out.2 b o e h0;omega⟩,⟨HZ9.out.setRowS (fun b o e h0=>by have:=HZ.out.2 b o e h0;omega),fun b o e h0=>by have:=HZ.out.2 b o e h0;omega⟩,bT⟩
 have G2:∀(aA:Option Addr) (cA:Nat) (u:World),(Hid (Below w0.heap.size w0 u))→(Hid (Sl u aA al∧(∀b o,aA=some ⟨b,o,none⟩→0<al.length→w.heap.size+1<b)))→T 4 #[true,true,true,true,true,false,true,false,false,false] ((a0.put (some 5) (.slice aA na cA)).put (some 9) (.pointer (some ⟨w.heap.size,0,none⟩))) u:=by
  intro aA cA u FB HA;have hHeld:=FB;rw[hT,ha0]
  try simp only[qq]
  refine dh 5 fun K hK=>?_;go_simp;refine(BI Z zs nz cz hnz (by omega) _ (kZ.out _ (aa FB.out))).mono ?_;rintro e wB ⟨aB,cB,rfl,Jm,hg9,hq⟩;have aX:=bJ FB hq;refine hK.out _ _ aX (fun hHeld=>?_);clear hK K hHeld
  try simp only[qq]
  have hG:=af5 aA cA aB cB wB aX (aa ⟨HA.out.1.below hq,HA.out.2⟩) (aa ⟨Jm,fun b o e h0=>by obtain⟨g9,e9,WT⟩:=hg9 h0;rw[e9]at e;cases e;have:=FB.out.size;have:=lV.out;omega⟩);rw[hT,ha0]at hG
  (try simp only[qq]at hG)
  exact hG
 have G0:∀(u:World),(Hid (Below w0.heap.size w0 u))→T 6 #[true,true,false,true,true,false,false,false,false,false] a0 u:=by
  intro u FB;have hHeld:=FB;rw[hT,ha0]
  try simp only[qq]
  refine dh 2 fun K hK=>?_;go_simp;refine(BI A al na ca hna (by omega) _ (kA.out _ (aa FB.out))).mono ?_;rintro e wB ⟨aB,cB,rfl,Jm,hg9,hq⟩;have aX:=bJ FB hq;refine hK.out _ _ aX (fun hHeld=>?_);clear hK K
  try simp only[qq]
  refine aL 6 ?_;clear hHeld;have hG:=G2 aB cB wB aX (aa ⟨Jm,fun b o e h0=>by obtain⟨g9,e9,WT⟩:=hg9 h0;rw[e9]at e;cases e;have:=FB.out.size;have:=lV.out;omega⟩);rw[hT,ha0]at hG
  (try simp only[qq]at hG)
  exact hG
 exact G0 _ pJ
theorem L8 (A:Option Addr)(na ca:Nat)(al:List Int)(C:Int)(Z:Option Addr)(nz cz:Nat)(zs:List Int)(hna:Hid (al.length=na))(hnz:Hid (zs.length=nz))(hb1:na≤100000)(hb2:nz≤100000)(w:World)(hA:Hid (Sl w A al))(hZ:Hid (Sl w Z zs)) :
  Calls Tryz.prog 121 #[jL A na ca C Z nz cz] w (XL na al C nz zs w):=(Ed A na ca al C Z nz cz zs hna hnz hb1 hb2 w hA hZ).mono (by rintro e w9 ⟨A,ca,Z,cz,rfl,h1,h2,h3⟩;exact⟨A,ca,Z,cz,rfl,h1.1,h2.1,h3⟩)
theorem Ky {g t n c:Nat} (h:g≠t):(Value.slice (some ⟨g,0,none⟩) n c).ownBlock≠some t:=fun e=>h (by simpa [Value.ownBlock]using e)
theorem We (O:Option Addr)(os:List aG)(n c:Nat)(K:Option Addr)(hs:List (List Int))(m d:Nat)(hn:Hid (os.length=n+1))(hm:Hid (hs.length=m))(hI:∀k,k<n+1→dD (bz os k))(hb1:n+1≤1000000)(hb2:m≤1000000)(E1 E2:Int)(A:Option Addr)(na ca:Nat)(C:Int)(Z:Option Addr)(nz cz:Nat)(s:ByteArray)(hrs:Hid (LK s=true))(hsh:Hid (wO na nz=true))(hr:Kp (gJ os hs=true))(ho9:Hid (Sm os (n+1)=true))(w:World)(hv:Hid (bB w))(hO:Hid (Os w O os))(hK:Hid (Hs w K hs)) :
  Calls Tryz.prog 64 #[iA O (n+1) c K m d, .string s,CE E1 E2 A na ca C Z nz cz] w (Rt w (.tuple #[iA none 0 0 none 0 0, .int .i64 0, .int .i64 6])):=by
 obtain⟨w0,HW,ai,kC⟩:=qD (jC O (n+1) c K m d) sG (GY E1 E2 A na ca C Z nz cz) MN (.cells #[.slice none 0 0, .slice none 0 0] 52) sZ w;have kD:=oF ai hv;have E_:=fo (fun u=>Os u O os) ai hO (·.below);have KN:=fo (fun u=>Hs u K hs) ai hK (·.below);have nZ:=Cj (w0:=w0) (o:= .cells #[.slice none 0 0, .slice none 0 0] 52) (w.heap.size+2) (by rw[←HW.out];exact iZ _ _ _ _);have ah:=bI w0;clear hv hO hK;go_in
 go_upto_region 1 with(fail)
 rw[HW.out];have zc:=kC.out _ ah
 go_wp2_with fail
 clear zc;refine fe kC ah (jX O os (n+1) c K hs m d hn hm hI hb1 hb2 true hr _ (kD.out _ ah) (E_.out _ ah) (KN.out _ ah)) fun w1 ax zc=>?_
 go_wp2_with fail
 refine(kM s true hrs _).mono ?_;rintro e9 w9 ⟨rfl,xP⟩;rw[xP];clear xP
 go_wp2_with fail
 clear zc;refine fe kC ax (iw A na ca C Z nz cz true hsh _) fun w2 az zc=>?_
 go_wp2_with fail
 clear zc;refine fe kC az (open_1 O os n c K m d hn (by omega) true ho9 _ (E_.out _ az)) fun w3 aW zc=>?_;have jU:=nZ.out _ aW;have bT:=aj (ag ai.out aW.out) (cs:=#[.slice none 0 0, .slice none 0 0]) (Nat.le_add_right w.heap.size 2)
 go_wp2_with ((with_reducible show wpList _ _ _ (⟨none,_,_,_,_,_⟩::_) _ _);refine wpList_store_row rfl 52 _ _ rfl (w.heap.size+2) #[.slice none 0 0, .slice none 0 0] rfl rfl _ _ jU.out (by kernel_rfl) rfl (by simp[Value.oneCell']) ?_)
 have hrw:=setRow_heap _ _ _ #[.slice none 0 0, .slice none 0 0] _ _ jU.out;exact bodyPost_ret (v:= .tuple #[iA none 0 0 none 0 0, .int .i64 0, .int .i64 6]) (bH (p:=6) (q:=7) (r:=8) (ty:=52) rfl _ _ ⟨w.heap.size+2,0,none⟩ _ _ _ rfl rfl rfl (run_loadVar_row _ _ _ _ _ _ _ hrw Tryz.underlying52 rfl (by kernel_rfl))) rfl ⟨rfl,bT⟩
def aeH (s:ByteArray)(w:World)(e:Ending)(w':World):Prop:=∃(g cap:Nat) (A:Option Addr) (ca:Nat) (Z:Option Addr) (cz:Nat),e = .returned (.tuple #[iA (some ⟨g,0,none⟩) 1 cap none 0 0, .int .i64 0, .int .i64 0])∧Os w' (some ⟨g,0,none⟩) [⟨0,s,1,1,A,0,ca, [],0,Z,0,cz, [],none,0,0, [],0⟩]∧Below w.heap.size w w'
theorem V_ (s:ByteArray)(hrs:Hid (LK s=true))(w:World)(hv:Hid (bB w)) :
  Calls Tryz.prog 64 #[iA none 0 0 none 0 0, .string s,CE 1 1 none 0 0 0 none 0 0] w (aeH s w):=by
 obtain⟨w0,HW,ai,kC⟩:=qD (jC none 0 0 none 0 0) sG (GY 1 1 none 0 0 0 none 0 0) MN (.cells #[.slice none 0 0, .slice none 0 0] 52) sZ w;have kD:=oF ai hv;have Iu:=aa (show ∀u:World,Hid (Below w0.heap.size w0 u)→∀j,u.frozen? ⟨w.heap.size+1,j,none⟩=false from fun u h j=>ay (bQ (by rw[←HW.out];exact bQ (heap_alloc2_new _ _ _) (af _ _)) h.out) j);have nZ:=Cj (w0:=w0) (o:= .cells #[.slice none 0 0, .slice none 0 0] 52) (w.heap.size+2) (by rw[←HW.out];exact iZ _ _ _ _);have ah:=bI w0;clear hv;go_in
 go_upto_region 1 with(fail)
 rw[HW.out];have zc:=kC.out _ ah;have lV:Hid (w0.heap.size=w.heap.size+3):=aa (by rw[←HW.out];simp);obtain⟨i1,hi1,hy0,hy1,hy2⟩:=info_parts Eg
 go_wp2_with fail
 clear zc;refine fe kC ah (jX none [] 0 0 none [] 0 0 (aa rfl) (aa rfl) (fun k h=>absurd h (by omega)) (by omega) (by omega) true ⟨by decide⟩ _ (kD.out _ ah) (aa (fun k h=>absurd h (by simp))) (aa (fun k h=>absurd h (by simp)))) fun w1 ax zc=>?_
 go_wp2_with fail
 refine(kM s true hrs _).mono ?_;rintro e9 w9 ⟨rfl,xP⟩;rw[xP];clear xP
 go_wp2_with fail
 clear zc;refine fe kC ax (iw none 0 0 0 none 0 0 true (aa rfl) _) fun w2 az zc=>?_
 go_wp2_with fail
 clear zc;refine fe kC az (Wh none 0 none 0 0 _) fun w3 aW zc=>?_
 go_wp2_with fail
 refine(L8 none 0 0 [] 0 none 0 0 [] (aa rfl) (aa rfl) (by omega) (by omega) _ (aa (sl0 _ _)) (aa (sl0 _ _))).mono ?_;rintro e w4 ⟨A,ca,Z,cz,rfl,_,_,hb0⟩;have bE:=bJ aW hb0;clear zc hb0;have zc:=kC.out _ bE;have f0:=Iu.out _ bE 0;have f1:=Iu.out _ bE 1;have f2:=Iu.out _ bE 2;have f3:=Iu.out _ bE 3;have f4:=Iu.out _ bE 4
 go_upto_region 10 with(fail)
 clear zc;obtain⟨yw,yu,za,y_,Ct,EZ,EY,-⟩:=kC.out _ bE;obtain⟨wz,hwz⟩:∃x,(((w4.setCell ⟨w.heap.size+1,2,none⟩ (.slice A 0 ca)).setCell ⟨w.heap.size+1,3,none⟩ (.int .i64 0)).setCell ⟨w.heap.size+1,4,none⟩ (.slice Z 0 cz))=x:=⟨_,rfl⟩
 have HE:Hid (wz.cell? ⟨w.heap.size+1,0,none⟩=some (.int .i64 1)∧wz.cell? ⟨w.heap.size+1,1,none⟩=some (.int .i64 1)∧wz.cell? ⟨w.heap.size+1,2,none⟩=some (.slice A 0 ca)∧wz.cell? ⟨w.heap.size+1,3,none⟩=some (.int .i64 0)∧wz.cell? ⟨w.heap.size+1,4,none⟩=some (.slice Z 0 cz)):=aa (by
  rw[←hwz]
  exact⟨(ak (ak (ak ⟨za,f0⟩ (by simp)) (by simp)) (by simp)).1,(ak (ak (ak ⟨y_,f1⟩ (by simp)) (by simp)) (by simp)).1,(ak (ak (bu ⟨Ct,f2⟩) (by simp)) (by simp)).1,(ak (bu (ak ⟨EZ,f3⟩ (by simp))) (by simp)).1,(bu (ak (ak ⟨EY,f4⟩ (by simp)) (by simp))).1⟩)
 have HT:Hid (wz.cell? ⟨w.heap.size,0,none⟩=some (.slice none 0 0)∧wz.cell? ⟨w.heap.size,1,none⟩=some (.slice none 0 0)):=aa (by
  rw[←hwz]
  exact⟨by rw[World.cell?_setCell_other _ _ _ _ (by simp),World.cell?_setCell_other _ _ _ _ (by simp),World.cell?_setCell_other _ _ _ _ (by simp)];exact yw,by rw[World.cell?_setCell_other _ _ _ _ (by simp),World.cell?_setCell_other _ _ _ _ (by simp),World.cell?_setCell_other _ _ _ _ (by simp)];exact yu⟩)
 have sJ:Hid (Below w.heap.size w wz):=aa (by rw[←hwz];exact(((ag ai.out bE.out).setCell (by simp) _).setCell (by simp) _).setCell (by simp) _);have HRz:Hid (wz.heap[w.heap.size+2]? = some (.cells #[.slice none 0 0, .slice none 0 0] 52)):=aa (by rw[←hwz];exact(Go.Deep.blk_setCell_other _ _ _ _ (show w.heap.size+2≠w.heap.size+1 by omega)).trans ((Go.Deep.blk_setCell_other _ _ _ _ (show w.heap.size+2≠w.heap.size+1 by omega)).trans ((Go.Deep.blk_setCell_other _ _ _ _ (show w.heap.size+2≠w.heap.size+1 by omega)).trans (nZ.out _ bE).out)));have XW:Hid (w.heap.size+3≤wz.heap.size):=aa (by rw[←hwz,World.size_setCell,World.size_setCell,World.size_setCell];have:=(bE).out.size;have:=lV.out;omega);rw[hwz];clear hwz f0 f1 f2 f3 f4;clear yw yu za y_ Ct EZ EY;clear kC Iu kD;have kC:=aa (show ∀u:World,Hid (Below wz.heap.size wz u)→u.cell? ⟨w.heap.size,0,none⟩=some (.slice none 0 0)∧u.cell? ⟨w.heap.size,1,none⟩=some (.slice none 0 0)from fun u h=>⟨cell_below HT.out.1 h.out,cell_below HT.out.2 h.out⟩);have afX:Hid (Below wz.heap.size wz wz):=aa (Below.refl _ _);have hO:=kC;have pJ:=bJ (aa afX.out) (Below.refl _ _).drew;refine uG (fun u=>Below wz.heap.size wz u) [7] pJ (fun hHeld=>?_);obtain⟨wD,pq⟩:∃u,wz.drew=u:=⟨_,rfl⟩;rw[pq]at pJ hHeld ⊢;have BV:Hid (wz.heap.size≤wD.heap.size):=aa (by rw[←pq];exact Nat.le_refl _);clear pq;refine aP 0 2 3 4 ?_;refine tFr fun a0 ha0=>?_;clear hHeld;refine RG [1,5,6] [[], [], [0,1]] [[2], [2], []] 1 #[true,true,true,true,true,true,true,false] (fun bs a u=>∃(Aa zH uI:Bool) (gT:Nat),bs = [Aa,zH,uI]∧a=((a0.put (some 42) (cond Aa (iA none 0 0 none 0 0) undef)).put (some 9) (cond zH (.pointer (some ⟨gT,0,none⟩)) undef))∧Hid (Below wz.heap.size wz u)∧(zH=true→Hid (u.heap[gT]? = some (.cells #[.slice none 0 0, .slice none 0 0] 52)))∧(zH=true→Hid (wz.heap.size≤gT))) ⟨false,false,false,0,rfl,by rw[ha0];simp only[qq],pJ,nofun,nofun⟩ ?_ ⟨?_, ?_, ?_,trivial⟩
 ·
  rintro bs a u hbs ⟨Aa,zH,uI,gT,rfl,rfl,FB,nS,fT⟩;obtain⟨rfl,rfl,rfl⟩:Aa=true∧zH=true∧uI=true:=by simpa using hbs
  have FT:=nS rfl;have Vl:=fT rfl;clear nS fT;have hHeld:=FB;have hT:=trivial;rw[ha0]
  simp only[qq]
  have ahx:=FB;refine oz 7 fun K hK=>?_;go_simp;refine hK.out _ _ ?_;clear hK K
  try simp only[qq]
  refine gM ?_;clear hHeld hT ha0;obtain⟨wq,hwq⟩:∃x,u=x:=⟨_,rfl⟩;have Ua:Hid (wq.heap[gT]? = some (.cells #[.slice none 0 0, .slice none 0 0] 52)):=aa (by rw[←hwq];exact FT.out);have Ll:Hid (Below wz.heap.size wz wq):=aa (by rw[←hwq];exact FB.out);rw[hwq];clear hwq FT;have HE5:Hid (wq.cell? ⟨w.heap.size+1,0,none⟩=some (.int .i64 1)∧wq.cell? ⟨w.heap.size+1,1,none⟩=some (.int .i64 1)∧wq.cell? ⟨w.heap.size+1,2,none⟩=some (.slice A 0 ca)∧wq.cell? ⟨w.heap.size+1,3,none⟩=some (.int .i64 0)∧wq.cell? ⟨w.heap.size+1,4,none⟩=some (.slice Z 0 cz)):=aa ⟨cell_below HE.out.1 Ll.out,cell_below HE.out.2.1 Ll.out,cell_below HE.out.2.2.1 Ll.out,cell_below HE.out.2.2.2.1 Ll.out,cell_below HE.out.2.2.2.2 Ll.out⟩;obtain⟨e0,e1,e2,e3,e4⟩:=HE5.out;have t0:=au Ua.out 0;have t1:=au Ua.out 1;have y0:=ay Ua.out 0;have hown:(wq.alloc (.cells #[.int .i64 0, .string s, .int .i64 1, .int .i64 1, .slice A 0 ca, .int .i64 0, .slice Z 0 cz, .slice none 0 0, .int .i64 0] 104)).ownsRow wq.heap.size 104 9 (.slice none 0 0) 0 []:=World.ownsRow_nil _ _ _ _;have b5:0+1≤maxLen:=by unfold maxLen;omega
  have HTa:=aa (af wq (.cells #[.int .i64 0, .string s, .int .i64 1, .int .i64 1, .slice A 0 ca, .int .i64 0, .slice Z 0 cz, .slice none 0 0, .int .i64 0] 104));have aay:(Value.slice none 0 0).ownBlock≠some gT:=fun e=>by cases e
  go_upto_region 12 with(at_builtin;refine wpList_append_lies rfl _ _ 49 rfl wq.heap.size 104 i1 (.agg #[.int .i64 0, .string ⟨#[]⟩, .int .i64 0, .int .i64 0, .slice none 0 0, .int .i64 0, .slice none 0 0, .slice none 0 0, .int .i64 0]) 9 128 Tryz.underlying49 hi1 hy0 hy1 hy2 (by rfl) (by decide) _ _ _ rfl hown ⟨wq.heap.size,0,none⟩ 1 1 [.int .i64 0, .string s, .int .i64 1, .int .i64 1, .slice A 0 ca, .int .i64 0, .slice Z 0 cz, .slice none 0 0, .int .i64 0] rfl rfl (World.news_of_block (cs:=#[.int .i64 0, .string s, .int .i64 1, .int .i64 1, .slice A 0 ca, .int .i64 0, .slice Z 0 cz, .slice none 0 0, .int .i64 0]) (t:=104) (fr:=(0,0)) (heap_alloc_new wq _)) (by simp[Value.oneCell']) (by decide) b5 (by decide) (by simp) _ rfl ?_;intro gg cap w8 vC kR Tf Pm;obtain⟨p1,p2⟩:=aJ (w:=wq.alloc (.cells #[.int .i64 0, .string s, .int .i64 1, .int .i64 1, .slice A 0 ca, .int .i64 0, .slice Z 0 cz, .slice none 0 0, .int .i64 0] 104)) ((show Own wq ⟨gT,0,none⟩ (.slice none 0 0)from⟨t0,y0⟩).below HTa.out) kR aay;obtain⟨p3,p4⟩:=aJ (w:=wq.alloc (.cells #[.int .i64 0, .string s, .int .i64 1, .int .i64 1, .slice A 0 ca, .int .i64 0, .slice Z 0 cz, .slice none 0 0, .int .i64 0] 104)) ((show Own wq ⟨gT,1,none⟩ (.slice none 0 0)from⟨t1,ay Ua.out 1⟩).below HTa.out) kR aay)
  have nR:w8.ownsRow wq.heap.size 104 9 (.slice (some ⟨gg,0,none⟩) 1 cap) 1 ([(⟨0,s,1,1,A,0,ca, [],0,Z,0,cz, [],none,0,0, [],0⟩:aG)].flatMap nV):=by simpa using vC
  have sK:Hid (Below wq.heap.size wq w8):=aa (((Below.refl wq.heap.size wq).alloc (Nat.le_refl _) (.cells #[.int .i64 0, .string s, .int .i64 1, .int .i64 1, .slice A 0 ca, .int .i64 0, .slice Z 0 cz, .slice none 0 0, .int .i64 0] 104)).grown kR (by simp) (fun j hj=>by cases hj));have hgq:wq.heap.size≤gg:=(World.ownsRow.lt nR gg rfl).1;have hgT:gT<wq.heap.size:=Ey Ua.out;obtain⟨w9,xP⟩:∃x,w8.setCell ⟨gT,0,none⟩ (.slice (some ⟨gg,0,none⟩) 1 cap)=x:=⟨_,rfl⟩;have T0:Own w9 ⟨gT,0,none⟩ (.slice (some ⟨gg,0,none⟩) 1 cap):=by rw[←xP];exact bu ⟨p1,p2⟩
  have T1:Own w9 ⟨gT,1,none⟩ (.slice none 0 0):=by rw[←xP];exact ak ⟨p3,p4⟩ (by simp)
  have Zf:Hid (w9.ownsRow wq.heap.size 104 9 (.slice (some ⟨gg,0,none⟩) 1 cap) 1 ([(⟨0,s,1,1,A,0,ca, [],0,Z,0,cz, [],none,0,0, [],0⟩:aG)].flatMap nV)):=aa (by rw[←xP];exact World.ownsRow.kept nR (jF _ _ _ _) (Or.inr (Ky (by omega))));have zT:Hid (Below wz.heap.size wz w9):=aa (by rw[←xP];exact(ag Ll.out sK.out).setCell Vl.out _);have HR9:Hid (w9.heap[w.heap.size+2]? = some (.cells #[.slice none 0 0, .slice none 0 0] 52)):=aa (bQ HRz.out zT.out);rw[xP];clear xP hown vC nR kR Tf Pm p1 p2 p3 p4 e0 e1 e2 e3 e4 t0 t1 y0 b5 hgq hgT;obtain⟨t0,y0⟩:=T0;obtain⟨t1,y1⟩:=T1
  go_wp2_with ((with_reducible show wpList _ _ _ (⟨none,_,_,_,_,_⟩::_) _ _);refine wpList_store_row rfl 52 _ _ rfl (w.heap.size+2) #[.slice (some ⟨gg,0,none⟩) 1 cap, .slice none 0 0] rfl rfl _ _ HR9.out (by kernel_rfl) rfl (by simp[Value.oneCell']) ?_)
  have hrw:=setRow_heap _ _ _ #[.slice (some ⟨gg,0,none⟩) 1 cap, .slice none 0 0] _ _ HR9.out;have bT:=aj (ag sJ.out zT.out) (cs:=#[.slice (some ⟨gg,0,none⟩) 1 cap, .slice none 0 0]) (Nat.le_add_right w.heap.size 2);have Yo:=World.ownsRow.kept Zf.out (iR w9 (w.heap.size+2) #[.slice (some ⟨gg,0,none⟩) 1 cap, .slice none 0 0]) (Or.inr (Ky (by have:=(World.ownsRow.lt Zf.out gg rfl).1;have:=Ll.out.size;have:=XW.out;omega)));obtain⟨g5,cap5,e5,_,_,_,_,Ez⟩:=uH nV 9 dN Yo rfl (fun _ _=>rfl) (by decide)
  cases e5
  refine bodyPost_ret (v:= .tuple #[iA (some ⟨gg,0,none⟩) 1 cap none 0 0, .int .i64 0, .int .i64 0]) (bH (p:=6) (q:=7) (r:=8) (ty:=52) rfl _ _ ⟨w.heap.size+2,0,none⟩ _ _ _ rfl rfl rfl (run_loadVar_row _ _ _ _ _ _ _ hrw Tryz.underlying52 rfl (by kernel_rfl))) rfl ⟨gg,cap,A,ca,Z,cz,rfl,fun k hk=>?_,bT⟩;obtain rfl:k=0:=by simpa using hk
  refine⟨gg,0,rfl,⟨?_, ?_, ?_, ?_, ?_, ?_, ?_, ?_, ?_⟩,rfl,rfl,⟨rfl,Nat.le_refl _⟩,sl0 _ _,sl0 _ _,fun j hj=>absurd hj (by simp)⟩
  all_goals simp only[Nat.zero_mul,Nat.add_zero,Nat.zero_add]
  · have h9:=Ez 0 (by decide) 0 (by decide);simpa using h9
  · have h9:=Ez 0 (by decide) 1 (by decide);simpa using h9
  · have h9:=Ez 0 (by decide) 2 (by decide);simpa using h9
  · have h9:=Ez 0 (by decide) 3 (by decide);simpa using h9
  · have h9:=Ez 0 (by decide) 4 (by decide);simpa using h9
  · have h9:=Ez 0 (by decide) 5 (by decide);simpa using h9
  · have h9:=Ez 0 (by decide) 6 (by decide);simpa using h9
  · have h9:=Ez 0 (by decide) 7 (by decide);simpa using h9
  · have h9:=Ez 0 (by decide) 8 (by decide);simpa using h9
 ·
  rintro bs a u ⟨Aa,zH,uI,gT,rfl,rfl,FB,nS,fT⟩ hr
  simp[kJ,and_assoc]at hr
  obtain⟨rfl,rfl⟩:=hr;refine⟨_,rfl,fun K hK=>?_⟩;rw[ha0]
  simp only[qq]
  go_simp;refine(PY _).mono ?_;rintro e wB ⟨rfl,hq⟩;have aX:=bJ FB hq;refine hK.out _ _ aX ⟨true,zH,false,gT,rfl, ?_,aX,fun e=>aa (bQ (nS e).out hq),fun e=>(fT e)⟩;rw[ha0]
  simp only[qq]
  try rfl
 ·
  rintro bs a u ⟨Aa,zH,uI,gT,rfl,rfl,FB,nS,fT⟩ hr
  simp[kJ,and_assoc]at hr
  obtain⟨rfl,rfl⟩:=hr;refine⟨_,rfl,fun K hK=>?_⟩;rw[ha0]
  simp only[qq]
  go_simp;have aX:=bJ FB (af u (.cells #[.slice none 0 0, .slice none 0 0] 52));refine hK.out _ _ aX ⟨Aa,true,false,u.heap.size,rfl, ?_,aX,fun _=>(aa (heap_alloc_new u _)),fun _=>(aa FB.out.size)⟩;rw[ha0]
  simp only[qq]
  try rfl
 ·
  rintro bs a u ⟨Aa,zH,uI,gT,rfl,rfl,FB,nS,fT⟩ hr
  simp[kJ,and_assoc]at hr
  obtain⟨rfl,rfl,rfl⟩:=hr;have FT:=nS rfl;have Vl:=fT rfl;refine⟨_,rfl,fun K hK=>?_⟩;rw[ha0]
  simp only[qq]
  rw[show(if Region.wanted _ _=true then _ else _:Prop)=_ from if_pos rfl];refine wp_store_row 52 _ _ rfl gT #[.slice none 0 0, .slice none 0 0] rfl rfl 52 _ FT.out (by kernel_rfl) rfl (by simp[Value.oneCell']) ?_;have aX:Hid (Below wz.heap.size wz (u.setRow gT #[.slice none 0 0, .slice none 0 0])):=aa (aj FB.out Vl.out);refine hK.out _ _ aX ⟨true,true,true,gT,rfl, ?_,aX,fun _=>(aa (setRow_heap _ _ _ _ _ _ FT.out)),fun _=>Vl⟩;rw[ha0]
  simp only[qq]
  try rfl
theorem zz {ops:Array Oper} {rest:List Oper} {o:Oper} {a:Act} {w:World} {Q:Exit→Act→World→Prop} (hw:Region.wanted o (yielded ops a.tmps)=true)(x y:Operand)(t:TypeId)(ho:o.op = .binOp .eql 41 x y t)
  (h h':List Int) (hl:h.length=32) (hl':h'.length=32) (hx:a.eval x = .agg (arr .u8 h)) (hy:a.eval y = .agg (arr .u8 h')) (r:Bool) (hr:(h == h')=r)
  (hK:wpList Tryz.prog ops Q rest (a.put o.dst (.bool r)) w):wpList Tryz.prog ops Q (o::rest) a w:=
 wpList_step fun K hK'=>by
  rw[if_pos hw];unfold Oper.wp execOp
  simp only[ho,hx,hy,Sem.run_bind,run_eqGuard_agg (P:=Tryz.prog) w .eql 41 x y _ _ Gj,run_eql_struct,qF (P:=Tryz.prog) w 9998 41 5 32 (by kernel_rfl) (by kernel_rfl) UC h h' hl hl',hr,Result.andThen_ok]
  exact hK' _ _ hK
theorem Ak (w:World)(hv:Hid (bB w)) :
  Calls Tryz.prog 21 #[] w (Rt w (.bool true)):=by
 obtain⟨w0,hW⟩:∃W,w=W:=⟨_,rfl⟩;have ai:Hid (Below w.heap.size w w0):=aa (by rw[←hW];exact Below.refl _ _);have kC:=aa (show ∀u:World,Hid (Below w0.heap.size w0 u)→True from fun _ _=>trivial);have kD:=aa (show ∀u:World,Hid (Below w0.heap.size w0 u)→Hid (bB u)from fun u h=>aa ((hv.out.below) (ag ai.out h.out)));have ah:Hid (Below w0.heap.size w0 w0):=aa (Below.refl _ _);have HW:=aa hW;clear hW hv;go_in
 go_wp2_with fail
 rw[HW.out];have zc:=kC.out _ ah
 go_wp2_with fail
 clear zc;refine JN ah (Sr _) fun w1 ax=>?_;have zc:=kC.out _ ax
 go_wp2_with fail
 refine(V_ ⟨#[119,104,121]⟩ (aa rfl) _ (kD.out _ ax)).mono ?_;rintro e w2 ⟨g,cap,A,ca,Z,cz,rfl,hos,hb0⟩;have HOS:=aa hos;clear hos;have az:=bJ ax hb0;clear zc hb0;have zc:=kC.out _ az;have aM:=bI w2;have kO:=nQ (w:=w2) (fun u=>Os u (some ⟨g,0,none⟩) [(⟨0,⟨#[119,104,121]⟩,1,1,A,0,ca, [],0,Z,0,cz, [],none,0,0, [],0⟩:aG)]) HOS.out (·.below)
 have hI:∀k,k<0+1→dD (bz [(⟨0,⟨#[119,104,121]⟩,1,1,A,0,ca, [],0,Z,0,cz, [],none,0,0, [],0⟩:aG)] k):=fun k hk=>by
  obtain rfl:k=0:=by omega
  show i64 0∧i64 1∧i64 1∧i64 0∧i64 0∧(∀x∈([]:List Int),i64 x)∧(∀x∈([]:List Int),i64 x)∧∀p∈([]:List aS),BS p
  exact⟨⟨by decide,by decide⟩,⟨by decide,by decide⟩,⟨by decide,by decide⟩,⟨by decide,by decide⟩,⟨by decide,by decide⟩,fun x hx=>absurd hx (by simp),fun x hx=>absurd hx (by simp),fun x hx=>absurd hx (by simp)⟩
 have HI:=aa hI;have Na:Kp (gJ [(⟨0,⟨#[119,104,121]⟩,1,1,A,0,ca, [],0,Z,0,cz, [],none,0,0, [],0⟩:aG)] []=true):=⟨by rfl⟩;have HON:Hid (Sm [(⟨0,⟨#[119,104,121]⟩,1,1,A,0,ca, [],0,Z,0,cz, [],none,0,0, [],0⟩:aG)] (0+1)=true):=aa (by rfl);clear hI;obtain⟨w3,hw,Vf,abI,-,kT⟩:=pO (jC (some ⟨g,0,none⟩) 1 cap none 0 0) qx w2;have aW:=iW az Vf;have eG:=iW aM Vf;have fZ:=bI w3;clear Vf;clear zc;have Lf:=aa hw;clear hw;have zc:=kC.out _ aW;have EX:=kT.out _ fZ
 try rw[←Lf.out]at zc
 try rw[←Lf.out]at EX
 go_wp2_with fail
 rw[Lf.out];clear zc EX;have zc:=kC.out _ aW;have EX:=kT.out _ fZ
 go_wp2_with fail
 clear zc EX;refine um aW eG fZ (We (some ⟨g,0,none⟩) [(⟨0,⟨#[119,104,121]⟩,1,1,A,0,ca, [],0,Z,0,cz, [],none,0,0, [],0⟩:aG)] 0 cap none [] 0 0 (aa rfl) (aa rfl) HI.out (by omega) (by omega) 0 0 none 0 0 0 none 0 0 ⟨#[119,104,121]⟩ (aa rfl) (aa rfl) Na HON _ (kD.out _ aW) (kO.out _ eG) (aa (fun k h=>absurd h (by simp)))) fun w4 bE jm kF=>?_;have zc:=kC.out _ bE;have EX:=kT.out _ kF;obtain⟨w5,hw,HQ5,aji,-,kT2⟩:=pO (jC none 0 0 none 0 0) qx w4;have iH:=iW bE HQ5;have yo:=iW jm HQ5;have jQ:=iW kF HQ5;have h_:=bI w5;clear HQ5;clear zc EX;have Lf:=aa hw;clear hw;have zc:=kC.out _ iH;have EX:=kT.out _ jQ;have IJ:=kT2.out _ h_
 try rw[←Lf.out]at zc
 try rw[←Lf.out]at EX
 try rw[←Lf.out]at IJ
 go_wp2_with fail
 rw[Lf.out];clear zc EX IJ;have zc:=kC.out _ iH;have EX:=kT.out _ jQ;have IJ:=kT2.out _ h_
 go_wp2_with fail
 refine(jX (some ⟨g,0,none⟩) [(⟨0,⟨#[119,104,121]⟩,1,1,A,0,ca, [],0,Z,0,cz, [],none,0,0, [],0⟩:aG)] 1 cap none [] 0 0 (aa rfl) (aa rfl) HI.out (by omega) (by omega) true Na _ (kD.out _ iH) (kO.out _ yo) (aa (fun k h=>absurd h (by simp)))).mono ?_;rintro e w6 ⟨rfl,hb0⟩;have jg:=bJ iH hb0;have Aw:=bJ yo hb0;have fC:=bJ jQ hb0;have dV:=bJ h_ hb0;clear zc EX IJ hb0;have zc:=kC.out _ jg;have EX:=kT.out _ fC;have IJ:=kT2.out _ dV
 go_wp2_with fail
 refine(PU (some ⟨g,0,none⟩) [(⟨0,⟨#[119,104,121]⟩,1,1,A,0,ca, [],0,Z,0,cz, [],none,0,0, [],0⟩:aG)] 1 cap none 0 (aa rfl) HI.out (by omega) Na _ (kD.out _ jg) (kO.out _ Aw) (aa (fun k h=>absurd h (by simp)))).mono ?_;rintro e w7 ⟨rfl,hb0⟩;have pW:=bJ jg hb0;have adb:=bJ Aw hb0;have uU:=bJ fC hb0;have uT:=bJ dV hb0;clear zc EX IJ hb0;have zc:=kC.out _ pW;have EX:=kT.out _ uU;have IJ:=kT2.out _ uT;have bT:=ag ai.out pW.out
 go_wp2_with ((with_reducible show wpList _ _ _ (⟨some 51,_,_,_,_,_⟩::_) _ _);refine zz (by rfl) _ _ _ rfl (dL 32) (dL 32) (by simp[dL]) (by simp[dL]) rfl rfl true (by simp) ?_)
 go_ret;exact⟨rfl,bT⟩
theorem L6 (O:Option Addr)(n c:Nat)(K:Option Addr)(m d:Nat)(w:World):Calls Tryz.prog 91 #[iA O n c K m d, .int .i64 0] w (Rt w (.agg (arr .u8 (dL 32)))):=by
 obtain⟨W,hW⟩:∃W,(w.alloc (jC O n c K m d)).alloc (.cells z32 41)=W:=⟨_,rfl⟩;have cu:Hid (Below w.heap.size w W):=aa (by rw[←hW];exact aO (Below.refl _ _));have fH:Hid (bS .u8 41 W (w.heap.size+1) (dL 32)):=aa (by rw[←hW,jR];exact heap_alloc2_new _ _ _);have HW:=aa hW;clear hW;go_in
 go_upto_region 1 with(fail)
 rw[HW.out]
 go_wp2_with ((with_reducible show wpList _ _ _ (⟨none,_,_,_,_,_⟩::_) _ _);refine wpList_store_row rfl 41 _ _ rfl (w.heap.size+1) (arr .u8 (dL 32)) rfl rfl _ _ fH.out (aH (by simp[dL])) rfl (dG _) ?_)
 have hrw:=fH.out.setRow (l':=(dL 32));exact bodyPost_ret (v:= .agg (arr .u8 (dL 32))) (aK (p:=4) (ty:=41) rfl _ _ ⟨w.heap.size+1,0,none⟩ _ rfl (run_loadVar_row _ _ _ _ _ _ _ hrw Tryz.underlying41 rfl (aH (by simp[dL])))) rfl ⟨rfl,aj cu.out (Nat.le_succ _)⟩
theorem LZ (O:Option Addr)(n c:Nat)(K:Option Addr)(hs:List (List Int))(m d k:Nat)(hm:Hid (hs.length=m))(hk:k<m)(hb2:m≤1000000)(w:World)(hK:Hid (Hs w K hs)):Calls Tryz.prog 91 #[iA O n c K m d, .int .i64 ((k:Int)+1)] w (Rt w (.agg (arr .u8 (hsL hs k)))):=by
 have d0:decide ((k:Int)+1=0)=false:=by simp;omega
 have dw:IntKind.i64.wrap ((k:Int)+1-1)=(k:Int):=by rw[show(k:Int)+1-1=(k:Int) by omega];exact IntWalk.i64_in _ (by omega)
 have dw2:wrap64 ((k:Int)+1-1)=(k:Int):=by rw[show(k:Int)+1-1=(k:Int) by omega];exact IntWalk.wrap64_in _ (by omega)
 obtain⟨W,hW⟩:∃W,(w.alloc (jC O n c K m d)).alloc (.cells z32 41)=W:=⟨_,rfl⟩;have cu:Hid (Below w.heap.size w W):=aa (by rw[←hW];exact aO (Below.refl _ _));have fH:Hid (bS .u8 41 W (w.heap.size+1) (dL 32)):=aa (by rw[←hW,jR];exact heap_alloc2_new _ _ _);have hc:W.cell? ⟨w.heap.size,0,none⟩=some (.slice O n c)∧W.cell? ⟨w.heap.size,1,none⟩=some (.slice K m d):=by rw[←hW];exact⟨cell_below (dx (by simp) (by rfl)) (af _ _),cell_below (dx (by simp) (by rfl)) (af _ _)⟩
 obtain⟨yw,yu⟩:=hc;obtain⟨b,o,rfl,hl,hrg0⟩:=hK.out k (by rw[hm.out];exact hk);have hrg:=aa (fF hrg0 cu.out);obtain⟨h,hh⟩:∃h,hsL hs k=h:=⟨_,rfl⟩;rw[hh]at hrg hl;rw[hh];clear hrg0 hK hm hh;have HW:=aa hW;clear hW;go_in
 go_upto_region 1 with(fail)
 rw[HW.out]
 go_wp2_with (first | (with_reducible show wpList _ _ _ (⟨_, .load 41 _,_,_,_,_⟩::_) _ _;refine wpList_load_mid rfl _ _ rfl b (o+k*32) rfl (h.map (Value.int .u8)) _ hrg.out Tryz.underlying41 rfl (ni hl) ?_) | ((with_reducible show wpList _ _ _ (⟨none,_,_,_,_,_⟩::_) _ _);refine wpList_store_row rfl 41 _ _ rfl (w.heap.size+1) (arr .u8 h) rfl rfl _ _ fH.out (aH hl) (fu (by simp[dL]) hl) (dG _) ?_))
 have hrw:=fH.out.setRow (l':=h);exact bodyPost_ret (v:= .agg (arr .u8 h)) (aK (p:=4) (ty:=41) rfl _ _ ⟨w.heap.size+1,0,none⟩ _ rfl (run_loadVar_row _ _ _ _ _ _ _ hrw Tryz.underlying41 rfl (aH hl))) rfl ⟨rfl,aj cu.out (Nat.le_succ _)⟩
structure pF {α:Type _} (f:α→List Value) (s:Nat) (d:α) (w:World) (g:Nat) (l:List α) (tot:Nat):Prop where
 at_:∀k,k<l.length→w.rangeAt g (k*s) (f (l.getD k d))
 there:w.there g 0 (tot*s)
 le:l.length≤tot
theorem w_ {α:Type _} (f:α→List Value)(s:Nat)(d:α) {w:World} {base n:Nat} {T:TypeId} {v:Value} {l:List α} (h:w.ownsRow base T s v n (l.flatMap f))(hn:l.length=n)(hl:∀x∈l,(f x).length=s)(h0:0<n) :
  ∃g cap,v = .slice (some ⟨g,0,none⟩) n cap∧base≤g∧g<w.heap.size∧(n≤cap∧cap≤9223372036854775807)∧pF f s d w g l n:=by
 have hmx:∀g cap,v = .slice (some ⟨g,0,none⟩) n cap→cap≤9223372036854775807:=fun g cap e=>by
  rcases h.2 with⟨h1,_⟩ | ⟨g2,cap2,cur,h1,_,_,_,h2,_⟩
  · rw[h1]at e;cases e
  · rw[h1]at e;cases e;simpa [maxLen]using h2
 obtain⟨g,cap,e,hg,hgs,hc,hf,hcs⟩:=uH f s d h hn hl h0
 have hlen:∀k,k<n→(f (l.getD k d)).length=s:=fun k hk=>by
  rw[List.getD_eq_getElem?_getD,List.getElem?_eq_getElem (by omega)];exact hl _ (List.getElem_mem _)
 refine⟨g,cap,e,hg,hgs,⟨hc,hmx g cap e⟩,⟨fun k hk j v hj=>?_,fun j hj=>⟨?_,by rw[Nat.zero_add];exact hf j⟩,by omega⟩⟩
 ·
  have hj2:j<s:=by rw[←hlen k (by omega)];exact(List.getElem?_eq_some_iff.1 hj).1
  rw[hcs k (by omega) j hj2];exact hj
 ·
  have hs0:0<s:=by
   rcases Nat.eq_zero_or_pos s with e0 | e0
   · subst e0;simp at hj
   · exact e0
  have hk:j / s<n:=(Nat.div_lt_iff_lt_mul hs0).2 hj;have hr:j%s<s:=Nat.mod_lt _ hs0;have e1:j=j / s*s+j%s:=by rw[Nat.mul_comm];exact(Nat.div_add_mod j s).symm
  rw[Nat.zero_add,e1,hcs _ hk _ hr,List.getElem?_eq_getElem (by rw[hlen _ hk];exact hr)]
  rfl
theorem pF.agree {α:Type _} {f:α→List Value} {s:Nat} {d:α} {w w':World} {g tot:Nat} {l:List α} (h:pF f s d w g l tot)(e:w'.heap[g]? = w.heap[g]?):pF f s d w' g l tot:=
 ⟨fun k hk j v hj=>(mJ e).trans (h.at_ k hk j v hj),fun j hj=>⟨by rw[mJ e];exact(h.there j hj).1,by have:=(h.there j hj).2;simp only[World.frozen?,e]at this ⊢;exact this⟩,h.le⟩
theorem eu {α:Type _} {l:List α} {i k:Nat} {x d:α} (hi:i<l.length):(l.set i x).getD k d=if k=i then x else l.getD k d:=by
 rw[List.getD_eq_getElem?_getD,List.getElem?_set]
 by_cases e:k=i
 · subst e;simp[hi]
 · rw[if_neg (fun h=>e h.symm),if_neg e,List.getD_eq_getElem?_getD]
theorem LP {k i s:Nat} (h:k≠i):k*s+s≤i*s∨i*s+s≤k*s:=by
 rcases Nat.lt_or_gt_of_ne h with h | h
 · left;have:=Nat.mul_le_mul_right s h;rw[Nat.succ_mul]at this;exact this
 · right;have:=Nat.mul_le_mul_right s h;rw[Nat.succ_mul]at this;exact this
theorem pF.setCell {α:Type _} {f:α→List Value} {s:Nat} {d:α} {w:World} {g tot:Nat} {l:List α} (h:pF f s d w g l tot)(hl:∀x∈l,(f x).length=s) {i r:Nat} {x:α} {v:Value} (hi:i<l.length)(hr:r<s)
  (hx:f x=(f (l.getD i d)).set r v):pF f s d (w.setCell ⟨g,i*s+r,none⟩ v) g (l.set i x) tot:=by
 have hlen:∀k,k<l.length→(f (l.getD k d)).length=s:=fun k hk=>by
  rw[List.getD_eq_getElem?_getD,List.getElem?_eq_getElem hk];exact hl _ (List.getElem_mem _)
 refine⟨fun k hk j u hj=>?_,fun j hj=>⟨?_,by rw[World.frozen?_setCell];exact(h.there j hj).2⟩,by rw[List.length_set];exact h.le⟩
 ·
  rw[List.length_set]at hk;rw[eu hi]at hj
  by_cases e:k=i
  ·
   subst e;rw[if_pos rfl,hx]at hj
   by_cases e2:j=r
   ·
    subst e2;rw[List.getElem?_set_self (by rw[hlen k hk];exact hr)]at hj
    cases hj
    have h0:=h.at_ k hk j _ (List.getElem?_eq_getElem (by rw[hlen k hk];exact hr));exact World.cell?_setCell_same _ _ _ h0
   ·
    rw[List.getElem?_set_ne (fun h=>e2 h.symm)]at hj;rw[World.cell?_setCell_other _ _ _ _ (fun e3=>by simp at e3 <;> omega)];exact h.at_ k hk j u hj
  ·
   rw[if_neg e]at hj;have hj2:j<s:=by rw[←hlen k hk];exact(List.getElem?_eq_some_iff.1 hj).1
   rw[World.cell?_setCell_other _ _ _ _ (fun e3=>by
    have:=LP (s:=s) e
    simp at e3 <;> omega)]
   exact h.at_ k hk j u hj
 ·
  obtain⟨u,hu⟩:=Option.isSome_iff_exists.1 (h.there j hj).1
  by_cases e:(⟨g,0+j,none⟩:Addr)=⟨g,i*s+r,none⟩
  · rw[←e,World.cell?_setCell_same _ _ _ hu] <;> rfl
  · rw[World.cell?_setCell_other _ _ _ _ (fun e2=>e (by first | exact e2 | exact e2.symm)),hu];rfl
theorem fJ {os:List aG} {hs:List (List Int)} (h:gJ os hs=true):zV os hs os.length os.length=true∧zn os os.length=hs.length∧os.length≤100:=by
 simp only[gJ,Bool.and_eq_true,beq_iff_eq,decide_eq_true_eq]at h
 exact⟨h.2.1,h.2.2,h.1⟩
theorem U3 (os:List aG):∀k,zn os k≤k
 | 0=>Nat.le_refl _
 | k+1=>by have:=U3 os k;rw[zn];split <;> omega
theorem JK {os:List aG} {hs:List (List Int)} (h:gJ os hs=true) {i:Nat} (hi:i<hs.length):i<os.length∧(bz os i).key≠0:=by
 obtain⟨h1,h2,_⟩:=fJ h;have h3:=U3 os os.length;have hlt:i<os.length:=by omega
 refine⟨hlt,fun e=>?_⟩;have h4:=(fD (iI h1 i hlt)).2.2.1 e
 have h6:zV os hs os.length i=true:=by
  cases e6:zV os hs os.length i with
  | true=>rfl
  | false=>rw[AU e6 _ (by omega)]at h1;cases h1
 have h5:=K6 h6 hlt;rw[←h4,zn,if_pos e,h5]at h2
 omega
theorem KI {os:List aG} {hs:List (List Int)} (h:gJ os hs=true) {i:Nat} (hi:i<os.length)(hk:(bz os i).key≠0):i<hs.length∧hsL hs i=hbL os (i+1):=
 (fD (iI (fJ h).1 i hi)).2.2.2 hk
def eH (hs:List (List Int))(i:Nat):List Int:=if i=0 then dL 32 else hsL hs (i-1)
theorem jT {os:List aG} {hs:List (List Int)} (h:gJ os hs=true) {i:Nat} (hi:i≤hs.length):eH hs i=hbL os i:=by
 unfold eH
 by_cases e:i=0
 · subst e;rfl
 ·
  rw[if_neg e];obtain⟨h1,h2⟩:=JK h (i:=i-1) (by omega);have h3:=(KI h h1 h2).2;rw[h3];congr 1;omega
theorem z_ {os:List aG} {i k:Nat} {x:aG} (hi:i<os.length):bz (os.set i x) k=if k=i then x else bz os k:=eu hi
structure El (wB u:World) (N g gK:Nat) (o:aG):Prop where
 la:o.al.length=o.na
 lz:o.zs.length=o.nz
 lp:o.ps.length=o.np∧o.np≤o.cp
 A:Sl wB o.A o.al
 Z:Sl wB o.Z o.zs
 p:∀k,k<o.ps.length→yT wB (o.ps.getD k aC)
 b:0<o.np→∃b,o.L=some ⟨b,0,none⟩∧b≠g∧b≠gK∧wB.heap.size≤b∧b<N∧PB u b o.ps
theorem El.agree {wB u u':World} {N g gK:Nat} {o:aG} (h:El wB u N g gK o)(he:∀b,b≠g→b≠gK→b<N→u'.heap[b]? = u.heap[b]?):El wB u' N g gK o:=
 ⟨h.la,h.lz,h.lp,h.A,h.Z,h.p,fun h0=>by
  obtain⟨b,h1,h2,h3,h4,h5,h6⟩:=h.b h0
  exact⟨b,h1,h2,h3,h4,h5,h6.agree (he b h2 h3 h5)⟩⟩
theorem El.ok {wB u:World} {N g gK:Nat} {o:aG} (h:El wB u N g gK o)(hb:Below wB.heap.size wB u):dM u o:=by
 refine⟨h.la,h.lz,h.lp,h.A.below hb,h.Z.below hb,fun k hk=>?_⟩;obtain⟨b,h1,_,_,_,_,h4⟩:=h.b (by have:=h.lp.1;omega);rw[h1];exact h4.pa (fun k hk=>(h.p k hk).below hb) k hk
theorem Sq {w:World} {g o:Nat} {x:aG} (h:w.rangeAt g o (nV x)):Qy w g o x:=by
 refine⟨?_, ?_, ?_, ?_, ?_, ?_, ?_, ?_, ?_⟩
 · exact h 0 _ rfl
 · exact h 1 _ rfl
 · exact h 2 _ rfl
 · exact h 3 _ rfl
 · exact h 4 _ rfl
 · exact h 5 _ rfl
 · exact h 6 _ rfl
 · exact h 7 _ rfl
 · exact h 8 _ rfl
structure Cpd (wB u:World) (N g gK:Nat) (os:List aG) (hs:List (List Int)) (n m:Nat):Prop where
 bel:Below wB.heap.size wB u
 ro:pF nV 9 dN u g os n
 rk:pF nA 32 [] u gK hs m
 el:∀o∈os,El wB u N g gK o
 ne:g≠gK
 lg:wB.heap.size≤g∧g<N
 lk:wB.heap.size≤gK∧gK<N
section
variable {wB u u' : World} {N g gK n m : Nat} {os : List aG} {hs : List (List Int)}
theorem Cpd.keep (h:Cpd wB u N g gK os hs n m)(he:∀b,b<N→u'.heap[b]? = u.heap[b]?)(hb:Below wB.heap.size wB u'):Cpd wB u' N g gK os hs n m:=
 ⟨hb,h.ro.agree (he g h.lg.2),h.rk.agree (he gK h.lk.2),fun o ho=>(h.el o ho).agree fun b _ _ hb=>he b hb,h.ne,h.lg,h.lk⟩
end
theorem Qn (O:Option Addr)(n c:Nat)(K:Option Addr)(hs:List (List Int))(m d k:Nat)(hm:Hid (hs.length=m))(hk:k<m)(hb2:m≤1000000)(w:World)(hK:Hid (Hs w K hs)):Calls Tryz.prog 89 #[iA O n c K m d, .int .i64 ((k:Int)+1)] w (Rt w (.agg (arr .u8 (hsL hs k)))):=by
 have d0:decide ((k:Int)+1=0)=false:=by simp;omega
 have dw:IntKind.i64.wrap ((k:Int)+1-1)=(k:Int):=by rw[show(k:Int)+1-1=(k:Int) by omega];exact IntWalk.i64_in _ (by omega)
 have dw2:wrap64 ((k:Int)+1-1)=(k:Int):=by rw[show(k:Int)+1-1=(k:Int) by omega];exact IntWalk.wrap64_in _ (by omega)
 obtain⟨W,hW⟩:∃W,(w.alloc (jC O n c K m d)).alloc (.cells z32 41)=W:=⟨_,rfl⟩;have cu:Hid (Below w.heap.size w W):=aa (by rw[←hW];exact aO (Below.refl _ _));have fH:Hid (bS .u8 41 W (w.heap.size+1) (dL 32)):=aa (by rw[←hW,jR];exact heap_alloc2_new _ _ _);have hc:W.cell? ⟨w.heap.size,0,none⟩=some (.slice O n c)∧W.cell? ⟨w.heap.size,1,none⟩=some (.slice K m d):=by rw[←hW];exact⟨cell_below (dx (by simp) (by rfl)) (af _ _),cell_below (dx (by simp) (by rfl)) (af _ _)⟩
 obtain⟨yw,yu⟩:=hc;obtain⟨b,o,rfl,hl,hrg0⟩:=hK.out k (by rw[hm.out];exact hk);have hrg:=aa (fF hrg0 cu.out);obtain⟨h,hh⟩:∃h,hsL hs k=h:=⟨_,rfl⟩;rw[hh]at hrg hl;rw[hh];clear hrg0 hK hm hh;have HW:=aa hW;clear hW;go_in
 go_upto_region 1 with(fail)
 rw[HW.out]
 go_wp2_with (first | (with_reducible show wpList _ _ _ (⟨_, .load 41 _,_,_,_,_⟩::_) _ _;refine wpList_load_mid rfl _ _ rfl b (o+k*32) rfl (h.map (Value.int .u8)) _ hrg.out Tryz.underlying41 rfl (ni hl) ?_) | ((with_reducible show wpList _ _ _ (⟨none,_,_,_,_,_⟩::_) _ _);refine wpList_store_row rfl 41 _ _ rfl (w.heap.size+1) (arr .u8 h) rfl rfl _ _ fH.out (aH hl) (fu (by simp[dL]) hl) (dG _) ?_))
 have hrw:=fH.out.setRow (l':=h);exact bodyPost_ret (v:= .agg (arr .u8 h)) (aK (p:=4) (ty:=41) rfl _ _ ⟨w.heap.size+1,0,none⟩ _ rfl (run_loadVar_row _ _ _ _ _ _ _ hrw Tryz.underlying41 rfl (aH hl))) rfl ⟨rfl,aj cu.out (Nat.le_succ _)⟩
theorem BL (O:Option Addr)(n c:Nat)(K:Option Addr)(hs:List (List Int))(m d i:Nat)(hm:Hid (hs.length=m))(hi:i≤m)(hb2:m≤1000000)(w:World)(hK:Hid (Hs w K hs)):Calls Tryz.prog 89 #[iA O n c K m d, .int .i64 (i:Int)] w (Rt w (.agg (arr .u8 (eH hs i)))):=by
 cases i with
 | zero=>exact Hw O n c K m d w
 | succ k=>exact Qn O n c K hs m d k hm (by omega) hb2 w hK
theorem zf (O:Option Addr)(n c:Nat)(K:Option Addr)(hs:List (List Int))(m d i:Nat)(hm:Hid (hs.length=m))(hi:i≤m)(hb2:m≤1000000)(w:World)(hK:Hid (Hs w K hs)):Calls Tryz.prog 91 #[iA O n c K m d, .int .i64 (i:Int)] w (Rt w (.agg (arr .u8 (eH hs i)))):=by
 cases i with
 | zero=>exact L6 O n c K m d w
 | succ k=>exact LZ O n c K hs m d k hm (by omega) hb2 w hK
theorem Lc:(Tryz.prog.info? 217).map (·.size)=some 2:=by kernel_rfl
theorem TM:liesAt Tryz.prog Tryz.prog.depth 217 (2 / Tryz.prog.cellsOf 217) 0 217 1=true:=by kernel_rfl
def q8 (w:World)(b:Nat)(p v:Value):Prop:=w.heap[b]? = some (.cells #[p,v] 217 (0,0))
theorem q8.cells {w:World} {b:Nat} {p v:Value} (h:q8 w b p v):(w.cell? ⟨b,0,none⟩=some p∧w.cell? ⟨b,1,none⟩=some v)∧w.frozen? ⟨b,0,none⟩=false∧w.frozen? ⟨b,1,none⟩=false:=
 ⟨⟨au h 0,au h 1⟩,ay h 0,ay h 1⟩
theorem q8.lt {w:World} {b:Nat} {p v:Value} (h:q8 w b p v):b<w.heap.size:=(Array.getElem?_eq_some_iff.1 h).1
theorem q8.set0 {w:World} {b:Nat} {p v:Value} (h:q8 w b p v)(q:Value):q8 (w.setCell ⟨b,0,none⟩ q) b q v:=by
 unfold q8;rw[heap_setCell_same _ _ _ _ _ _ h]
 rfl
theorem q8.set1 {w:World} {b:Nat} {p v:Value} (h:q8 w b p v)(q:Value):q8 (w.setCell ⟨b,1,none⟩ q) b p q:=by
 unfold q8;rw[heap_setCell_same _ _ _ _ _ _ h]
 rfl
theorem q8.shape {w:World} {b:Nat} {p v:Value} (h:q8 w b p v):w.shape? b=some (217,2):=by
 unfold q8 at h
 simp[World.shape?,h]
theorem Qg (b:Nat)(v:Value)(w:World)(hB:Hid (q8 w b (.pointer none) v)) :
  Calls Tryz.prog 224 #[.pointer (some ⟨b,0,none⟩)] w fun e w'=>(∃u,e = .returned u)∧w'=w.setCell ⟨b,0,none⟩ (.pointer (some ⟨b,0,none⟩)):=by
 obtain⟨⟨c0,c1⟩,f0,f1⟩:=hB.out.cells;obtain⟨j,hj,hjs⟩:=Option.map_eq_some_iff.1 Lc;have hsh:=hB.out.shape;have t1:=Lib.run_to_unsafe (P:=Tryz.prog) w ⟨b,0,none⟩ Tryz.underlying215 Tryz.underlying258 hj (by rw[hjs];decide) hsh (Nat.zero_lt_succ 1);have t2:=Lib.run_from_unsafe (P:=Tryz.prog) w ⟨b,0,none⟩ Tryz.underlying258 Tryz.underlying215 hj hsh TM;go_in;go_wp2;rw[run_callFunc_extern Tryz.func247 (by kernel_rfl) (by kernel_rfl) (by kernel_rfl) (e:=Extern.AbiNoEscape.same) (by kernel_rfl),Lib.run_noEscape]
 simp only[Result.andThen]
 rw[Oper.upon_value];go_wp2
 go_end0
 exact⟨⟨_,rfl⟩,rfl⟩
theorem Qh (b:Nat)(v:Value)(w:World)(hB:Hid (q8 w b (.pointer (some ⟨b,0,none⟩)) v)) :
  Calls Tryz.prog 224 #[.pointer (some ⟨b,0,none⟩)] w fun e w'=>(∃u,e = .returned u)∧w'=w:=by
 obtain⟨⟨c0,c1⟩,f0,f1⟩:=hB.out.cells;obtain⟨j,hj,hjs⟩:=Option.map_eq_some_iff.1 Lc;have t3:=Lib.run_neq_ptr_same (P:=Tryz.prog) w ⟨b,0,none⟩ Tryz.underlying215 hj;go_in;go_wp2
 go_end0
 exact⟨⟨_,rfl⟩,rfl⟩
def Rl (w:World)(b:Nat)(l:List Int):Prop:=∃p v,(p = .pointer none∨p = .pointer (some ⟨b,0,none⟩))∧q8 w b p v∧aV .u8 5 w (b+1) v l
theorem CU (b:Nat)(l:List Int)(c:Int)(hlen:l.length≤100000)(w:World)(hB:Hid (Rl w b l)) :
  Calls Tryz.prog 203 #[.pointer (some ⟨b,0,none⟩), .int .u8 c] w fun e w'=>(∃u,e = .returned u)∧Rl w' b (l ++ [c])∧Below b w w':=by
 obtain⟨p,v,hp,hblk,hown⟩:=hB.out;obtain⟨i0,hi,hz0,hz1,hz2⟩:=info_parts eB;have CP:=aa hblk;have HOw:=aa hown;have hbw:=hblk.lt
 have hcc:Calls Tryz.prog 224 #[.pointer (some ⟨b,0,none⟩)] w fun e w'=>(∃u,e = .returned u)∧Hid (q8 w' b (.pointer (some ⟨b,0,none⟩)) v)∧Hid (aV .u8 5 w' (b+1) v l)∧Hid (Below b w w'):=by
  rcases hp with rfl | rfl
  ·
   refine(Qg b v w CP).mono ?_;rintro e w' ⟨h1,rfl⟩;exact⟨h1,aa (CP.out.set0 _),aa (HOw.out.kept (BC b 0 _) (Or.inr (fun e=>by have:=(World.ownsRow.lt HOw.out _ e).1;omega))),aa ((Below.refl b w).setCell (Nat.le_refl b) _)⟩
  ·
   refine(Qh b v w CP).mono ?_;rintro e w' ⟨h1,rfl⟩;exact⟨h1,CP,HOw,aa (Below.refl b _)⟩
 clear hp hblk hown hB;have HCC:=aa hcc;clear hcc;go_in
 go_wp2_with fail
 refine HCC.out.mono ?_;rintro e w1 ⟨⟨u,rfl⟩,HB1,BZ,Nc⟩;clear HCC;obtain⟨⟨c0,c1⟩,f0,f1⟩:=HB1.out.cells;have hb1:=HB1.out.lt;have hown:=BZ.out.row rfl;have hsz:=Nc.out.size;have hcnt:b<w1.heap.size:=hb1;have b1:l.length+1≤maxLen:=by unfold maxLen;omega
 have b2:(l.length+1)*1≤140737488355328:=by omega
 have b3:b+1≤(w1.alloc (.cells #[.int .u8 c] 5)).heap.size:=by simp;omega
 go_wp2_with (at_builtin;refine wpList_append_lies rfl _ _ 114 rfl (b+1) 5 i0 (.int .u8 0) 1 1 Tryz.underlying114 hi hz0 hz1 hz2 rfl (by decide) v _ _ rfl (hown.alloc _) ⟨w1.heap.size,0,none⟩ 1 1 [.int .u8 c] rfl rfl (World.news_of_block (cs:=#[.int .u8 c]) (t:=5) (fr:=(0,0)) (heap_alloc_new w1 _)) (by simp[Value.oneCell']) (by decide) b1 b2 b3 _ rfl ?_;intro gg cap wz hown1 hgrow hat hlt2;have hne:v.ownBlock≠some b:=fun e=>absurd (World.ownsRow.lt hown b e).1 (by omega);have sJ:Hid (q8 wz b (.pointer (some ⟨b,0,none⟩)) v):=aa ((hgrow.block b (by simp;omega) (Ne.symm hne)).trans ((heap_alloc_old w1 _ hb1).trans HB1.out));obtain⟨⟨z0,z1⟩,y0,y1⟩:=sJ.out.cells)
 have MU:Hid (aV .u8 5 wz (b+1) (.slice (some ⟨gg,0,none⟩) (l.length+1) cap) (l ++ [c])):=aa (aV.app (ys:= [c]) rfl rfl hown1);have HLz:Hid (Below b w wz):=aa ((Nc.out.alloc (by omega) (.cells #[.int .u8 c] 5)).grown hgrow (by simp;omega) (fun j hj=>by have:=(World.ownsRow.lt hown j hj).1;omega))
 have HNe:Hid (b≠gg):=aa (by
  rcases hat with h2 | h2
  · have:=(World.ownsRow.lt hown gg h2).1;omega
  · simp at h2;omega)
 go_ret;refine⟨⟨_,rfl⟩,⟨_,_,Or.inr rfl,sJ.out.set1 _,MU.out.kept (BC b 1 _) (Or.inr (fun e=>HNe.out (by simpa [Value.ownBlock]using e.symm)))⟩,HLz.out.setCell (Nat.le_refl b) _⟩
theorem Pw:Tryz.prog.underlying 41=some (.array 32 5):=by kernel_rfl
theorem Ms {l:List Int} (hl:l.length=32) {k:Nat} (hk:k<32)(w:World):(Instr.index 41 (.agg (arr .u8 l)) (.int .i64 (k:Int))).run Tryz.prog w = .ok (.int .u8 (l.getD k 0)) w:=by
 obtain⟨i1,hi1,hy0,hy1,hy2⟩:=info_parts eB;have h0:(0:Int)≤k∧(k:Int)<((32:Nat):Int):=by omega
 have h1:(arr .u8 l)[k]? = some (.int .u8 (l.getD k 0)):=Al (by omega)
 simp only[Instr.index,asIntOf,run_underlying Pw,h0,go_sem]
 simp[h1,hk,go_sem]
def qL (q:Int):Int:=if q<10 then 48+q else 87+q
theorem GG:∀n:Nat,n<16→∀w,(Instr.index 9 (.string ⟨#[48,49,50,51,52,53,54,55,56,57,97,98,99,100,101,102]⟩) (.int .u8 (n:Int))).run Tryz.prog w = .ok (.int .u8 (qL n)) w
 | 0,_=>fun w=>by kernel_rfl
 | 1,_=>fun w=>by kernel_rfl
 | 2,_=>fun w=>by kernel_rfl
 | 3,_=>fun w=>by kernel_rfl
 | 4,_=>fun w=>by kernel_rfl
 | 5,_=>fun w=>by kernel_rfl
 | 6,_=>fun w=>by kernel_rfl
 | 7,_=>fun w=>by kernel_rfl
 | 8,_=>fun w=>by kernel_rfl
 | 9,_=>fun w=>by kernel_rfl
 | 10,_=>fun w=>by kernel_rfl
 | 11,_=>fun w=>by kernel_rfl
 | 12,_=>fun w=>by kernel_rfl
 | 13,_=>fun w=>by kernel_rfl
 | 14,_=>fun w=>by kernel_rfl
 | 15,_=>fun w=>by kernel_rfl
 | n+16,h=>fun w=>absurd h (by omega)
theorem rJ {q:Int} (h0:0≤q)(h1:q<16)(w:World):(Instr.index 9 (.string ⟨#[48,49,50,51,52,53,54,55,56,57,97,98,99,100,101,102]⟩) (.int .u8 q)).run Tryz.prog w = .ok (.int .u8 (qL q)) w:=by
 obtain⟨n,rfl⟩:∃n:Nat,q=n:=⟨q.toNat,by omega⟩;exact GG n (by omega) w
def lG (l:List Int):List Int:=l.flatMap fun x=> [qL (x / 16),qL (x%16)]
theorem pE (l:List Int):(lG l).length=2*l.length:=by
 induction l with
 | nil=>rfl
 | cons x t ih=>simp[lG]at ih ⊢;omega
theorem GL (l m:List Int):lG (l++m)=lG l++lG m:=by simp[lG]
def txt (l:List Int):ByteArray:=⟨(l.map fun x=>UInt8.ofNat x.toNat).toArray⟩
def Q8 (l:List Int):Prop:=∀x∈l,0≤x∧x<256
theorem CJ {l:List Int} (h:Q8 l):Lib.byteCells (l.map fun x=>UInt8.ofNat x.toNat)=l.map (Value.int .u8):=by
 unfold Lib.byteCells;rw[List.map_map]
 apply List.map_congr_left
 intro x hx;have:=h x hx
 simp only[Function.comp,UInt8.toNat_ofNat']
 congr 1
 omega
theorem Pt {q:Int} (h0:0≤q)(h1:q<16):0≤qL q∧qL q<256:=by unfold qL;split <;> omega
theorem Pv {l:List Int} (h:Q8 l):Q8 (lG l):=by
 intro y hy;obtain⟨x,hx,hy2⟩:=List.mem_flatMap.1 hy;have:=h x hx
 simp only[List.mem_cons,List.not_mem_nil,or_false]at hy2
 rcases hy2 with rfl | rfl
 · exact Pt (by omega) (by omega)
 · exact Pt (by omega) (by omega)
theorem Rl.is {w:World} {b:Nat} {l:List Int} (h:Rl w b l)(hb:Q8 l):Lib.IsBuilder 217 5 b b (Lib.byteCells (l.map fun x=>UInt8.ofNat x.toNat)) w:=by
 obtain⟨p,v,hp,hblk,hown⟩:=h
 have h2:Lib.BuilderAt 217 5 b b p (Lib.byteCells (l.map fun x=>UInt8.ofNat x.toNat)) w:=by
  refine⟨Nat.le_refl b,v,hblk, ?_, ?_⟩
  ·
   rw[CJ hb];have h3:=(hown.mono (Nat.le_succ b));unfold aV at h3
   simpa using h3
  · exact fun e=>absurd (World.ownsRow.lt hown b e).1 (by omega)
 rcases hp with rfl | rfl
 · exact Or.inl h2
 · exact Or.inr h2
theorem Rl.new (w:World):Rl (w.alloc (.cells #[.pointer none, .slice none 0 0] 217)) w.heap.size []:=
 ⟨_,_,Or.inl rfl,heap_alloc_new _ _,⟨rfl,Or.inl ⟨rfl,rfl⟩⟩⟩
theorem abk {x:Int} (h0:0≤x)(h1:x<256):bits .and .u8 x 15=x%16:=by
 obtain⟨n,rfl⟩:∃n:Nat,x=n:=⟨x.toNat,by omega⟩;have h2:∀m:Nat,m<256→bits .and .u8 (m:Int) 15=(m:Int)%16:=by decide
 exact h2 n (by omega)
theorem Tg (h:List Int)(hl:Hid (h.length=32))(hb:Hid (Q8 h))(w:World) :
  Calls Tryz.prog 171 #[.agg (arr .u8 h)] w (Rt w (.string (txt (lG h)))):=by
 obtain⟨W,hW⟩:∃W,(w.alloc (.cells (arr .u8 h) 41)).alloc (.cells #[.pointer none, .slice none 0 0] 217)=W:=⟨_,rfl⟩;have hb0:(w.alloc (.cells (arr .u8 h) 41)).heap.size=w.heap.size+1:=by simp
 have HB0:Hid (Below w.heap.size w W):=aa (by rw[←hW];exact((af w _).alloc (by simp) _));have HBb:Hid (Rl W (w.heap.size+1) []):=aa (by rw[←hW,←hb0];exact Rl.new _);have HT:Hid (bS .u8 41 W w.heap.size h):=aa (by rw[←hW];exact(bS.new w h).old _);have HW:=aa hW;clear hW hb0;go_in
 go_upto_region 2 with(fail)
 rw[HW.out]
 go_wp2_with ((with_reducible show wpList _ _ _ (⟨some 6,_,_,_,_,_⟩::_) _ _);refine wpList_load_row rfl 41 _ rfl w.heap.size rfl _ _ _ _ HT.out Tryz.underlying41 rfl (aH hl.out) ?_)
 clear HW HT
 go_loopw [7] (fun i u=>∃k:Nat,k≤32∧i = .int .i64 k∧Hid (Rl u (w.heap.size+1) (lG (h.take k)))∧Hid (Below w.heap.size w u)) (fun i _=>32-(intOf i).toNat)
 case atStart=>exact⟨0,by omega,by simp,HBb,HB0⟩
 case round=>
  obtain⟨k,hk,rfl,CP,HLk⟩:=hrel
  by_cases hlt:k<32
  ·
   have d1:decide ((k:Int)<32)=true:=by simp;omega
   obtain⟨x,hx⟩:∃x,h.getD k 0=x:=⟨_,rfl⟩
   have hxb:0≤x∧x<256:=by
    rw[←hx,List.getD_eq_getElem?_getD,List.getElem?_eq_getElem (by have:=hl.out;omega)];exact hb.out _ (List.getElem_mem _)
   have hix:=Ms hl.out hlt;rw[hx]at hix;have hb1:=abk hxb.1 hxb.2;have hd1:=rJ (q:=x / 16) (by omega) (by omega);have hd2:=rJ (q:=x%16) (by omega) (by omega);have IG:Hid ((lG (h.take k)).length≤100000):=aa (by rw[pE,List.length_take];omega);have Nc:Hid ((lG (h.take k) ++ [qL (x / 16)]).length≤100000):=aa (by rw[List.length_append,pE,List.length_take];simp;omega)
   have zO:Hid ((lG (h.take k) ++ [qL (x / 16)]) ++ [qL (x%16)]=lG (h.take (k+1))):=aa (by
    rw[take_one (show k<h.length by have:=hl.out;omega),GL,hx]
    simp[lG])
   clear hx
   go_wp2_with fail
   refine(CU (w.heap.size+1) _ _ IG.out _ CP).mono ?_;rintro e w1 ⟨⟨ua,rfl⟩,aaQ,aaP⟩;have aco:=aa aaQ;have Ui:=aa (HLk.out.trans (aaP.mono (Nat.le_succ _)));clear aaQ aaP CP HLk
   go_wp2_with fail
   refine(CU (w.heap.size+1) _ _ Nc.out _ aco).mono ?_;rintro e w2 ⟨⟨ub,rfl⟩,Xj,aaO⟩;rw[zO.out]at Xj;have Cb:=aa Xj;have afz:=aa (Ui.out.trans (aaO.mono (Nat.le_succ _)));clear Xj aaO aco Ui;go_wp2
   go_roundw
   case rel=>exact⟨k+1,by omega,by go_num,Cb,afz⟩
   case measure=>simp[intOf];omega
  ·
   obtain rfl:k=32:=by omega
   have Cb:Hid (Rl wr (w.heap.size+1) (lG h)):=aa (by
    have h2:=CP.out
    rwa [List.take_of_length_le (by rw[hl.out];exact Nat.le_refl _)]at h2)
   have HNe:Hid ((lG h).map (fun x=>UInt8.ofNat x.toNat) ≠ []):=aa (by
    intro e;have:=congrArg List.length e;rw[List.length_map,pE,hl.out]at this
    simp at this)
   clear CP
   go_wp2_with fail
   refine(Tryz.Builder_String (w.heap.size+1) (w.heap.size+1) _ _ (Cb.out.is (Pv hb.out)) HNe.out).mono ?_;rintro e w1 ⟨rfl,hb1⟩;have Ui:=aa (HLk.out.trans (hb1.mono (Nat.le_succ _)));clear hb1 HLk;go_wp2;go_ret;exact⟨rfl,Ui.out⟩
theorem Qo {w:World} {B:Nat} {v:Value} {l:List Int} {n:Nat} (h:aV .u8 5 w B v l)(hb:Q8 l)(h0:0<l.length):(convert 114 9 v).run Tryz.prog w = .ok (.string (txt l)) w:=by
 obtain⟨g,cap,rfl,hg,hn,hc2,hc⟩:=h.cells h0
 have e:=run_convert_bytes_back (P:=Tryz.prog) w 114 9 5 ⟨g,0,none⟩ cap (l.map fun x=>UInt8.ofNat x.toNat) Tryz.underlying114 Tryz.underlying5 Tryz.underlying9 (fun j hj=>by
  have hj2:j<l.length:=by simpa using hj
  obtain⟨b,o,e1,e2⟩:=hc j hj2;injection e1 with e1;injection e1 with e1 e1b;subst e1;subst e1b;have hx:=hb (l.getD j 0) (by rw[List.getD_eq_getElem?_getD,List.getElem?_eq_getElem hj2];exact List.getElem_mem _)
  have e3:(((l.map fun x=>UInt8.ofNat x.toNat)[j]'hj).toNat:Int)=l.getD j 0:=by
   rw[List.getElem_map,UInt8.toNat_ofNat'];rw[List.getD_eq_getElem?_getD,List.getElem?_eq_getElem hj2]at hx ⊢
   simp only[Option.getD_some]at hx ⊢
   omega
  rw[e3,←e2]
  simp[Addr.add]
  split <;> simp_all)
 rw[List.length_map]at e;exact e
theorem Oe (h:List Int)(hl:Hid (h.length=32))(hb:Hid (Q8 h))(w:World) :
  Calls Tryz.prog 175 #[.agg (arr .u8 h)] w (Rt w (.string (txt (lG h)))):=by
 obtain⟨i0,hi,hz0,hz1,hz2⟩:=info_parts eB;obtain⟨W,hW⟩:∃W,w.alloc (.cells (arr .u8 h) 41)=W:=⟨_,rfl⟩;have hWs:W.heap.size=w.heap.size+1:=by rw[←hW];simp
 have HB0:Hid (Below w.heap.size w W):=aa (by rw[←hW];exact af w _);have HT:Hid (bS .u8 41 W w.heap.size h):=aa (by rw[←hW];exact bS.new w h);have HW:=aa hW;clear hW;go_in
 go_upto_region 3 with(fail)
 rw[HW.out];clear HW;go_wp2
 go_loopw [4,5] (fun v i u=>∃k:Nat,k≤32∧i = .int .i64 k∧Hid (aV .u8 5 u (w.heap.size+1) v (lG (h.take k)))∧Hid (Below (w.heap.size+1) W u)) (fun _ i _=>32-(intOf i).toNat)
 case atStart=>exact⟨0,by omega,by simp,aa ⟨rfl,Or.inl ⟨rfl,rfl⟩⟩,aa (Below.refl _ _)⟩
 case round=>
  obtain⟨k,hk,rfl,HO,aD⟩:=hrel
  by_cases hlt:k<32
  ·
   have d1:decide ((k:Int)<32)=true:=by simp;omega
   obtain⟨x,hx⟩:∃x,h.getD k 0=x:=⟨_,rfl⟩
   have hxb:0≤x∧x<256:=by
    rw[←hx,List.getD_eq_getElem?_getD,List.getElem?_eq_getElem (by have:=hl.out;omega)];exact hb.out _ (List.getElem_mem _)
   have d3:(k:Int)<32:=by omega
   have hd1:=rJ (q:=x / 16) (by omega) (by omega);have hd2:=rJ (q:=x%16) (by omega) (by omega);have e1:x.tdiv 16=x / 16:=Int.tdiv_eq_ediv_of_nonneg hxb.1;have e2:x.tmod 16=x%16:=Int.tmod_eq_emod_of_nonneg hxb.1;have e3:IntKind.u8.wrap (x / 16)=x / 16:=by simp[IntKind.wrap,IntKind.bits,IntKind.signed];omega
   have e4:IntKind.u8.wrap (x%16)=x%16:=by simp[IntKind.wrap,IntKind.bits,IntKind.signed];omega
   obtain⟨n,hn⟩:∃n,(lG (h.take k)).length=n:=⟨_,rfl⟩;have hn2:n≤64:=by rw[←hn,pE,List.length_take];omega
   have tC:=aa hn;have HOWN:=aa (HO.out.row hn)
   have zO:Hid (lG (h.take k) ++ [qL (x / 16),qL (x%16)]=lG (h.take (k+1))):=aa (by
    rw[take_one (show k<h.length by have:=hl.out;omega),GL,hx]
    simp[lG])
   have hc:wr.cell? ⟨w.heap.size,k,none⟩=some (.int .u8 x):=by
    rw[←hx];exact(HT.out.keepB (Nat.lt_succ_self _) aD.out).cell (by have:=hl.out;omega)
   have hsz:=aD.out.size;have hS:=aa (show ∀u1:World,Hid (Below wr.drew.heap.size wr.drew u1)→(u1.cell? ⟨w.heap.size,k,none⟩=some (.int .u8 x)∧Hid (Below wr.drew.heap.size wr.drew u1))from fun u1 h1=>⟨cell_below (w:=wr.drew) hc h1.out,h1⟩);clear hx hn hc HT;go_wp2;refine bV (S:=fun w'=>w'.cell? ⟨w.heap.size,k,none⟩=some (.int .u8 x)∧Hid (Below wr.drew.heap.size wr.drew w')) (E:= [14,15]) (by kernel_rfl) (hS.out _ (aa (Below.refl _ _))) (fun hHeld=>?_);refine b_ 0 ?_;refine b_ 1 ?_;refine b_ 2 ?_;refine b_ 3 ?_;refine b_ 4 ?_;refine b_ 5 ?_;refine b_ 6 ?_;refine b_ 7 ?_;refine b_ 8 ?_;refine b_ 9 ?_;refine b_ 10 ?_;refine b_ 11 ?_;refine b_ 12 ?_;refine dh 13 fun K hK=>?_;go_simp;refine hK.out _ _ ?_ (fun hHeld=>?_)
   · exact hS.out _ (aa (af _ _))
   clear hK K
   try simp only[qq]
   refine oz 14 fun K hK=>?_
   refine step_append_lies _ (by rfl) _ _ _ (by rfl) (w.heap.size+1) 5 i0 _ 1 1 Tryz.underlying114 hi hz0 hz1 hz2 rfl (by omega) u4 n ((lG (h.take k)).map (Value.int .u8)) (by rfl) ((HOWN.out.alloc _).drew)
    ⟨wr.heap.size,0,none⟩ 2 2 [.int .u8 (qL (x / 16)), .int .u8 (qL (x%16))] (by rfl) (by rfl) (World.news_of_block (cs:=#[.int .u8 (qL (x / 16)), .int .u8 (qL (x%16))]) (t:=5) (fr:=(0,0)) (heap_alloc_new wr _)) (by simp[Value.oneCell'])
    (by omega) (by unfold maxLen;omega) (by omega) (by simp;omega) (wr.heap.size+1) (by simp) ?_;intro gg cap wz hown1 hgrow hat hlt2
   refine hK.out _ _ ?_;clear hK K
   try simp only[qq]
   refine oz 15 fun K hK=>?_;go_simp;refine hK.out _ _ ?_;clear hK K
   try simp only[qq]
   refine gM ?_;have HB2:Hid (Below (w.heap.size+1) W wz):=aa (((aD.out.alloc (by omega) (.cells #[.int .u8 (qL (x / 16)), .int .u8 (qL (x%16))] 5)).drew).grown hgrow (by simp;omega) (fun j hj=>by have:=(World.ownsRow.lt HOWN.out j hj).1;omega))
   have tu:Hid (aV .u8 5 wz (w.heap.size+1) (.slice (some ⟨gg,0,none⟩) (n+2) cap) (lG (h.take (k+1)))):=aa (by
    rw[←zO.out]
    exact aV.app (ys:= [qL (x / 16),qL (x%16)]) tC.out.symm rfl hown1)
   clear hown1 hgrow hat HO aD;go_wp2
   go_roundw
   case rel=>exact⟨k+1,by omega,by go_num,tu,HB2⟩
   case measure=>simp[intOf];omega
  ·
   obtain rfl:k=32:=by omega
   have HF:Hid (aV .u8 5 wr (w.heap.size+1) u4 (lG h)):=aa (by
    have h2:=HO.out
    rwa [List.take_of_length_le (by rw[hl.out];exact Nat.le_refl _)]at h2)
   have hcv:=Qo (n:=0) HF.out (Pv hb.out) (by rw[pE,hl.out];decide);have HE:Hid (Below w.heap.size w wr):=aa (HB0.out.trans (aD.out.mono (Nat.le_succ _)));clear HO aD;go_wp2;go_ret;exact⟨rfl,HE.out⟩
def wZ:ByteArray:=⟨#[115,112,101,99,105,101,47,111,114,100,101,114]⟩
def qK (h:List Int)(o:aG):It:= .lst [.byt h, .int o.num, .byt (bq o.rs),M8 o.E1 o.E2 o.al o.C o.zs]
def lbH (h:List Int)(o:aG):List Int:=tagged (bq wZ) (enc (qK h o))
def M7 (h:List Int)(o:aG):ByteArray:=(⟨#[116,114,97,99,101,58]⟩:ByteArray)++(txt (lG (lbH h o))).extract 0 16
theorem OX {l:List Int} (h:aF l=true):Q8 l:=fun x hx=>by
 simp only[aF,List.all_eq_true,Bool.and_eq_true,decide_eq_true_eq]at h
 exact h x hx
theorem FI (l:List Int):(txt l).size=l.length:=by simp[txt,ByteArray.size]
theorem Gs (h:List Int)(o:aG):(M7 h o).size≤1000:=by
 rw[M7,ByteArray.size_append,ByteArray.size_extract];show 6+_≤1000
 omega
theorem KZ {h:List Int} {o:aG} (hl:h.length=32)(hb:aF h=true)(hi:dD o)(hs:fE o):fits 8 (qK h o):=by
 have ho:=JF hi hs;refine⟨by simp,fun x hx=>?_⟩
 simp only[List.mem_cons,List.not_mem_nil,or_false]at hx
 rcases hx with rfl | rfl | rfl | rfl
 · exact⟨⟨by omega,by omega⟩,hb⟩
 · exact qN (ho.2 _ (by simp[xJ])) (by decide)
 · exact qN (ho.2 _ (by simp[xJ])) (by decide)
 · exact qN (ho.2 _ (by simp[xJ])) (by decide)
theorem PR {h:List Int} {o:aG} (hl:h.length=32)(hs:fE o):(enc (qK h o)).length≤16384:=by
 have h1:=UZ hs;rw[xJ,fV]at h1;rw[qK,fV]
 simp only[List.length_cons,List.length_append,eX,qQ,jh,List.length_nil,show(gz []).length=0 from rfl,hl]at h1 ⊢
 omega
theorem Mo (bO fO:Nat)(os:List aG)(n c:Nat)(K:Option Addr)(hs:List (List Int))(m d i:Nat)(hn:Hid (os.length=n))(hm:Hid (hs.length=m))(hi:i<n)(him:i≤m)(hb1:n≤1000000)(hb2:m≤1000000)(h:List Int)(hh:Hid (eH hs i=h))(hl:Hid (h.length=32))(hb:Hid (aF h=true))(o:aG)(ho:Hid (bz os i=o))(hI:Hid (dD o))(hS:fE o)(w:World)(hv:Hid (bB w))(hO:Hid (Os w (some ⟨bO,fO,none⟩) os))(hK:Hid (Hs w K hs)) :
  Calls Tryz.prog 127 #[iA (some ⟨bO,fO,none⟩) n c K m d, .int .i64 (i:Int)] w (Rt w (.string (M7 h o))):=by
 obtain⟨RR,hRR⟩:∃R,tagged (bq wZ) (enc (qK h o))=R:=⟨_,rfl⟩;rw[show M7 h o=(⟨#[116,114,97,99,101,58]⟩:ByteArray)++(txt (lG (tagged (bq wZ) (enc (qK h o))))).extract 0 16 from rfl,hRR];have HRR:Kp (tagged (bq wZ) (enc (qK h o))=RR):=⟨hRR⟩;have fQ:Hid (RR.length=32):=aa (by rw[←hRR];exact dR _ _);have Fq:Hid (Q8 RR):=aa (by rw[←hRR];exact OX (jJ _));have lX:Hid (fits 8 (qK h o)):=aa (KZ hl.out hb.out hI.out hS);have HLEN:Hid ((enc (qK h o)).length≤16384):=aa (PR hl.out hS);clear hRR;have hxs:(txt (lG RR)).size=64:=by rw[FI,pE,fQ.out]
 obtain⟨w0,HW,ai,kC⟩:=st1 (jC (some ⟨bO,fO,none⟩) n c K m d) qx w;have kO:=fo (fun u=>Os u (some ⟨bO,fO,none⟩) os) ai hO (·.below);have kK:=fo (fun u=>Hs u K hs) ai hK (·.below);have kD:=oF ai hv;have ah:=bI w0;clear hO hK hv;obtain⟨bX,fX,hX,bF,hok⟩:=((kO.out _ ah)).out i (by rw[hn.out];exact hi)
 cases hX
 rw[show os.getD i dN=o from ho.out]at bF hok;obtain⟨j0,j1,j2,j3,j4,j5,j6,j7,j8⟩:=bF;have jy:=aa hok;clear hok;go_in
 go_upto_region 1 with(fail)
 rw[HW.out];have zc:=kC.out _ ah;obtain⟨w1,hw,Ue,ae6,-,kE⟩:=pO (l6 o) zq w0;have ax:=iW ah Ue;have gI:=bI w1;clear Ue;have pK:=kC.out _ ax;have AA:=kE.out _ gI
 go_upto_region 2 with(fail)
 clear zc pK AA hw;have zc:=kC.out _ ax;have q9:=kE.out _ gI;clear j0 j1 j2 j3 j4 j5 j6 j7 j8;have zc:=kC.out _ ax;have q9:=kE.out _ gI
 go_wp2_with fail
 clear zc q9;refine PZ ax gI (BL (some ⟨bO,fO,none⟩) n c K hs m d i hm him hb2 _ (kK.out _ ax)) fun w2 az qj=>?_;rw[hh.out];have Ls:Hid (bS .u8 41 (w2.alloc (.cells z32 41)) w2.heap.size (dL 32)):=aa (by rw[jR];exact bS.new _ _)
 go_upto_region 3 with((with_reducible show wpList _ _ _ (⟨none,Op.store _ (Operand.tmp 6) _,_,_,_,_⟩::_) _ _);refine wpList_store_row rfl 41 _ _ rfl w2.heap.size (arr .u8 h) rfl rfl _ _ Ls.out (aH hl.out) (fu (l:=dL 32) rfl hl.out) (dG _) ?_)
 obtain⟨w3,hw⟩:∃x,(w2.alloc (.cells z32 41)).setRow w2.heap.size (arr .u8 h)=x:=⟨_,rfl⟩;have qh:Hid (bS .u8 41 w3 w2.heap.size h):=aa (by rw[←hw];exact Ls.out.setRow);have hq:Below w2.heap.size w2 w3:=by rw[←hw];exact aj (af _ _) (Nat.le_refl _)
 have aW:=bJ az hq;have sD:=bJ qj hq;rw[hw];clear hw hq Ls;have fZ:=bI w3;obtain⟨b3,hb3⟩:∃x,w2.heap.size=x:=⟨_,rfl⟩;rw[hb3]at qh ⊢;have Vf:=aa hb3;clear hb3;have kHB:=nQ (w:=w3) (fun u=>bS .u8 41 u b3 h) qh.out (·.below);obtain⟨q1,q2⟩:Hid (o.al.length=o.na)∧Hid (o.zs.length=o.nz):=⟨aa jy.out.1,aa jy.out.2.1⟩;have U8:o.na≤20:=by rw[←q1.out];exact hS.a
 have U7:o.nz≤20:=by rw[←q2.out];exact hS.z
 have kA:=nQ (w:=w0) (fun u=>Sl u o.A o.al) jy.out.2.2.2.1 (·.below);have kZ:=nQ (w:=w0) (fun u=>Sl u o.Z o.zs) jy.out.2.2.2.2.1 (·.below);have hcv:=fun w=>run_bytes_of_string (P:=Tryz.prog) w 9 114 5 o.rs Tryz.underlying9 Tryz.underlying114 Tryz.underlying5;have zc:=kC.out _ aW;have q9:=kE.out _ sD
 try simp only[Act.put]
 clear zc q9;have hO:=aa (fun(u:World) (h:Hid (Below w0.heap.size w0 u∧Below w1.heap.size w1 u∧Below w3.heap.size w3 u))=>And.intro (kC.out u (aa h.out.1)) (kE.out u (aa h.out.2.1)));have pJ:=bb3 (aa ⟨aW.out,sD.out,fZ.out⟩) (Below.refl _ _).drew;refine uG (fun u=>Below w0.heap.size w0 u∧Below w1.heap.size w1 u∧Below w3.heap.size w3 u) [16] pJ (fun hHeld=>?_);obtain⟨wD,pq⟩:∃u,w3.drew=u:=⟨_,rfl⟩;rw[pq]at pJ hHeld ⊢;have BV:Hid (w3.heap.size≤wD.heap.size):=aa (by rw[←pq];exact Nat.le_refl _);clear pq;refine aP 0 2 3 5 ?_;refine aL 6 ?_;refine aL 9 ?_;refine aL 10 ?_;refine tFr fun a0 ha0=>?_;clear hHeld;refine RG [1,4,7,8,11,12,13,14,15] [[], [0], [], [0,1,2], [0,1,2,3], [0,1,2,3,4], [0,1,2,3,4,5], [0,1,2,3,4,5,6], []] [[1,3,4,5,6,7], [3,4,5,6,7], [3,4,5,6,7], [4,5,6,7], [5,6,7], [6,7], [7], [], []] 1 #[true,true,true,true,true,true,true,true,true,true,true,true,true,true,true,true,false] (fun bs a u=>∃(Aa Jd E9 KD vT jS gX gW fI:Bool) (gC:Nat) (cC:Nat) (cE:Ic) (gL:Nat) (gT:Nat),bs = [Aa,Jd,E9,KD,vT,jS,gX,gW,fI]∧a=(((((((((a0.put (some 17) (cond Aa (.agg #[.int .i64 2, .int .i64 (0), .slice (some ⟨b3,0,none⟩) 32 32, .slice none 0 0]) undef)).put (some 20) (cond Jd (.agg #[.int .i64 1, .int .i64 (o.num), .slice none 0 0, .slice none 0 0]) undef)).put (some 23) (cond E9 (.slice (some ⟨gC,0,none⟩) o.rs.size cC) undef)).put (some 24) (cond KD (.agg #[.int .i64 2, .int .i64 (0), .slice (some ⟨gC,0,none⟩) o.rs.size cC, .slice none 0 0]) undef)).put (some 27) (cond vT (.agg #[.int .i64 cE.kind, .int .i64 cE.n, .slice cE.B cE.nb cE.cb, .slice cE.L cE.nl cE.cl]) undef)).put (some 28) (cond jS (.slice (some ⟨gL,0,none⟩) 4 4) undef)).put (some 29) (cond gX (.agg #[.int .i64 3, .int .i64 (0), .slice none 0 0, .slice (some ⟨gL,0,none⟩) 4 4]) undef)).put (some 30) (cond gW (.agg (arr .u8 RR)) undef)).put (some 7) (cond fI (.pointer (some ⟨gT,0,none⟩)) undef))∧Hid (Below w0.heap.size w0 u∧Below w1.heap.size w1 u∧Below w3.heap.size w3 u)∧(E9=true→Hid (Sk .u8 u (some ⟨gC,0,none⟩) (bq o.rs)))∧(E9=true→Hid (w0.heap.size≤gC))∧(vT=true→Hid (rY w0.heap.size u (M8 o.E1 o.E2 o.al o.C o.zs) cE))∧(jS=true→Hid (u.heap[gL]? = some (.cells #[.int .i64 2, .int .i64 0, .slice (some ⟨b3,0,none⟩) 32 32, .slice none 0 0, .int .i64 1, .int .i64 o.num, .slice none 0 0, .slice none 0 0, .int .i64 2, .int .i64 0, .slice (some ⟨gC,0,none⟩) o.rs.size cC, .slice none 0 0, .int .i64 cE.kind, .int .i64 cE.n, .slice cE.B cE.nb cE.cb, .slice cE.L cE.nl cE.cl] 117)))∧(jS=true→Hid (w0.heap.size≤gL))∧(fI=true→Hid (bS .u8 41 u gT (dL 32)))∧(fI=true→Hid (w0.heap.size≤gT))) ⟨false,false,false,false,false,false,false,false,false,0,0,(Ic.mk 0 0 none 0 0 none 0 0),0,0,rfl,by rw[ha0];simp only[qq],pJ,nofun,nofun,nofun,nofun,nofun,nofun,nofun⟩ ?_ ⟨?_, ?_, ?_, ?_, ?_, ?_, ?_, ?_, ?_,trivial⟩
 ·
  rintro bs a u hbs ⟨Aa,Jd,E9,KD,vT,jS,gX,gW,fI,gC,cC,cE,gL,gT,rfl,rfl,FB,tF,jA,pM,qB,iF,nS,fT⟩;obtain⟨rfl,rfl,rfl,rfl,rfl,rfl,rfl,rfl,rfl⟩:Aa=true∧Jd=true∧E9=true∧KD=true∧vT=true∧jS=true∧gX=true∧gW=true∧fI=true:=by simpa using hbs
  have FC:=tF rfl;have Cq:=jA rfl;have HE:=pM rfl;have FL:=qB rfl;have nJ:=iF rfl;have FT:=nS rfl;have Vl:=fT rfl;clear tF jA pM qB iF nS fT;have hHeld:=FB;have hT:=trivial;rw[ha0]
  simp only[qq]
  have vJ:=aa FB.out.1;have ach:=aa FB.out.2.1;have acg:=aa FB.out.2.2;refine oz 16 fun K hK=>?_;rw[show(if Region.wanted _ _=true then _ else _:Prop)=_ from if_pos rfl];refine wp_store_row 41 _ _ rfl gT (arr .u8 RR) rfl rfl 41 _ FT.out (aH fQ.out) (fu (l:=dL 32) rfl fQ.out) (dG _) ?_;refine hK.out _ _ ?_;clear hK K
  try simp only[qq]
  refine gM ?_;clear hHeld hT ha0;obtain⟨wq,hwq⟩:∃x,u.setRow gT (arr .u8 RR)=x:=⟨_,rfl⟩;have Ua:Hid (bS .u8 41 wq gT RR):=aa (by rw[←hwq];exact FT.out.setRow);have Ll:Hid (Below w0.heap.size w0 wq):=aa (by rw[←hwq];exact aj FB.out.1 Vl.out);rw[hwq];clear hwq
  go_wp2_with ((with_reducible show wpList _ _ _ (⟨some 31,_,_,_,_,_⟩::_) _ _);refine wpList_load_row rfl 41 _ rfl gT rfl _ _ _ _ Ua.out Tryz.underlying41 rfl (aH fQ.out) ?_)
  refine(Tg RR fQ Fq _).mono ?_;rintro e w9 ⟨rfl,yN⟩;have bT:=ag ai.out (ag Ll.out yN);go_wp2;go_ret;exact⟨rfl,bT⟩
 ·
  rintro bs a u ⟨Aa,Jd,E9,KD,vT,jS,gX,gW,fI,gC,cC,cE,gL,gT,rfl,rfl,FB,tF,jA,pM,qB,iF,nS,fT⟩ hr
  simp[kJ,and_assoc]at hr
  obtain⟨rfl,rfl,rfl,rfl,rfl,rfl,rfl⟩:=hr;refine⟨_,rfl,fun K hK=>?_⟩;rw[ha0]
  simp only[qq]
  go_simp;refine(zW (some ⟨b3,0,none⟩) 32 32 _).mono ?_;rintro e wB ⟨rfl,hq⟩;have aX:=bb3 FB hq;refine hK.out _ _ aX ⟨true,false,E9,false,false,false,false,false,fI,gC,cC,cE,gL,gT,rfl, ?_,aX,fun e=>aa ((tF e).out.below hq),fun e=>(jA e),nofun,nofun,nofun,fun e=>aa ((nS e).out.below hq),fun e=>(fT e)⟩;rw[ha0]
  simp only[qq]
  try rfl
 ·
  rintro bs a u ⟨Aa,Jd,E9,KD,vT,jS,gX,gW,fI,gC,cC,cE,gL,gT,rfl,rfl,FB,tF,jA,pM,qB,iF,nS,fT⟩ hr
  simp[kJ,and_assoc]at hr
  obtain⟨rfl,rfl,rfl,rfl,rfl,rfl,rfl⟩:=hr;refine⟨_,rfl,fun K hK=>?_⟩;rw[ha0]
  simp only[qq]
  go_simp;refine(uJ o.num _).mono ?_;rintro e wB ⟨rfl,hq⟩;have aX:=bb3 FB hq;refine hK.out _ _ aX ⟨true,true,E9,false,false,false,false,false,fI,gC,cC,cE,gL,gT,rfl, ?_,aX,fun e=>aa ((tF e).out.below hq),fun e=>(jA e),nofun,nofun,nofun,fun e=>aa ((nS e).out.below hq),fun e=>(fT e)⟩;rw[ha0]
  simp only[qq]
  try rfl
 ·
  rintro bs a u ⟨Aa,Jd,E9,KD,vT,jS,gX,gW,fI,gC,cC,cE,gL,gT,rfl,rfl,FB,tF,jA,pM,qB,iF,nS,fT⟩ hr
  simp[kJ,and_assoc]at hr
  obtain⟨rfl,rfl,rfl,rfl,rfl,rfl⟩:=hr;refine⟨_,rfl,fun K hK=>?_⟩;rw[ha0]
  simp only[qq]
  go_simp;have aX:=bb3 FB ((af u (.cells (bytesRow o.rs (grownCap u o.rs.size 0 5)) 5 ((bytesRow o.rs (grownCap u o.rs.size 0 5)).size,(bytesRow o.rs (grownCap u o.rs.size 0 5)).size+1))).drew);refine hK.out _ _ aX ⟨Aa,Jd,true,false,false,false,false,false,fI,u.heap.size,(grownCap u o.rs.size 0 5),cE,gL,gT,rfl, ?_,aX,fun _=>(aa ((nN (heap_alloc_new u _)).below ((Below.refl _ _).drew))),fun _=>(aa (by have:=FB.out.1.size;omega)),nofun,nofun,nofun,fun e=>aa ((nS e).out.below ((af u (.cells (bytesRow o.rs (grownCap u o.rs.size 0 5)) 5 ((bytesRow o.rs (grownCap u o.rs.size 0 5)).size,(bytesRow o.rs (grownCap u o.rs.size 0 5)).size+1))).drew)),fun e=>(fT e)⟩;rw[ha0]
  simp only[qq]
  try rfl
 ·
  rintro bs a u ⟨Aa,Jd,E9,KD,vT,jS,gX,gW,fI,gC,cC,cE,gL,gT,rfl,rfl,FB,tF,jA,pM,qB,iF,nS,fT⟩ hr
  simp[kJ,and_assoc]at hr
  obtain⟨rfl,rfl,rfl,rfl,rfl,rfl,rfl,rfl⟩:=hr;have FC:=tF rfl;have Cq:=jA rfl;refine⟨_,rfl,fun K hK=>?_⟩;rw[ha0]
  simp only[qq]
  go_simp;refine(zW (some ⟨gC,0,none⟩) o.rs.size cC _).mono ?_;rintro e wB ⟨rfl,hq⟩;have aX:=bb3 FB hq;refine hK.out _ _ aX ⟨true,true,true,true,false,false,false,false,fI,gC,cC,cE,gL,gT,rfl, ?_,aX,fun _=>aa (FC.out.below hq),fun _=>Cq,nofun,nofun,nofun,fun e=>aa ((nS e).out.below hq),fun e=>(fT e)⟩;rw[ha0]
  simp only[qq]
  try rfl
 ·
  rintro bs a u ⟨Aa,Jd,E9,KD,vT,jS,gX,gW,fI,gC,cC,cE,gL,gT,rfl,rfl,FB,tF,jA,pM,qB,iF,nS,fT⟩ hr
  simp[kJ,and_assoc]at hr
  obtain⟨rfl,rfl,rfl,rfl,rfl,rfl,rfl,rfl⟩:=hr;have FC:=tF rfl;have Cq:=jA rfl;refine⟨_,rfl,fun K hK=>?_⟩;rw[ha0]
  simp only[qq]
  go_simp;refine(Dr o.E1 o.E2 o.A o.na o.ca o.al o.C o.Z o.nz o.cz o.zs q1 q2 (by omega) (by omega) _ (kA.out _ (aa FB.out.1)) (kZ.out _ (aa FB.out.1))).mono ?_;rintro e wB ⟨cB,rfl,hit,hq⟩;have aX:=bb3 FB hq;refine hK.out _ _ aX ⟨true,true,true,true,true,false,false,false,fI,gC,cC,cB,gL,gT,rfl, ?_,aX,fun _=>aa (FC.out.below hq),fun _=>Cq,fun _=>(aa (hit.mono (by have:=FB.out.1.size;omega))),nofun,nofun,fun e=>aa ((nS e).out.below hq),fun e=>(fT e)⟩;rw[ha0]
  simp only[qq]
  try rfl
 ·
  rintro bs a u ⟨Aa,Jd,E9,KD,vT,jS,gX,gW,fI,gC,cC,cE,gL,gT,rfl,rfl,FB,tF,jA,pM,qB,iF,nS,fT⟩ hr
  simp[kJ,and_assoc]at hr
  obtain⟨rfl,rfl,rfl,rfl,rfl,rfl,rfl,rfl⟩:=hr;have FC:=tF rfl;have Cq:=jA rfl;have HE:=pM rfl;refine⟨_,rfl,fun K hK=>?_⟩;rw[ha0]
  simp only[qq]
  go_simp;have aX:=bb3 FB (af u (.cells #[.int .i64 2, .int .i64 0, .slice (some ⟨b3,0,none⟩) 32 32, .slice none 0 0, .int .i64 1, .int .i64 o.num, .slice none 0 0, .slice none 0 0, .int .i64 2, .int .i64 0, .slice (some ⟨gC,0,none⟩) o.rs.size cC, .slice none 0 0, .int .i64 cE.kind, .int .i64 cE.n, .slice cE.B cE.nb cE.cb, .slice cE.L cE.nl cE.cl] 117));refine hK.out _ _ aX ⟨true,true,true,true,true,true,false,false,fI,gC,cC,cE,u.heap.size,gT,rfl, ?_,aX,fun _=>aa (FC.out.below (af u (.cells #[.int .i64 2, .int .i64 0, .slice (some ⟨b3,0,none⟩) 32 32, .slice none 0 0, .int .i64 1, .int .i64 o.num, .slice none 0 0, .slice none 0 0, .int .i64 2, .int .i64 0, .slice (some ⟨gC,0,none⟩) o.rs.size cC, .slice none 0 0, .int .i64 cE.kind, .int .i64 cE.n, .slice cE.B cE.nb cE.cb, .slice cE.L cE.nl cE.cl] 117))),fun _=>Cq,fun _=>aa (HE.out.kept (af u (.cells #[.int .i64 2, .int .i64 0, .slice (some ⟨b3,0,none⟩) 32 32, .slice none 0 0, .int .i64 1, .int .i64 o.num, .slice none 0 0, .slice none 0 0, .int .i64 2, .int .i64 0, .slice (some ⟨gC,0,none⟩) o.rs.size cC, .slice none 0 0, .int .i64 cE.kind, .int .i64 cE.n, .slice cE.B cE.nb cE.cb, .slice cE.L cE.nl cE.cl] 117))),fun _=>(aa (heap_alloc_new u _)),fun _=>(aa (by have:=FB.out.1.size;omega)),fun e=>aa ((nS e).out.below (af u (.cells #[.int .i64 2, .int .i64 0, .slice (some ⟨b3,0,none⟩) 32 32, .slice none 0 0, .int .i64 1, .int .i64 o.num, .slice none 0 0, .slice none 0 0, .int .i64 2, .int .i64 0, .slice (some ⟨gC,0,none⟩) o.rs.size cC, .slice none 0 0, .int .i64 cE.kind, .int .i64 cE.n, .slice cE.B cE.nb cE.cb, .slice cE.L cE.nl cE.cl] 117))),fun e=>(fT e)⟩;rw[ha0]
  simp only[qq]
  try rfl
 ·
  rintro bs a u ⟨Aa,Jd,E9,KD,vT,jS,gX,gW,fI,gC,cC,cE,gL,gT,rfl,rfl,FB,tF,jA,pM,qB,iF,nS,fT⟩ hr
  simp[kJ,and_assoc]at hr
  obtain⟨rfl,rfl,rfl,rfl,rfl,rfl,rfl,rfl⟩:=hr;have FC:=tF rfl;have Cq:=jA rfl;have HE:=pM rfl;have FL:=qB rfl;have nJ:=iF rfl;refine⟨_,rfl,fun K hK=>?_⟩;rw[ha0]
  simp only[qq]
  go_simp;refine(xM (some ⟨gL,0,none⟩) 4 4 _).mono ?_;rintro e wB ⟨rfl,hq⟩;have aX:=bb3 FB hq;refine hK.out _ _ aX ⟨true,true,true,true,true,true,true,false,fI,gC,cC,cE,gL,gT,rfl, ?_,aX,fun _=>aa (FC.out.below hq),fun _=>Cq,fun _=>aa (HE.out.kept hq),fun _=>aa (bQ FL.out hq),fun _=>nJ,fun e=>aa ((nS e).out.below hq),fun e=>(fT e)⟩;rw[ha0]
  simp only[qq]
  try rfl
 ·
  rintro bs a u ⟨Aa,Jd,E9,KD,vT,jS,gX,gW,fI,gC,cC,cE,gL,gT,rfl,rfl,FB,tF,jA,pM,qB,iF,nS,fT⟩ hr
  simp[kJ,and_assoc]at hr
  obtain⟨rfl,rfl,rfl,rfl,rfl,rfl,rfl,rfl⟩:=hr;have FC:=tF rfl;have Cq:=jA rfl;have HE:=pM rfl;have FL:=qB rfl;have nJ:=iF rfl;refine⟨_,rfl,fun K hK=>?_⟩;rw[ha0]
  simp only[qq]
  go_simp
  have hit:pV u (qK h o) (Ic.mk 3 0 none 0 0 (some ⟨gL,0,none⟩) 4 4):=xN (fun k=>match k with | 0=>aQ (some ⟨b3,0,none⟩) 32 32 | 1=>aR o.num | 2=>aQ (some ⟨gC,0,none⟩) o.rs.size cC | _=>cE) FL.out rfl (fun k hk=>by
    rcases (show k=0∨k=1∨k=2∨k=3 by omega)with rfl | rfl | rfl | rfl <;> exact⟨rfl,rfl,rfl,rfl⟩) (fun k hk=>by
    rcases (show k=0∨k=1∨k=2∨k=3 by omega)with rfl | rfl | rfl | rfl
    · exact kr (kHB.out _ (aa FB.out.2.2)).out.sk hl.out
    · exact .int _ _ rfl rfl rfl rfl
    · exact kr FC.out (bP o.rs)
    · exact HE.out.it)
  refine(FN wZ (by decide) (by decide) (qK h o) (Ic.mk 3 0 none 0 0 (some ⟨gL,0,none⟩) 4 4) lX HLEN _ (kD.out _ (aa FB.out.1)) (aa hit)).mono ?_;rintro e wB ⟨rfl,hq⟩;clear hit;rw[HRR.1];have aX:=bb3 FB hq;refine hK.out _ _ aX ⟨true,true,true,true,true,true,true,true,fI,gC,cC,cE,gL,gT,rfl, ?_,aX,fun _=>aa (FC.out.below hq),fun _=>Cq,fun _=>aa (HE.out.kept hq),fun _=>aa (bQ FL.out hq),fun _=>nJ,fun e=>aa ((nS e).out.below hq),fun e=>(fT e)⟩;rw[ha0]
  simp only[qq]
  try rfl
 ·
  rintro bs a u ⟨Aa,Jd,E9,KD,vT,jS,gX,gW,fI,gC,cC,cE,gL,gT,rfl,rfl,FB,tF,jA,pM,qB,iF,nS,fT⟩ hr
  simp[kJ,and_assoc]at hr
  obtain rfl:=hr;refine⟨_,rfl,fun K hK=>?_⟩;rw[ha0]
  simp only[qq]
  go_simp;have aX:=bb3 FB (af u (.cells z32 41));refine hK.out _ _ aX ⟨Aa,Jd,E9,KD,vT,jS,gX,gW,true,gC,cC,cE,gL,u.heap.size,rfl, ?_,aX,fun e=>aa ((tF e).out.below (af u (.cells z32 41))),fun e=>(jA e),fun e=>aa ((pM e).out.kept (af u (.cells z32 41))),fun e=>aa (bQ (qB e).out (af u (.cells z32 41))),fun e=>(iF e),fun _=>(aa (show bS .u8 41 (u.alloc (.cells z32 41)) u.heap.size (dL 32) by rw[jR];exact bS.new _ _)),fun _=>(aa FB.out.1.size)⟩;rw[ha0]
  simp only[qq]
  try rfl
end Go.Proofs.YtchcllcbknfikaaGreatDoor