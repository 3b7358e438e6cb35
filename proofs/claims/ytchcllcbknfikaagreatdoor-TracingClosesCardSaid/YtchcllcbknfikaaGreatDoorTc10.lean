/- Contracts and lemmas: TlU, TruG, TruH, TlW, TmG, TmA, TmB. -/
import Derived.Laws.AppendOwnNone
import Derived.Test.YtchcllcbknfikaaGreatDoorTc9
set_option linter.unusedVariables false
set_option linter.unusedSimpArgs false
set_option maxRecDepth 100000
set_option maxHeartbeats 25600000
namespace Go.Proofs.YtchcllcbknfikaaGreatDoor
open Go.RowKit sH
theorem D8 (bO fO:Nat)(os:List aG)(n c:Nat)(K:Option Addr)(hs:List (List Int))(m d i:Nat)(hn:Hid (os.length=n))(hm:Hid (hs.length=m))(hi:i<n)(him:i≤m)(hb1:n≤1000000)(hb2:m≤1000000)(h:List Int)(hh:Hid (eH hs i=h))(hl:Hid (h.length=32))(hb:Hid (aF h=true))(o:aG)(ho:Hid (bz os i=o))(hI:Hid (dD o))(hS:fE o)(w:World)(hv:Hid (bB w))(hO:Hid (Os w (some ⟨bO,fO,none⟩) os))(hK:Hid (Hs w K hs)) :
  Calls Tryz.prog 131 #[iA (some ⟨bO,fO,none⟩) n c K m d, .int .i64 (i:Int)] w (Rt w (.string (M7 h o))):=by
 obtain⟨RR,hRR⟩:∃R,tagged (bq wZ) (enc (qK h o))=R:=⟨_,rfl⟩;rw[show M7 h o=(⟨#[116,114,97,99,101,58]⟩:ByteArray)++(txt (lG (tagged (bq wZ) (enc (qK h o))))).extract 0 16 from rfl,hRR];have HRR:Kp (tagged (bq wZ) (enc (qK h o))=RR):=⟨hRR⟩;have fQ:Hid (RR.length=32):=aa (by rw[←hRR];exact dR _ _);have Fq:Hid (Q8 RR):=aa (by rw[←hRR];exact OX (jJ _));have lX:Hid (fits 8 (qK h o)):=aa (KZ hl.out hb.out hI.out hS);have HLEN:Hid ((enc (qK h o)).length≤16384):=aa (PR hl.out hS);clear hRR;have hxs:(txt (lG RR)).size=64:=by rw[FI,pE,fQ.out]
 obtain⟨E,hE⟩:∃E,enc (qK h o)=E:=⟨_,rfl⟩;have MZ:Hid (aF E=true):=aa (by rw[←hE];exact mI lX.out);have yz:Hid (0<E.length∧E.length≤16384):=aa (by rw[←hE];exact⟨qd _,HLEN.out⟩);have J_:Kp (enc (qK h o)=E):=⟨hE⟩;obtain⟨nE,Te⟩:∃n,E.length=n:=⟨_,rfl⟩;have HEN:=aa Te;rw[Te]at yz;obtain⟨he0,he1⟩:=yz.out;rw[←Te]at yz;clear hE Te;obtain⟨w0,HW,ai,kC⟩:=st1 (jC (some ⟨bO,fO,none⟩) n c K m d) qx w;have kO:=fo (fun u=>Os u (some ⟨bO,fO,none⟩) os) ai hO (·.below);have kK:=fo (fun u=>Hs u K hs) ai hK (·.below);have kD:=oF ai hv;have ah:=bI w0;clear hO hK hv;obtain⟨bX,fX,hX,bF,hok⟩:=((kO.out _ ah)).out i (by rw[hn.out];exact hi)
 cases hX
 rw[show os.getD i dN=o from ho.out]at bF hok;obtain⟨j0,j1,j2,j3,j4,j5,j6,j7,j8⟩:=bF;have jy:=aa hok;clear hok;go_in
 go_upto_region 1 with(fail)
 rw[HW.out];have zc:=kC.out _ ah;obtain⟨w1,hw,Ue,ae6,-,kE⟩:=pO (l6 o) zq w0;have ax:=iW ah Ue;have gI:=bI w1;clear Ue;have pK:=kC.out _ ax;have AA:=kE.out _ gI
 go_upto_region 2 with(fail)
 clear zc pK AA hw;have zc:=kC.out _ ax;have q9:=kE.out _ gI;clear j0 j1 j2 j3 j4 j5 j6 j7 j8;have zc:=kC.out _ ax;have q9:=kE.out _ gI;obtain⟨q1,q2⟩:Hid (o.al.length=o.na)∧Hid (o.zs.length=o.nz):=⟨aa jy.out.1,aa jy.out.2.1⟩;have U8:o.na≤20:=by rw[←q1.out];exact hS.a
 have U7:o.nz≤20:=by rw[←q2.out];exact hS.z
 have kA:=nQ (w:=w0) (fun u=>Sl u o.A o.al) jy.out.2.2.2.1 (·.below);have kZ:=nQ (w:=w0) (fun u=>Sl u o.Z o.zs) jy.out.2.2.2.2.1 (·.below);have adN:1≤o.rs.size:=hS.r0;have adM:o.rs.size≤1000:=by have:=hS.r1;omega
 have zc:=kC.out _ ax;have q9:=kE.out _ gI
 try simp only[Act.put]
 clear zc q9;have hO:=aa (fun(u:World) (h:Hid (Below w0.heap.size w0 u∧Below w1.heap.size w1 u))=>And.intro (kC.out u (aa h.out.1)) (kE.out u (aa h.out.2)));have pJ:=bb2 (aa ⟨ax.out,gI.out⟩) (Below.refl _ _).drew;refine uG (fun u=>Below w0.heap.size w0 u∧Below w1.heap.size w1 u) [18] pJ (fun hHeld=>?_);obtain⟨wD,pq⟩:∃u,w1.drew=u:=⟨_,rfl⟩;rw[pq]at pJ hHeld ⊢;have BV:Hid (w1.heap.size≤wD.heap.size):=aa (by rw[←pq];exact Nat.le_refl _);clear pq;refine aP 0 1 4 5 ?_;refine aP 7 8 10 11 ?_;refine tFr fun a0 ha0=>?_;clear hHeld;refine RG [2,3,6,9,12,13,14,15,16,17] [[], [0], [0,1], [0,1,2], [0,1,2,3], [0,1,2,3,4], [0,1,2,3,4,5], [0,1,2,3,4,5,6], [0,1,2,3,4,5,6,7], []] [[1,2,3,4,5,6,7,8], [2,3,4,5,6,7,8], [3,4,5,6,7,8], [4,5,6,7,8], [5,6,7,8], [6,7,8], [7,8], [8], [], []] 1 #[true,true,true,true,true,true,true,true,true,true,true,true,true,true,true,true,true,true,false] (fun bs a u=>∃(yx Iq uI xI jS gX gW fI vS nL:Bool) (gq:Ic) (cR:Ic) (cE:Ic) (gL:Nat) (gE:Nat) (eE:Nat) (gT:Nat),bs = [yx,Iq,uI,xI,jS,gX,gW,fI,vS,nL]∧a=((((((((((a0.put (some 14) (cond yx (.agg (arr .u8 h)) undef)).put (some 15) (cond Iq (.agg #[.int .i64 gq.kind, .int .i64 gq.n, .slice gq.B gq.nb gq.cb, .slice gq.L gq.nl gq.cl]) undef)).put (some 18) (cond uI (.agg #[.int .i64 1, .int .i64 (o.num), .slice none 0 0, .slice none 0 0]) undef)).put (some 21) (cond xI (.agg #[.int .i64 cR.kind, .int .i64 cR.n, .slice cR.B cR.nb cR.cb, .slice cR.L cR.nl cR.cl]) undef)).put (some 24) (cond jS (.agg #[.int .i64 cE.kind, .int .i64 cE.n, .slice cE.B cE.nb cE.cb, .slice cE.L cE.nl cE.cl]) undef)).put (some 25) (cond gX (.slice (some ⟨gL,0,none⟩) 4 4) undef)).put (some 26) (cond gW (.agg #[.int .i64 3, .int .i64 (0), .slice none 0 0, .slice (some ⟨gL,0,none⟩) 4 4]) undef)).put (some 27) (cond fI (.slice (some ⟨gE,0,none⟩) nE eE) undef)).put (some 28) (cond vS (.agg (arr .u8 RR)) undef)).put (some 6) (cond nL (.pointer (some ⟨gT,0,none⟩)) undef))∧Hid (Below w0.heap.size w0 u∧Below w1.heap.size w1 u)∧(Iq=true→Hid (rY w0.heap.size u (.byt h) gq))∧(xI=true→Hid (rY w0.heap.size u (.byt (bq o.rs)) cR))∧(jS=true→Hid (rY w0.heap.size u (M8 o.E1 o.E2 o.al o.C o.zs) cE))∧(gX=true→Hid (u.heap[gL]? = some (.cells #[.int .i64 gq.kind, .int .i64 gq.n, .slice gq.B gq.nb gq.cb, .slice gq.L gq.nl gq.cl, .int .i64 1, .int .i64 o.num, .slice none 0 0, .slice none 0 0, .int .i64 cR.kind, .int .i64 cR.n, .slice cR.B cR.nb cR.cb, .slice cR.L cR.nl cR.cl, .int .i64 cE.kind, .int .i64 cE.n, .slice cE.B cE.nb cE.cb, .slice cE.L cE.nl cE.cl] 117)))∧(gX=true→Hid (w0.heap.size≤gL))∧(fI=true→Hid (Sk .u8 u (some ⟨gE,0,none⟩) E))∧(nL=true→Hid (bS .u8 41 u gT (dL 32)))∧(nL=true→Hid (w0.heap.size≤gT))) ⟨false,false,false,false,false,false,false,false,false,false,(Ic.mk 0 0 none 0 0 none 0 0),(Ic.mk 0 0 none 0 0 none 0 0),(Ic.mk 0 0 none 0 0 none 0 0),0,0,0,0,rfl,by rw[ha0];simp only[qq],pJ,nofun,nofun,nofun,nofun,nofun,nofun,nofun,nofun⟩ ?_ ⟨?_, ?_, ?_, ?_, ?_, ?_, ?_, ?_, ?_, ?_,trivial⟩
 ·
  rintro bs a u hbs ⟨yx,Iq,uI,xI,jS,gX,gW,fI,vS,nL,gq,cR,cE,gL,gE,eE,gT,rfl,rfl,FB,CQ,E5,pM,qB,iF,Ki,nS,fT⟩;obtain⟨rfl,rfl,rfl,rfl,rfl,rfl,rfl,rfl,rfl,rfl⟩:yx=true∧Iq=true∧uI=true∧xI=true∧jS=true∧gX=true∧gW=true∧fI=true∧vS=true∧nL=true:=by simpa using hbs
  have HB:=CQ rfl;have HR:=E5 rfl;have HE:=pM rfl;have FL:=qB rfl;have nJ:=iF rfl;have FE:=Ki rfl;have FT:=nS rfl;have Vl:=fT rfl;clear CQ E5 pM qB iF Ki nS fT;have hHeld:=FB;have hT:=trivial;rw[ha0]
  simp only[qq]
  have vJ:=aa FB.out.1;have ach:=aa FB.out.2;refine oz 18 fun K hK=>?_;rw[show(if Region.wanted _ _=true then _ else _:Prop)=_ from if_pos rfl];refine wp_store_row 41 _ _ rfl gT (arr .u8 RR) rfl rfl 41 _ FT.out (aH fQ.out) (fu (l:=dL 32) rfl fQ.out) (dG _) ?_;refine hK.out _ _ ?_;clear hK K
  try simp only[qq]
  refine gM ?_;clear hHeld hT ha0;obtain⟨wq,hwq⟩:∃x,u.setRow gT (arr .u8 RR)=x:=⟨_,rfl⟩;have Ua:Hid (bS .u8 41 wq gT RR):=aa (by rw[←hwq];exact FT.out.setRow);have Ll:Hid (Below w0.heap.size w0 wq):=aa (by rw[←hwq];exact aj FB.out.1 Vl.out);rw[hwq];clear hwq
  go_wp2_with ((with_reducible show wpList _ _ _ (⟨some 29,_,_,_,_,_⟩::_) _ _);refine wpList_load_row rfl 41 _ rfl gT rfl _ _ _ _ Ua.out Tryz.underlying41 rfl (aH fQ.out) ?_)
  refine(Oe RR fQ Fq _).mono ?_;rintro e w9 ⟨rfl,yN⟩;have bT:=ag ai.out (ag Ll.out yN);go_wp2;go_ret;exact⟨rfl,bT⟩
 ·
  rintro bs a u ⟨yx,Iq,uI,xI,jS,gX,gW,fI,vS,nL,gq,cR,cE,gL,gE,eE,gT,rfl,rfl,FB,CQ,E5,pM,qB,iF,Ki,nS,fT⟩ hr
  simp[kJ,and_assoc]at hr
  obtain⟨rfl,rfl,rfl,rfl,rfl,rfl,rfl,rfl,rfl⟩:=hr;refine⟨_,rfl,fun K hK=>?_⟩;rw[ha0]
  simp only[qq]
  go_simp;refine(zf (some ⟨bO,fO,none⟩) n c _ hs m d i hm him hb2 _ (kK.out _ (aa FB.out.1))).mono ?_;rintro e wB ⟨rfl,hq⟩;rw[hh.out];have aX:=bb2 FB hq;refine hK.out _ _ aX ⟨true,false,false,false,false,false,false,false,false,nL,gq,cR,cE,gL,gE,eE,gT,rfl, ?_,aX,nofun,nofun,nofun,nofun,nofun,nofun,fun e=>aa ((nS e).out.below hq),fun e=>(fT e)⟩;rw[ha0]
  simp only[qq]
  try rfl
 ·
  rintro bs a u ⟨yx,Iq,uI,xI,jS,gX,gW,fI,vS,nL,gq,cR,cE,gL,gE,eE,gT,rfl,rfl,FB,CQ,E5,pM,qB,iF,Ki,nS,fT⟩ hr
  simp[kJ,and_assoc]at hr
  obtain⟨rfl,rfl,rfl,rfl,rfl,rfl,rfl,rfl,rfl⟩:=hr;refine⟨_,rfl,fun K hK=>?_⟩;rw[ha0]
  simp only[qq]
  go_simp;refine(xy h hl _).mono ?_;rintro e wB ⟨cB,rfl,hit,hq⟩;have aX:=bb2 FB hq;refine hK.out _ _ aX ⟨true,true,false,false,false,false,false,false,false,nL,cB,cR,cE,gL,gE,eE,gT,rfl, ?_,aX,fun _=>(aa (hit.mono (by have:=FB.out.1.size;omega))),nofun,nofun,nofun,nofun,nofun,fun e=>aa ((nS e).out.below hq),fun e=>(fT e)⟩;rw[ha0]
  simp only[qq]
  try rfl
 ·
  rintro bs a u ⟨yx,Iq,uI,xI,jS,gX,gW,fI,vS,nL,gq,cR,cE,gL,gE,eE,gT,rfl,rfl,FB,CQ,E5,pM,qB,iF,Ki,nS,fT⟩ hr
  simp[kJ,and_assoc]at hr
  obtain⟨rfl,rfl,rfl,rfl,rfl,rfl,rfl,rfl,rfl⟩:=hr;have HB:=CQ rfl;refine⟨_,rfl,fun K hK=>?_⟩;rw[ha0]
  simp only[qq]
  go_simp;refine(p8 o.num _).mono ?_;rintro e wB ⟨rfl,hq⟩;have aX:=bb2 FB hq;refine hK.out _ _ aX ⟨true,true,true,false,false,false,false,false,false,nL,gq,cR,cE,gL,gE,eE,gT,rfl, ?_,aX,fun _=>aa (HB.out.kept hq),nofun,nofun,nofun,nofun,nofun,fun e=>aa ((nS e).out.below hq),fun e=>(fT e)⟩;rw[ha0]
  simp only[qq]
  try rfl
 ·
  rintro bs a u ⟨yx,Iq,uI,xI,jS,gX,gW,fI,vS,nL,gq,cR,cE,gL,gE,eE,gT,rfl,rfl,FB,CQ,E5,pM,qB,iF,Ki,nS,fT⟩ hr
  simp[kJ,and_assoc]at hr
  obtain⟨rfl,rfl,rfl,rfl,rfl,rfl,rfl,rfl,rfl⟩:=hr;have HB:=CQ rfl;refine⟨_,rfl,fun K hK=>?_⟩;rw[ha0]
  simp only[qq]
  go_simp;refine(FZ o.rs adN adM _).mono ?_;rintro e wB ⟨cB,rfl,hit,hq⟩;have aX:=bb2 FB hq;refine hK.out _ _ aX ⟨true,true,true,true,false,false,false,false,false,nL,gq,cB,cE,gL,gE,eE,gT,rfl, ?_,aX,fun _=>aa (HB.out.kept hq),fun _=>(aa (hit.mono (by have:=FB.out.1.size;omega))),nofun,nofun,nofun,nofun,fun e=>aa ((nS e).out.below hq),fun e=>(fT e)⟩;rw[ha0]
  simp only[qq]
  try rfl
 ·
  rintro bs a u ⟨yx,Iq,uI,xI,jS,gX,gW,fI,vS,nL,gq,cR,cE,gL,gE,eE,gT,rfl,rfl,FB,CQ,E5,pM,qB,iF,Ki,nS,fT⟩ hr
  simp[kJ,and_assoc]at hr
  obtain⟨rfl,rfl,rfl,rfl,rfl,rfl,rfl,rfl,rfl⟩:=hr;have HB:=CQ rfl;have HR:=E5 rfl;refine⟨_,rfl,fun K hK=>?_⟩;rw[ha0]
  simp only[qq]
  go_simp;refine(Bf o.E1 o.E2 o.A o.na o.ca o.al o.C o.Z o.nz o.cz o.zs q1 q2 (by omega) (by omega) _ (kA.out _ (aa FB.out.1)) (kZ.out _ (aa FB.out.1))).mono ?_;rintro e wB ⟨cB,rfl,hit,hq⟩;have aX:=bb2 FB hq;refine hK.out _ _ aX ⟨true,true,true,true,true,false,false,false,false,nL,gq,cR,cB,gL,gE,eE,gT,rfl, ?_,aX,fun _=>aa (HB.out.kept hq),fun _=>aa (HR.out.kept hq),fun _=>(aa (hit.mono (by have:=FB.out.1.size;omega))),nofun,nofun,nofun,fun e=>aa ((nS e).out.below hq),fun e=>(fT e)⟩;rw[ha0]
  simp only[qq]
  try rfl
 ·
  rintro bs a u ⟨yx,Iq,uI,xI,jS,gX,gW,fI,vS,nL,gq,cR,cE,gL,gE,eE,gT,rfl,rfl,FB,CQ,E5,pM,qB,iF,Ki,nS,fT⟩ hr
  simp[kJ,and_assoc]at hr
  obtain⟨rfl,rfl,rfl,rfl,rfl,rfl,rfl,rfl,rfl⟩:=hr;have HB:=CQ rfl;have HR:=E5 rfl;have HE:=pM rfl;refine⟨_,rfl,fun K hK=>?_⟩;rw[ha0]
  simp only[qq]
  go_simp;have aX:=bb2 FB (af u (.cells #[.int .i64 gq.kind, .int .i64 gq.n, .slice gq.B gq.nb gq.cb, .slice gq.L gq.nl gq.cl, .int .i64 1, .int .i64 o.num, .slice none 0 0, .slice none 0 0, .int .i64 cR.kind, .int .i64 cR.n, .slice cR.B cR.nb cR.cb, .slice cR.L cR.nl cR.cl, .int .i64 cE.kind, .int .i64 cE.n, .slice cE.B cE.nb cE.cb, .slice cE.L cE.nl cE.cl] 117));refine hK.out _ _ aX ⟨true,true,true,true,true,true,false,false,false,nL,gq,cR,cE,u.heap.size,gE,eE,gT,rfl, ?_,aX,fun _=>aa (HB.out.kept (af u (.cells #[.int .i64 gq.kind, .int .i64 gq.n, .slice gq.B gq.nb gq.cb, .slice gq.L gq.nl gq.cl, .int .i64 1, .int .i64 o.num, .slice none 0 0, .slice none 0 0, .int .i64 cR.kind, .int .i64 cR.n, .slice cR.B cR.nb cR.cb, .slice cR.L cR.nl cR.cl, .int .i64 cE.kind, .int .i64 cE.n, .slice cE.B cE.nb cE.cb, .slice cE.L cE.nl cE.cl] 117))),fun _=>aa (HR.out.kept (af u (.cells #[.int .i64 gq.kind, .int .i64 gq.n, .slice gq.B gq.nb gq.cb, .slice gq.L gq.nl gq.cl, .int .i64 1, .int .i64 o.num, .slice none 0 0, .slice none 0 0, .int .i64 cR.kind, .int .i64 cR.n, .slice cR.B cR.nb cR.cb, .slice cR.L cR.nl cR.cl, .int .i64 cE.kind, .int .i64 cE.n, .slice cE.B cE.nb cE.cb, .slice cE.L cE.nl cE.cl] 117))),fun _=>aa (HE.out.kept (af u (.cells #[.int .i64 gq.kind, .int .i64 gq.n, .slice gq.B gq.nb gq.cb, .slice gq.L gq.nl gq.cl, .int .i64 1, .int .i64 o.num, .slice none 0 0, .slice none 0 0, .int .i64 cR.kind, .int .i64 cR.n, .slice cR.B cR.nb cR.cb, .slice cR.L cR.nl cR.cl, .int .i64 cE.kind, .int .i64 cE.n, .slice cE.B cE.nb cE.cb, .slice cE.L cE.nl cE.cl] 117))),fun _=>(aa (heap_alloc_new u _)),fun _=>(aa (by have:=FB.out.1.size;omega)),nofun,fun e=>aa ((nS e).out.below (af u (.cells #[.int .i64 gq.kind, .int .i64 gq.n, .slice gq.B gq.nb gq.cb, .slice gq.L gq.nl gq.cl, .int .i64 1, .int .i64 o.num, .slice none 0 0, .slice none 0 0, .int .i64 cR.kind, .int .i64 cR.n, .slice cR.B cR.nb cR.cb, .slice cR.L cR.nl cR.cl, .int .i64 cE.kind, .int .i64 cE.n, .slice cE.B cE.nb cE.cb, .slice cE.L cE.nl cE.cl] 117))),fun e=>(fT e)⟩
  rw[ha0]
  simp only[qq]
  try rfl
 ·
  rintro bs a u ⟨yx,Iq,uI,xI,jS,gX,gW,fI,vS,nL,gq,cR,cE,gL,gE,eE,gT,rfl,rfl,FB,CQ,E5,pM,qB,iF,Ki,nS,fT⟩ hr
  simp[kJ,and_assoc]at hr
  obtain⟨rfl,rfl,rfl,rfl,rfl,rfl,rfl,rfl,rfl⟩:=hr;have HB:=CQ rfl;have HR:=E5 rfl;have HE:=pM rfl;have FL:=qB rfl;have nJ:=iF rfl;refine⟨_,rfl,fun K hK=>?_⟩;rw[ha0]
  simp only[qq]
  go_simp;refine(tK (some ⟨gL,0,none⟩) 4 4 _).mono ?_;rintro e wB ⟨rfl,hq⟩;have aX:=bb2 FB hq;refine hK.out _ _ aX ⟨true,true,true,true,true,true,true,false,false,nL,gq,cR,cE,gL,gE,eE,gT,rfl, ?_,aX,fun _=>aa (HB.out.kept hq),fun _=>aa (HR.out.kept hq),fun _=>aa (HE.out.kept hq),fun _=>aa (bQ FL.out hq),fun _=>nJ,nofun,fun e=>aa ((nS e).out.below hq),fun e=>(fT e)⟩;rw[ha0]
  simp only[qq]
  try rfl
 ·
  rintro bs a u ⟨yx,Iq,uI,xI,jS,gX,gW,fI,vS,nL,gq,cR,cE,gL,gE,eE,gT,rfl,rfl,FB,CQ,E5,pM,qB,iF,Ki,nS,fT⟩ hr
  simp[kJ,and_assoc]at hr
  obtain⟨rfl,rfl,rfl,rfl,rfl,rfl,rfl,rfl,rfl⟩:=hr;have HB:=CQ rfl;have HR:=E5 rfl;have HE:=pM rfl;have FL:=qB rfl;have nJ:=iF rfl;refine⟨_,rfl,fun K hK=>?_⟩;rw[ha0]
  simp only[qq]
  go_simp
  have hit:pV u (qK h o) (Ic.mk 3 0 none 0 0 (some ⟨gL,0,none⟩) 4 4):=xN (fun k=>match k with | 0=>gq | 1=>aR o.num | 2=>cR | _=>cE) FL.out rfl (fun k hk=>by
    rcases (show k=0∨k=1∨k=2∨k=3 by omega)with rfl | rfl | rfl | rfl <;> exact⟨rfl,rfl,rfl,rfl⟩) (fun k hk=>by
    rcases (show k=0∨k=1∨k=2∨k=3 by omega)with rfl | rfl | rfl | rfl
    · exact HB.out.it
    · exact .int _ _ rfl rfl rfl rfl
    · exact HR.out.it
    · exact HE.out.it)
  refine(xx 8 (qK h o) (Ic.mk 3 0 none 0 0 (some ⟨gL,0,none⟩) 4 4) _ lX.out hit HLEN.out).mono ?_;rintro e wB ⟨v4,rfl,Cz,hq⟩;rw[J_.1]at Cz;obtain⟨g4,cap4,e4,hg4,-,-,t_⟩:=Cz.cells yz.out.1;rw[HEN.out]at e4;subst e4;clear hit Cz;have aX:=bb2 FB hq;refine hK.out _ _ aX ⟨true,true,true,true,true,true,true,true,false,nL,gq,cR,cE,gL,g4,cap4,gT,rfl, ?_,aX,fun _=>aa (HB.out.kept hq),fun _=>aa (HR.out.kept hq),fun _=>aa (HE.out.kept hq),fun _=>aa (bQ FL.out hq),fun _=>nJ,fun _=>(aa t_),fun e=>aa ((nS e).out.below hq),fun e=>(fT e)⟩;rw[ha0]
  simp only[qq]
  try rfl
 ·
  rintro bs a u ⟨yx,Iq,uI,xI,jS,gX,gW,fI,vS,nL,gq,cR,cE,gL,gE,eE,gT,rfl,rfl,FB,CQ,E5,pM,qB,iF,Ki,nS,fT⟩ hr
  simp[kJ,and_assoc]at hr
  obtain⟨rfl,rfl,rfl,rfl,rfl,rfl,rfl,rfl,rfl⟩:=hr;have HB:=CQ rfl;have HR:=E5 rfl;have HE:=pM rfl;have FL:=qB rfl;have nJ:=iF rfl;have FE:=Ki rfl;refine⟨_,rfl,fun K hK=>?_⟩;rw[ha0]
  simp only[qq]
  go_simp;refine(mY wZ (by decide) (by decide) gE 0 eE E nE HEN he0 (by omega) MZ _ FE).mono ?_;rintro e wB ⟨rfl,hq⟩;rw[←J_.1,HRR.1];have aX:=bb2 FB hq;refine hK.out _ _ aX ⟨true,true,true,true,true,true,true,true,true,nL,gq,cR,cE,gL,gE,eE,gT,rfl, ?_,aX,fun _=>aa (HB.out.kept hq),fun _=>aa (HR.out.kept hq),fun _=>aa (HE.out.kept hq),fun _=>aa (bQ FL.out hq),fun _=>nJ,fun _=>aa (FE.out.below hq),fun e=>aa ((nS e).out.below hq),fun e=>(fT e)⟩;rw[ha0]
  simp only[qq]
  try rfl
 ·
  rintro bs a u ⟨yx,Iq,uI,xI,jS,gX,gW,fI,vS,nL,gq,cR,cE,gL,gE,eE,gT,rfl,rfl,FB,CQ,E5,pM,qB,iF,Ki,nS,fT⟩ hr
  simp[kJ,and_assoc]at hr
  obtain rfl:=hr;refine⟨_,rfl,fun K hK=>?_⟩;rw[ha0]
  simp only[qq]
  go_simp;have aX:=bb2 FB (af u (.cells z32 41));refine hK.out _ _ aX ⟨yx,Iq,uI,xI,jS,gX,gW,fI,vS,true,gq,cR,cE,gL,gE,eE,u.heap.size,rfl, ?_,aX,fun e=>aa ((CQ e).out.kept (af u (.cells z32 41))),fun e=>aa ((E5 e).out.kept (af u (.cells z32 41))),fun e=>aa ((pM e).out.kept (af u (.cells z32 41))),fun e=>aa (bQ (qB e).out (af u (.cells z32 41))),fun e=>(iF e),fun e=>aa ((Ki e).out.below (af u (.cells z32 41))),fun _=>(aa (show bS .u8 41 (u.alloc (.cells z32 41)) u.heap.size (dL 32) by rw[jR];exact bS.new _ _)),fun _=>(aa FB.out.1.size)⟩;rw[ha0]
  simp only[qq]
  try rfl
theorem V6 (P Q G:Int)(m:Nat)(Cs:Option Addr)(cn cc:Nat)(Ks:Option Addr)(kn kc:Nat)(kz:Hid (a_ P Q G=true))(n2:kn≤8)(n3:(kn:Int)<Q)(n4:1≤(m:Int))(n5:(m:Int)≤kn)(E1 E2:Int)(A:Option Addr)(na ca:Nat)(C:Int)(Z:Option Addr)(nz cz:Nat)(L:Option Addr)(ps:List aS)(n c:Nat)(hn:Hid (ps.length=n))(hnb:n≤100)(hlr:Hid (∀k,k<n→r64 (ps.getD k aC).ix))(m1:Hid (aN P Q E1=false))(w:World)(hL:Hid (Pa w L ps)) :
  Calls Tryz.prog 87 #[gv P Q G,jY (m:Int) Cs cn cc Ks kn kc,CE E1 E2 A na ca C Z nz cz, .slice L n c] w (Rt w (.tuple #[.int .i64 0, .int .i64 2])):=by
 obtain⟨i0,hi,hz0,hz1,hz2⟩:=info_parts n_;obtain⟨q1,q2,q3,q4⟩:=bW kz.out;obtain⟨w0,HW,ai,kC⟩:=qD (bg P Q G) fq (uV (m:Int) Cs cn cc Ks kn kc) fq (GY E1 E2 A na ca C Z nz cz) vF w;have ah:=bI w0;go_in
 go_wp2_with fail
 rw[HW.out];have zc:=kC.out _ ah
 go_wp2_with fail
 clear zc;refine fe kC ah (aU P Q G E1 false m1 q2 (by omega) (by omega) _) fun w1 ax zc=>?_;go_wp2;go_ret2;exact⟨rfl,f_ ai ax⟩
theorem V5 (P Q G:Int)(m:Nat)(Cs:Option Addr)(cn cc:Nat)(Ks:Option Addr)(kn kc:Nat)(kz:Hid (a_ P Q G=true))(n2:kn≤8)(n3:(kn:Int)<Q)(n4:1≤(m:Int))(n5:(m:Int)≤kn)(E1 E2:Int)(A:Option Addr)(na ca:Nat)(C:Int)(Z:Option Addr)(nz cz:Nat)(L:Option Addr)(ps:List aS)(n c:Nat)(hn:Hid (ps.length=n))(hnb:n≤100)(hlr:Hid (∀k,k<n→r64 (ps.getD k aC).ix))(m1:Hid (aN P Q E1=true))(m2:Hid (aN P Q E2=false))(w:World)(hL:Hid (Pa w L ps)) :
  Calls Tryz.prog 87 #[gv P Q G,jY (m:Int) Cs cn cc Ks kn kc,CE E1 E2 A na ca C Z nz cz, .slice L n c] w (Rt w (.tuple #[.int .i64 0, .int .i64 2])):=by
 obtain⟨i0,hi,hz0,hz1,hz2⟩:=info_parts n_;obtain⟨q1,q2,q3,q4⟩:=bW kz.out;obtain⟨w0,HW,ai,kC⟩:=qD (bg P Q G) fq (uV (m:Int) Cs cn cc Ks kn kc) fq (GY E1 E2 A na ca C Z nz cz) vF w;have ah:=bI w0;go_in
 go_wp2_with fail
 rw[HW.out];have zc:=kC.out _ ah
 go_wp2_with fail
 clear zc;refine fe kC ah (aU P Q G E1 true m1 q2 (by omega) (by omega) _) fun w1 ax zc=>?_
 go_wp2_with fail
 clear zc;refine fe kC ax (aU P Q G E2 false m2 q2 (by omega) (by omega) _) fun w2 az zc=>?_;go_wp2;go_ret2;exact⟨rfl,f_ ai az⟩
theorem V4 (P Q G:Int)(m:Nat)(Cs:Option Addr)(cn cc:Nat)(Ks:Option Addr)(kn kc:Nat)(kz:Hid (a_ P Q G=true))(n2:kn≤8)(n3:(kn:Int)<Q)(n4:1≤(m:Int))(n5:(m:Int)≤kn)(E1 E2:Int)(A:Option Addr)(na ca:Nat)(C:Int)(Z:Option Addr)(nz cz:Nat)(L:Option Addr)(ps:List aS)(n c:Nat)(hn:Hid (ps.length=n))(hnb:n≤100)(hlr:Hid (∀k,k<n→r64 (ps.getD k aC).ix))(m1:Hid (aN P Q E1=true))(m2:Hid (aN P Q E2=true))(w:World)(hL:Hid (Pa w L ps)) :
  Calls Tryz.prog 87 #[gv P Q G,jY (m:Int) Cs cn cc Ks kn kc,CE E1 E2 A na ca C Z nz cz, .slice L n c] w (Rt w (.tuple #[.int .i64 (lT P Q (m:Int) kn E1 E2 ps), .int .i64 (iU P Q (m:Int) kn E1 E2 ps)])):=by
 obtain⟨i0,hi,hz0,hz1,hz2⟩:=info_parts n_;obtain⟨q1,q2,q3,q4⟩:=bW kz.out;obtain⟨w0,HW,ai,kC⟩:=qD (bg P Q G) fq (uV (m:Int) Cs cn cc Ks kn kc) fq (GY E1 E2 A na ca C Z nz cz) vF w;have kL:=fo (fun u=>Pa u L ps) ai hL (·.below);have ah:=bI w0;clear hL;go_in
 go_wp2_with fail
 rw[HW.out];have zc:=kC.out _ ah
 go_wp2_with fail
 clear zc;refine fe kC ah (aU P Q G E1 true m1 q2 (by omega) (by omega) _) fun w1 ax zc=>?_
 go_wp2_with fail
 clear zc;refine fe kC ax (aU P Q G E2 true m2 q2 (by omega) (by omega) _) fun w2 az zc=>?_;go_wp2;clear zc
 go_loopw [10,11] (fun vx i wr=>∃k:Nat,k≤n∧i = .int .i64 k∧Hid (ps.all (Cv P Q kn)=(ps.drop k).all (Cv P Q kn))∧Hid (wr.ownsRow w0.heap.size 3 1 vx k ((mh (ps.take k)).map (Value.int .i64)))∧Hid (Below w0.heap.size w0 wr)) (fun _ i _=>n-(intOf i).toNat)
 case atStart=>exact⟨0,by omega,rfl,aa rfl,aa (World.ownsRow_nil _ _ _ _),az⟩
 case round=>
  obtain⟨k,hk,rfl,HR,Yk,aD⟩:=hrel
  by_cases hlt:k<n
  ·
   have hkl:k<ps.length:=by rw[hn.out];exact hlt
   obtain⟨b,o,hA,j0,j1,j2,j3,j4,hok⟩:=(kL.out _ aD).out k hkl;subst hA;have tx:=FK hkl;obtain⟨ix,hix⟩:∃x,(ps.getD k aC).ix=x:=⟨_,rfl⟩;obtain⟨v,hvv⟩:∃x,(ps.getD k aC).v=x:=⟨_,rfl⟩;rw[hix]at j0 tx;rw[hvv]at j1;have TX:=aa tx;have kI:=aa (show ∀u:World,Hid (Below wr.heap.size wr u)→u.cell? ⟨b,o+k*5,none⟩=some (.int .i64 ix)∧u.cell? ⟨b,o+k*5+1,none⟩=some (.int .i64 v)from fun u h=>⟨cell_below j0 h.out,cell_below j1 h.out⟩);clear tx hok j0 j1 j2 j3 j4;have bM:=bI wr
   cases hm:sP kn ix with
   | true=>
    cases hg:aN P Q v with
    | true=>
     have HS:Hid (ps.all (Cv P Q kn)=(ps.drop (k+1)).all (Cv P Q kn)):=aa (HR.out.trans (DC hkl (by rw[Cv,hix,hvv,hm,hg];rfl)));have HM:=aa hm;have HG:=aa hg;clear hm hg HR hix hvv;have zc:=kC.out _ aD;have vk:=kI.out _ bM
     go_wp2_with fail
     clear zc vk;have hO:=aa (fun(u:World) (h:Hid (Below w0.heap.size w0 u∧Below wr.heap.size wr u))=>And.intro (kC.out u (aa h.out.1)) (kI.out u (aa h.out.2)));refine uG (fun u=>Below w0.heap.size w0 u∧Below wr.heap.size wr u) [] (bb2 (aa ⟨aD.out,bM.out⟩) ((Below.refl _ _).drew)) (fun hHeld=>?_);refine aP 0 1 2 3 ?_;refine aL 4 ?_;refine aL 5 ?_;refine dh 6 fun K hK=>?_;go_simp;refine(lD (m:Int) Cs cn cc Ks kn kc ix true HM _).mono ?_;rintro e wA ⟨rfl,bN⟩;refine hK.out _ _ (bb2 hHeld bN) (fun hHeld=>?_);clear hK K;refine aP 7 8 9 10 ?_;refine aP 11 12 13 14 ?_;refine dh 15 fun K hK=>?_;go_simp;refine(aU P Q G v true HG q2 (by omega) (by omega) _).mono ?_;rintro e wA ⟨rfl,bN⟩;refine hK.out _ _ (bb2 hHeld bN) (fun hHeld=>?_);clear hK K;refine aL 16 ?_;refine aL 17 ?_;refine gM ?_;clear hO;have fP:=(aa hHeld.out.1);have nP:=(aa hHeld.out.2);clear hHeld;have zc:=kC.out _ fP;have vk:=kI.out _ nP;obtain⟨wq,hwq⟩:∃x,wA=x:=⟨_,rfl⟩;subst hwq;clear zc vk;have zc:=kC.out _ fP;have vk:=kI.out _ nP;have MU:=aa (Yk.out.kept (lQ nP.out none) (lM _));have hown:=MU.out;have hbs:=fP.out.size
     go_wp2_with (at_builtin;refine wpList_append_own _ rfl _ _ 24 rfl w0.heap.size 3 i0 (.int .i64 0) 1 8 Tryz.underlying24 hi hz0 hz1 hz2 rfl (by decide) _ _ _ rfl (hown.alloc _) ⟨wA.heap.size,0,none⟩ 1 1 [.int .i64 ix] rfl rfl (cell_one_new _ _ _) (ints_oneCell .i64 [ix]) (by unfold maxLen;omega) (by omega) (by simp;omega) ?_;intro v' y3 hown1 hgrow1 _)
     have om:Hid (y3.ownsRow w0.heap.size 3 1 v' (k+1) ((mh (ps.take (k+1))).map (Value.int .i64))):=aa (by rw[TX.out];simpa using hown1);have HB3:Hid (Below w0.heap.size w0 y3):=aa ((fP.out.alloc hbs _).grown hgrow1 (by simp;omega) (fun j hj=>(hown.lt j hj).1));clear hown hown1 hgrow1 MU
     go_roundw
     case rel=>exact⟨k+1,by omega,by go_num,HS,om,HB3⟩
     case measure=>simp[intOf];omega
    | false=>
     have HF:Hid (iU P Q (m:Int) kn E1 E2 ps=2):=aa (by rw[iU,m1.out,m2.out,HR.out,x_ hkl (by rw[Cv,hix,hvv,hm,hg];rfl)];rfl);have HM:=aa hm;have HG:=aa hg;clear hm hg HR hix hvv;have zc:=kC.out _ aD;have vk:=kI.out _ bM
     go_wp2_with fail
     clear zc vk;have hO:=aa (fun(u:World) (h:Hid (Below w0.heap.size w0 u∧Below wr.heap.size wr u))=>And.intro (kC.out u (aa h.out.1)) (kI.out u (aa h.out.2)));refine uG (fun u=>Below w0.heap.size w0 u∧Below wr.heap.size wr u) [] (bb2 (aa ⟨aD.out,bM.out⟩) ((Below.refl _ _).drew)) (fun hHeld=>?_);refine aP 0 1 2 3 ?_;refine aL 4 ?_;refine aL 5 ?_;refine dh 6 fun K hK=>?_;go_simp;refine(lD (m:Int) Cs cn cc Ks kn kc ix true HM _).mono ?_;rintro e wA ⟨rfl,bN⟩;refine hK.out _ _ (bb2 hHeld bN) (fun hHeld=>?_);clear hK K;refine aP 7 8 9 10 ?_;refine aP 11 12 13 14 ?_;refine dh 15 fun K hK=>?_;go_simp;refine(aU P Q G v false HG q2 (by omega) (by omega) _).mono ?_;rintro e wA ⟨rfl,bN⟩;refine hK.out _ _ (bb2 hHeld bN) (fun hHeld=>?_);clear hK K;refine aL 16 ?_;refine aL 17 ?_;refine gM ?_;clear hO;have fP:=(aa hHeld.out.1);have nP:=(aa hHeld.out.2);clear hHeld;have zc:=kC.out _ fP;have vk:=kI.out _ nP;have bT:=ag ai.out fP.out;go_wp2;go_ret2;exact⟨by rw[lT,HF.out];rfl,bT⟩
   | false=>
    have HF:Hid (iU P Q (m:Int) kn E1 E2 ps=2):=aa (by rw[iU,m1.out,m2.out,HR.out,x_ hkl (by rw[Cv,hix,hm];rfl)];rfl);have HM:=aa hm;clear hm HR hix hvv;have zc:=kC.out _ aD;have vk:=kI.out _ bM
    go_wp2_with fail
    clear zc vk;have hO:=aa (fun(u:World) (h:Hid (Below w0.heap.size w0 u∧Below wr.heap.size wr u))=>And.intro (kC.out u (aa h.out.1)) (kI.out u (aa h.out.2)));refine uG (fun u=>Below w0.heap.size w0 u∧Below wr.heap.size wr u) [] (bb2 (aa ⟨aD.out,bM.out⟩) ((Below.refl _ _).drew)) (fun hHeld=>?_);refine aP 0 1 2 3 ?_;refine aL 4 ?_;refine aL 5 ?_;refine dh 6 fun K hK=>?_;go_simp;refine(lD (m:Int) Cs cn cc Ks kn kc ix false HM _).mono ?_;rintro e wA ⟨rfl,bN⟩;refine hK.out _ _ (bb2 hHeld bN) (fun hHeld=>?_);clear hK K;refine aL 7 ?_;refine aL 8 ?_;refine eO 9 10 11 12 ?_;refine eO 13 14 15 16 ?_;refine aL 17 ?_;refine gM ?_;clear hO;have fP:=(aa hHeld.out.1);have nP:=(aa hHeld.out.2);clear hHeld;have zc:=kC.out _ fP;have vk:=kI.out _ nP;have bT:=ag ai.out fP.out;go_wp2;go_ret2;exact⟨by rw[lT,HF.out];rfl,bT⟩
  ·
   obtain rfl:k=n:=by omega
   have hall:ps.all (Cv P Q kn)=true:=by rw[HR.out,←hn.out,List.drop_length];rfl
   have hox:=Yk.out;rw[List.take_of_length_le (by rw[hn.out];exact Nat.le_refl _)]at hox;have Js:(mh ps).length=k:=by rw[List.length_map];exact hn.out
   obtain⟨AX,cX,hvX,sX,hcX⟩:=zY hox Js;subst hvX;have HSX:=aa sX;have YC:=aa Js;have qY:=aa hall;clear hall hox Js sX HR Yk;have bM:=bI wr;have kX:=nQ (w:=wr) (fun u=>Sl u AX (mh ps)) HSX.out (·.below);have zc:=kC.out _ aD
   by_cases hnt:mQ (mh ps)
   ·
    have zP:=aa hnt;clear hnt
    go_wp2_with fail
    clear zc;refine PZ aD bM (Ba AX (mh ps) k cX false (aa ⟨fun _=>zP.out,fun _=>rfl⟩) YC (by omega) _ (kX.out _ bM)) fun w3 aW cK=>?_;have zc:=kC.out _ aW
    by_cases hfw:k<m
    ·
     have HF:Hid (iU P Q (m:Int) kn E1 E2 ps=7):=aa (by rw[iU,m1.out,m2.out,qY.out];simp[zP.out,hn.out];omega);have df:decide ((k:Int)<(m:Int))=true:=by simp;omega
     have bT:=ag ai.out aW.out;go_wp2;go_ret2;exact⟨by rw[lT,HF.out];rfl,bT⟩
    ·
     have HF:Hid (iU P Q (m:Int) kn E1 E2 ps=0):=aa (by rw[iU,m1.out,m2.out,qY.out];simp[zP.out,hn.out];omega);have HVF:Hid (lT P Q (m:Int) kn E1 E2 ps=E8 P Q E2 (Ec ps) (wU Q ((mh ps).take m) 0) m):=aa (by rw[lT,HF.out];rfl);have df:decide ((k:Int)<(m:Int))=false:=by simp;omega
     have hmc:m≤cX:=by omega
     have Vb:Hid (((mh ps).take m).length=m):=aa (by rw[List.length_take,YC.out];omega);have XV:Hid (((mh ps).take m).all (jc Q)=true):=aa (Ol qY.out n3);have HPQ:Hid (qc Q=true):=aa (FD kz.out);have kX2:=aa (show ∀u:World,Hid (Below wr.heap.size wr u)→Hid (Sl u AX ((mh ps).take m))from fun u h=>aa ((DX (HSX.out.below h.out) m)))
     go_upto_region 14 with(fail)
     clear zc;have hO:=aa (fun(u:World) (h:Hid (Below w0.heap.size w0 u∧Below wr.heap.size wr u))=>kC.out u (aa h.out.1));refine uG (fun u=>Below w0.heap.size w0 u∧Below wr.heap.size wr u) [] (bb2 (aa ⟨aW.out,cK.out⟩) ((Below.refl _ _).drew)) (fun hHeld=>?_);refine aP 0 1 2 3 ?_;refine aL 4 ?_;refine aL 5 ?_;refine dh 6 fun K hK=>?_;go_simp;refine(D5 Q AX ((mh ps).take m) m cX 0 (by omega) HPQ Vb (by omega) XV (by omega) (by omega) _ (kX2.out _ (aa hHeld.out.2))).mono ?_;intro e wA hW;obtain⟨vw,rfl,hOW,bN⟩:=hW;have HOW:=aa hOW;clear hOW;refine hK.out _ _ (bb2 hHeld bN) (fun hHeld=>?_);clear hK K;refine aL 7 ?_;refine gM ?_;clear hO;have kU:=(aa hHeld.out.1);have Yx:=(aa hHeld.out.2);clear hHeld;have zc:=kC.out _ kU;have MC:=HOW.out;unfold iD at MC;rw[iq]at MC;obtain⟨AW,cW,hvw,sW,hcW⟩:=zY MC (iq _ _ _ _);subst hvw;have Ie:=aa sW;clear MC sW HOW;clear zc;have ada:=bI wA;have kW:=nQ (w:=wA) (fun u=>Sl u AW (Fv Q ((mh ps).take m) 0 m)) Ie.out (·.below);have zc:=kC.out _ kU;go_wp2;clear zc
     go_loopw [13,14] (fun a i wz=>∃j:Nat,j≤m∧i = .int .i64 j∧a = .int .i64 (E8 P Q E2 (Ec ps) (wU Q ((mh ps).take m) 0) j)∧Hid (Below wA.heap.size wA wz)) (fun _ i _=>m-(intOf i).toNat)
     case atStart=>exact⟨0,by omega,rfl,rfl,aa (Below.refl _ _)⟩
     case round=>
      obtain⟨j,hj,rfl,rfl,sJ⟩:=hrel;have sI:=aa (ag kU.out sJ.out);have U_:=aa (ag Yx.out sJ.out);obtain⟨r0,r1⟩:=vN (E:=E2) (Q:=Q) (vs:=Ec ps) (ws:=wU Q ((mh ps).take m) 0) q1 (by have:=gD m2.out;omega) (gF m2.out) j
      by_cases zJ:j<m
      ·
       have hkl:j<ps.length:=by have:=hn.out;omega
       have hjk:j<k:=by omega
       obtain⟨b1,o1,hA1,i1⟩:=(kW.out _ sJ).out j (by rw[iq];exact zJ);subst hA1;obtain⟨b2,o2,hA2,j0,j1,j2,j3,j4,hok⟩:=(kL.out _ sI).out j hkl;subst hA2;rw[Kj _ _ _ _ _ zJ]at i1;have ss:E8 P Q E2 (Ec ps) (wU Q ((mh ps).take m) 0) (j+1)=E8 P Q E2 (Ec ps) (wU Q ((mh ps).take m) 0) j*pw (Ec ps j) ((0-wU Q ((mh ps).take m) 0 j)%Q) P%P:=rfl;obtain⟨x0,x1⟩:=AJ (q:=Q) (by omega) ((mh ps).take m) 0 j;have hyb:=zX (yj qY.out hkl);obtain⟨x,hx⟩:∃x,wU Q ((mh ps).take m) 0 j=x:=⟨_,rfl⟩;obtain⟨y,hy⟩:∃x,Ec ps j=x:=⟨_,rfl⟩;obtain⟨s9,Jm⟩:∃x,E8 P Q E2 (Ec ps) (wU Q ((mh ps).take m) 0) j=x:=⟨_,rfl⟩;rw[hx]at i1 x0 x1 ss;rw[show(ps.getD j aC).v=y from hy]at j1;rw[show(ps.getD j aC).v=y from hy]at hyb;rw[hy,Jm]at ss;rw[Jm]at r0 r1 ⊢;obtain⟨p,hp⟩:∃z,pw y ((0-x)%Q) P=z:=⟨_,rfl⟩;obtain⟨t9,WE⟩:∃z,s9*p%P=z:=⟨_,rfl⟩;rw[hp,WE]at ss;obtain⟨p0,p1⟩:0≤p∧p<P:=by rw[←hp];exact zg _ _ _ (by omega)
       have y0:=gD hyb;have y1:=gF hyb;have aiZ:IntKind.i64.wrap (0-x) = -x:=by rw[Int.zero_sub];exact IntWalk.i64_in _ (by omega)
       have agW:IntKind.i64.wrap (-x) = -x:=IntWalk.i64_in _ (by omega);have agV:wrap64 (0-x) = -x:=by rw[Int.zero_sub];exact IntWalk.wrap64_in _ (by omega)
       have agU:wrap64 (-x) = -x:=IntWalk.wrap64_in _ (by omega);have SS:=aa ss;have HP:Hid (pw y ((-x)%Q) P=p):=aa (by rw[←Int.zero_sub];exact hp);have HT9:=aa WE;have kI:=aa (show ∀u:World,Hid (Below wr.heap.size wr u)→u.cell? ⟨b2,o2+j*5+1,none⟩=some (.int .i64 y)∧u.cell? ⟨b1,o1+j,none⟩=some (.int .i64 x)from fun u h=>⟨cell_below j1 h.out,cell_below i1 h.out⟩);clear ss hx hy Jm hp WE hkl hyb j0 j1 j2 j3 j4 hok i1;have fA:=bI wr;have zc:=kC.out _ sI;have vk:=kI.out _ fA
       go_wp2_with fail
       clear zc vk;have hO:=aa (fun(u:World) (h:Hid (Below w0.heap.size w0 u∧Below wA.heap.size wA u∧Below wr.heap.size wr u))=>And.intro (kC.out u (aa h.out.1)) (kI.out u (aa h.out.2.2)));refine uG (fun u=>Below w0.heap.size w0 u∧Below wA.heap.size wA u∧Below wr.heap.size wr u) [] (bb3 (aa ⟨sI.out,sJ.out,fA.out⟩) ((Below.refl _ _).drew)) (fun hHeld=>?_);refine aP 0 1 2 3 ?_;refine aP 4 5 6 7 ?_;refine aP 8 9 10 11 ?_;refine aL 12 ?_;refine dh 13 fun K hK=>?_;go_simp;refine(Bd P Q G y (-x) p HP (by omega) q2 (by omega) (by omega) (by omega) y1 (by omega) (by omega) _).mono ?_;rintro e wA ⟨rfl,bN⟩;refine hK.out _ _ (bb3 hHeld bN) (fun hHeld=>?_);clear hK K
       try simp only[qq]
       refine dh 14 fun K hK=>?_;go_simp;refine(C_ P Q G s9 p t9 HT9 q2 r0 r1 p0 p1 _).mono ?_;rintro e wA ⟨rfl,bN⟩;refine hK.out _ _ (bb3 hHeld bN) (fun hHeld=>?_);clear hK K;refine aL 15 ?_;refine gM ?_;clear hO;have iE:=(aa hHeld.out.1);have Yw:=(aa hHeld.out.2.1);have J7:=(aa hHeld.out.2.2);clear hHeld;have zc:=kC.out _ iE;have vk:=kI.out _ J7;go_wp2
       go_roundw
       case rel=>exact⟨j+1,by omega,by go_num,by rw[SS.out],Yw⟩
       case measure=>simp[intOf];omega
      ·
       obtain rfl:j=m:=by omega
       have zc:=kC.out _ sI;have bT:=ag ai.out sI.out;go_wp2;go_ret2;exact⟨by rw[HVF.out,HF.out];rfl,bT⟩
   ·
    have HF:Hid (iU P Q (m:Int) kn E1 E2 ps=8):=aa (by rw[iU,m1.out,m2.out,qY.out];simp[hnt]);have zP:=aa hnt;clear hnt
    go_wp2_with fail
    clear zc;refine PZ aD bM (Ba AX (mh ps) k cX true (aa ⟨fun h=>(by cases h),fun h=>absurd h zP.out⟩) YC (by omega) _ (kX.out _ bM)) fun w3 aW cK=>?_;have zc:=kC.out _ aW;have bT:=ag ai.out aW.out;go_wp2;go_ret2;exact⟨by rw[lT,HF.out];rfl,bT⟩
def FJ (P Q G need:Int)(cs ks:List Int)(E1 ix v C:Int)(lb al zs:List Int):Bool:=pQ P Q G need cs ks&&(sP ks.length ix&&Dq P Q G G (ks.getD (ix-1).toNat 0) E1 v C lb al zs)
theorem Vu (P Q G need:Int)(Cs:Option Addr)(cs:List Int)(cn cc:Nat)(Ks:Option Addr)(ks:List Int)(kn kc:Nat)(hcn:Hid (cs.length=cn))(hkn:Hid (ks.length=kn))(E1 E2:Int)(A:Option Addr)(na ca:Nat)(C:Int)(Z:Option Addr)(nz cz:Nat)(ix:Int)(v:Int)(pA:Option Addr)(qJ:List Int)(mD sO:Nat)(pC:Int)(pZ:Option Addr)(qI:List Int)(mq sN:Nat)(gy:Hid (qJ.length=mD))(hzn:Hid (qI.length=mq))(hna:mD<1000000)(hnz:mq<1000000)(s:ByteArray)(hs:s.size≤1000)(ht:Hid (pQ P Q G need cs ks=false))(hQ:Q<9223372036854775808)(w:World)(hv:Hid (Vars w))(hd0:Hid (bB w))(hC:Hid (Sl w Cs cs))(hK:Hid (Sl w Ks ks))(nD:Hid (Sl w pA qJ))(nC:Hid (Sl w pZ qI)) :
  Calls Tryz.prog 126 #[gv P Q G,jY need Cs cn cc Ks kn kc,CE E1 E2 A na ca C Z nz cz, .string s,Si ix v pA mD sO pC pZ mq sN] w (Rt w (.bool false)):=by
 obtain⟨w0,HW,ai,kC⟩:=Ch (bg P Q G) fq (uV need Cs cn cc Ks kn kc) fq (GY E1 E2 A na ca C Z nz cz) MN (Q7 ix v pA mD sO pC pZ mq sN) vF w;have kV:=mkV ai hv;have kD:=oF ai hd0;have qo:=mkS ai hC;have uX:=mkS ai hK;have Mr:=mkS ai nD;have Mq:=mkS ai nC;have ah:=bI w0;clear hv hd0 hC hK nD nC;go_in
 go_wp2_with fail
 rw[HW.out];have hO:=kC;refine jq [] ah (fun hHeld=>?_);refine aL 0 ?_;refine aL 1 ?_;refine dh 2 fun K hK=>?_;go_simp;refine(lI P Q G need Cs cs cn cc Ks ks kn kc hcn hkn false ht hQ _ (kV.out _ hHeld) (qo.out _ hHeld) (uX.out _ hHeld)).mono ?_;rintro e wA ⟨rfl,bN⟩;refine hK.out _ _ (bJ hHeld bN) (fun hHeld=>?_);clear hK K;refine aL 3 ?_;refine eO 4 5 6 7 ?_;refine aL 8 ?_;refine aL 9 ?_;refine eO 10 11 12 13 ?_;refine eO 14 15 16 17 ?_;refine eO 18 19 20 21 ?_;refine eO 22 23 24 25 ?_;refine lC 26 ?_;refine lC 27 ?_;refine aL 28 ?_;refine aL 29 ?_;refine gM ?_;clear hO;have bG:=hHeld;clear hHeld;have zc:=kC.out _ bG;go_wp2;go_ret;exact⟨rfl,f_ ai bG⟩
theorem Vt (P Q G need:Int)(Cs:Option Addr)(cs:List Int)(cn cc:Nat)(Ks:Option Addr)(ks:List Int)(kn kc:Nat)(hcn:Hid (cs.length=cn))(hkn:Hid (ks.length=kn))(E1 E2:Int)(A:Option Addr)(na ca:Nat)(C:Int)(Z:Option Addr)(nz cz:Nat)(ix:Int)(v:Int)(pA:Option Addr)(qJ:List Int)(mD sO:Nat)(pC:Int)(pZ:Option Addr)(qI:List Int)(mq sN:Nat)(gy:Hid (qJ.length=mD))(hzn:Hid (qI.length=mq))(hna:mD<1000000)(hnz:mq<1000000)(s:ByteArray)(hs:s.size≤1000)(ht:Hid (pQ P Q G need cs ks=true))(hm:Hid (sP kn ix=false))(hQ:Q<9223372036854775808)(w:World)(hv:Hid (Vars w))(hd0:Hid (bB w))(hC:Hid (Sl w Cs cs))(hK:Hid (Sl w Ks ks))(nD:Hid (Sl w pA qJ))(nC:Hid (Sl w pZ qI)) :
  Calls Tryz.prog 126 #[gv P Q G,jY need Cs cn cc Ks kn kc,CE E1 E2 A na ca C Z nz cz, .string s,Si ix v pA mD sO pC pZ mq sN] w (Rt w (.bool false)):=by
 obtain⟨w0,HW,ai,kC⟩:=Ch (bg P Q G) fq (uV need Cs cn cc Ks kn kc) fq (GY E1 E2 A na ca C Z nz cz) MN (Q7 ix v pA mD sO pC pZ mq sN) vF w;have kV:=mkV ai hv;have kD:=oF ai hd0;have qo:=mkS ai hC;have uX:=mkS ai hK;have Mr:=mkS ai nD;have Mq:=mkS ai nC;have ah:=bI w0;clear hv hd0 hC hK nD nC;go_in
 go_wp2_with fail
 rw[HW.out];have hO:=kC;refine jq [] ah (fun hHeld=>?_);refine aL 0 ?_;refine aL 1 ?_;refine dh 2 fun K hK=>?_;go_simp;refine(lI P Q G need Cs cs cn cc Ks ks kn kc hcn hkn true ht hQ _ (kV.out _ hHeld) (qo.out _ hHeld) (uX.out _ hHeld)).mono ?_;rintro e wA ⟨rfl,bN⟩;refine hK.out _ _ (bJ hHeld bN) (fun hHeld=>?_);clear hK K;refine aP 3 4 5 6 ?_;refine dh 7 fun K hK=>?_;go_simp;refine(pg need Cs cn cc Ks kn kc ix false hm _).mono ?_;rintro e wA ⟨rfl,bN⟩;refine hK.out _ _ (bJ hHeld bN) (fun hHeld=>?_);clear hK K;refine aL 8 ?_;refine aL 9 ?_;refine eO 10 11 12 13 ?_;refine eO 14 15 16 17 ?_;refine eO 18 19 20 21 ?_;refine eO 22 23 24 25 ?_;refine lC 26 ?_;refine lC 27 ?_;refine aL 28 ?_;refine aL 29 ?_;refine gM ?_;clear hO;have bG:=hHeld;clear hHeld;have zc:=kC.out _ bG;go_wp2;go_ret;exact⟨rfl,f_ ai bG⟩
theorem Vs (P Q G need:Int)(Cs:Option Addr)(cs:List Int)(cn cc:Nat)(bK oK:Nat)(ks:List Int)(kn kc:Nat)(hcn:Hid (cs.length=cn))(hkn:Hid (ks.length=kn))(E1 E2:Int)(A:Option Addr)(na ca:Nat)(C:Int)(Z:Option Addr)(nz cz:Nat)(j:Nat)(hjk:j<kn)(hkb:kn≤8)(v:Int)(pA:Option Addr)(qJ:List Int)(mD sO:Nat)(pC:Int)(pZ:Option Addr)(qI:List Int)(mq sN:Nat)(gy:Hid (qJ.length=mD))(hzn:Hid (qI.length=mq))(hna:mD<1000000)(hnz:mq<1000000)(s:ByteArray)(hs:s.size≤1000)(ht:Hid (pQ P Q G need cs ks=true))(hm:Hid (sP kn ((j:Int)+1)=true))(kj:Int)(hKj:Hid (ks.getD j 0=kj))(r:Bool)(HV:Kp (Dq P Q G G kj E1 v pC (bq s) qJ qI=r))(hQ:Q<9223372036854775808)(w:World)(hv:Hid (Vars w))(hd0:Hid (bB w))(hC:Hid (Sl w Cs cs))(hK:Hid (Sl w (some ⟨bK,oK,none⟩) ks))(nD:Hid (Sl w pA qJ))(nC:Hid (Sl w pZ qI)) :
  Calls Tryz.prog 126 #[gv P Q G,jY need Cs cn cc (some ⟨bK,oK,none⟩) kn kc,CE E1 E2 A na ca C Z nz cz, .string s,Si ((j:Int)+1) v pA mD sO pC pZ mq sN] w (Rt w (.bool r)):=by
 obtain⟨dj,dj1,dj2,dj3,dj4⟩:=xV hjk hkb;have hjl:j<ks.length:=by rw[hkn.out];exact hjk
 obtain⟨w0,HW,ai,kC⟩:=Ch (bg P Q G) fq (uV need Cs cn cc (some ⟨bK,oK,none⟩) kn kc) fq (GY E1 E2 A na ca C Z nz cz) MN (Q7 ((j:Int)+1) v pA mD sO pC pZ mq sN) vF w;have kV:=mkV ai hv;have kD:=oF ai hd0;have qo:=mkS ai hC;have uX:=mkS ai hK;have Mr:=mkS ai nD;have Mq:=mkS ai nC;have ah:=bI w0;clear hv hd0 hC hK nD nC
 have kI:=aa (show ∀u:World,Hid (Below w0.heap.size w0 u)→u.cell? ⟨bK,oK+j,none⟩=some (.int .i64 kj)from fun u h=>by
  obtain⟨b9,o9,hA,hi⟩:=(uX.out u h).out j hjl
  cases hA
  rwa [hKj.out]at hi)
 go_in
 go_wp2_with fail
 rw[HW.out];have hO:=aa (fun(u:World) (h:Hid (Below w0.heap.size w0 u))=>And.intro (kC.out u h) (kI.out u h));refine jq [] ah (fun hHeld=>?_);refine aL 0 ?_;refine aL 1 ?_;refine dh 2 fun K hK=>?_;go_simp;refine(lI P Q G need Cs cs cn cc (some ⟨bK,oK,none⟩) ks kn kc hcn hkn true ht hQ _ (kV.out _ hHeld) (qo.out _ hHeld) (uX.out _ hHeld)).mono ?_;rintro e wA ⟨rfl,bN⟩;refine hK.out _ _ (bJ hHeld bN) (fun hHeld=>?_);clear hK K;refine aP 3 4 5 6 ?_;refine dh 7 fun K hK=>?_;go_simp;refine(pg need Cs cn cc (some ⟨bK,oK,none⟩) kn kc ((j:Int)+1) true hm _).mono ?_;rintro e wA ⟨rfl,bN⟩;refine hK.out _ _ (bJ hHeld bN) (fun hHeld=>?_);clear hK K;refine aP 8 9 10 11 ?_;refine aP 12 13 14 15 ?_;refine aP 16 17 18 19 ?_;refine aP 20 21 22 23 ?_;refine aL 24 ?_;refine aL 25 ?_;refine aL 26 ?_;refine dh 27 fun K hK=>?_;go_simp;refine(PO P Q G G kj E1 v pA qJ mD sO pC pZ qI mq sN gy hzn hna hnz hQ s hs r HV _ (kV.out _ hHeld) (kD.out _ hHeld) (Mr.out _ hHeld) (Mq.out _ hHeld)).mono ?_;rintro e wA ⟨rfl,bN⟩;refine hK.out _ _ (bJ hHeld bN) (fun hHeld=>?_);clear hK K;refine aL 28 ?_;refine aL 29 ?_;refine gM ?_;clear hO;have bG:=hHeld;clear hHeld;have zc:=kC.out _ bG;have vk:=kI.out _ bG;go_wp2;go_ret;exact⟨rfl,f_ ai bG⟩
theorem Ns (P Q G need:Int)(Cs:Option Addr)(cs:List Int)(cn cc:Nat)(Ks:Option Addr)(ks:List Int)(kn kc:Nat)(hcn:Hid (cs.length=cn))(hkn:Hid (ks.length=kn))(E1 E2:Int)(A:Option Addr)(na ca:Nat)(C:Int)(Z:Option Addr)(nz cz:Nat)(ix:Int)(v:Int)(pA:Option Addr)(qJ:List Int)(mD sO:Nat)(pC:Int)(pZ:Option Addr)(qI:List Int)(mq sN:Nat)(gy:Hid (qJ.length=mD))(hzn:Hid (qI.length=mq))(hna:mD<1000000)(hnz:mq<1000000)(s:ByteArray)(hs:s.size≤1000)(r:Bool)(hr:Kp (FJ P Q G need cs ks E1 ix v pC (bq s) qJ qI=r))(hQ:Q<9223372036854775808)(w:World)(hv:Hid (Vars w))(hd0:Hid (bB w))(hC:Hid (Sl w Cs cs))(hK:Hid (Sl w Ks ks))(nD:Hid (Sl w pA qJ))(nC:Hid (Sl w pZ qI)) :
  Calls Tryz.prog 126 #[gv P Q G,jY need Cs cn cc Ks kn kc,CE E1 E2 A na ca C Z nz cz, .string s,Si ix v pA mD sO pC pZ mq sN] w (Rt w (.bool r)):=by
 have hr1:=hr.1;unfold FJ at hr1;rw[hkn.out]at hr1
 cases h1:pQ P Q G need cs ks with
 | false=>
  obtain rfl:r=false:=by rw[←hr1,h1];rfl
  exact Vu P Q G need Cs cs cn cc Ks ks kn kc hcn hkn E1 E2 A na ca C Z nz cz ix v pA qJ mD sO pC pZ qI mq sN gy hzn hna hnz s hs (aa h1) hQ w hv hd0 hC hK nD nC
 | true=>
  cases h2:sP kn ix with
  | false=>
   obtain rfl:r=false:=by rw[←hr1,h1,h2];rfl
   exact Vt P Q G need Cs cs cn cc Ks ks kn kc hcn hkn E1 E2 A na ca C Z nz cz ix v pA qJ mD sO pC pZ qI mq sN gy hzn hna hnz s hs (aa h1) (aa h2) hQ w hv hd0 hC hK nD nC
  | true=>
   obtain⟨kz,n1,n2,n3,n4,n5,n6⟩:=lu h1 hcn.out hkn.out;obtain⟨j,hjk,rfl⟩:=Bt h2;obtain⟨bK,oK,rfl⟩:=uF hK.out (by rw[hkn.out];omega);rw[h1,h2,show((j:Int)+1-1).toNat=j by omega]at hr1;exact Vs P Q G need Cs cs cn cc bK oK ks kn kc hcn hkn E1 E2 A na ca C Z nz cz j hjk n2 v pA qJ mD sO pC pZ qI mq sN gy hzn hna hnz s hs (aa h1) (aa h2) _ (aa rfl) r ⟨by rw[←hr1];rfl⟩ hQ w hv hd0 hC hK nD nC
theorem RQ (P Q G need:Int)(Cs:Option Addr)(cs:List Int)(cn cc:Nat)(Ks:Option Addr)(ks:List Int)(kn kc:Nat)(hcn:Hid (cs.length=cn))(hkn:Hid (ks.length=kn))(E1 E2:Int)(A:Option Addr)(na ca:Nat)(C:Int)(Z:Option Addr)(nz cz:Nat)(ix:Int)(v:Int)(pA:Option Addr)(qJ:List Int)(mD sO:Nat)(pC:Int)(pZ:Option Addr)(qI:List Int)(mq sN:Nat)(gy:Hid (qJ.length=mD))(hzn:Hid (qI.length=mq))(hna:mD<1000000)(hnz:mq<1000000)(s:ByteArray)(hs:s.size≤1000)(ht:Hid (pQ P Q G need cs ks=false))(hQ:Q<9223372036854775808)(w:World)(hC:Hid (Sl w Cs cs))(hK:Hid (Sl w Ks ks))(nD:Hid (Sl w pA qJ))(nC:Hid (Sl w pZ qI)) :
  Calls Tryz.prog 130 #[gv P Q G,jY need Cs cn cc Ks kn kc,CE E1 E2 A na ca C Z nz cz, .string s,Si ix v pA mD sO pC pZ mq sN] w (Rt w (.bool false)):=by
 obtain⟨w0,HW,ai,kC⟩:=Ch (bg P Q G) fq (uV need Cs cn cc Ks kn kc) fq (GY E1 E2 A na ca C Z nz cz) MN (Q7 ix v pA mD sO pC pZ mq sN) vF w;have qo:=mkS ai hC;have uX:=mkS ai hK;have Mr:=mkS ai nD;have Mq:=mkS ai nC;have ah:=bI w0;clear hC hK nD nC;go_in
 go_wp2_with fail
 rw[HW.out];have hO:=kC;refine jq [] ah (fun hHeld=>?_);refine aL 0 ?_;refine aL 1 ?_;refine dh 2 fun K hK=>?_;go_simp;refine(jZ P Q G need Cs cs cn cc Ks ks kn kc hcn hkn false ht hQ _ (qo.out _ hHeld) (uX.out _ hHeld)).mono ?_;rintro e wA ⟨rfl,bN⟩;refine hK.out _ _ (bJ hHeld bN) (fun hHeld=>?_);clear hK K;refine aL 3 ?_;refine aL 4 ?_;refine eO 5 6 7 8 ?_;refine lC 9 ?_;refine aL 10 ?_;refine aL 11 ?_;refine eO 12 13 14 15 ?_;refine eO 16 17 18 19 ?_;refine eO 20 21 22 23 ?_;refine eO 24 25 26 27 ?_;refine aL 28 ?_;refine gM ?_;clear hO;have bG:=hHeld;clear hHeld;have zc:=kC.out _ bG;go_wp2;go_ret;exact⟨rfl,f_ ai bG⟩
theorem RP (P Q G need:Int)(Cs:Option Addr)(cs:List Int)(cn cc:Nat)(Ks:Option Addr)(ks:List Int)(kn kc:Nat)(hcn:Hid (cs.length=cn))(hkn:Hid (ks.length=kn))(E1 E2:Int)(A:Option Addr)(na ca:Nat)(C:Int)(Z:Option Addr)(nz cz:Nat)(ix:Int)(v:Int)(pA:Option Addr)(qJ:List Int)(mD sO:Nat)(pC:Int)(pZ:Option Addr)(qI:List Int)(mq sN:Nat)(gy:Hid (qJ.length=mD))(hzn:Hid (qI.length=mq))(hna:mD<1000000)(hnz:mq<1000000)(s:ByteArray)(hs:s.size≤1000)(ht:Hid (pQ P Q G need cs ks=true))(hm:Hid (sP kn ix=false))(hQ:Q<9223372036854775808)(w:World)(hC:Hid (Sl w Cs cs))(hK:Hid (Sl w Ks ks))(nD:Hid (Sl w pA qJ))(nC:Hid (Sl w pZ qI)) :
  Calls Tryz.prog 130 #[gv P Q G,jY need Cs cn cc Ks kn kc,CE E1 E2 A na ca C Z nz cz, .string s,Si ix v pA mD sO pC pZ mq sN] w (Rt w (.bool false)):=by
 obtain⟨w0,HW,ai,kC⟩:=Ch (bg P Q G) fq (uV need Cs cn cc Ks kn kc) fq (GY E1 E2 A na ca C Z nz cz) MN (Q7 ix v pA mD sO pC pZ mq sN) vF w;have qo:=mkS ai hC;have uX:=mkS ai hK;have Mr:=mkS ai nD;have Mq:=mkS ai nC;have ah:=bI w0;clear hC hK nD nC;go_in
 go_wp2_with fail
 rw[HW.out];have hO:=kC;refine jq [] ah (fun hHeld=>?_);refine aL 0 ?_;refine aL 1 ?_;refine dh 2 fun K hK=>?_;go_simp;refine(jZ P Q G need Cs cs cn cc Ks ks kn kc hcn hkn true ht hQ _ (qo.out _ hHeld) (uX.out _ hHeld)).mono ?_;rintro e wA ⟨rfl,bN⟩;refine hK.out _ _ (bJ hHeld bN) (fun hHeld=>?_);clear hK K;refine aP 3 4 5 6 ?_;refine aL 7 ?_;refine dh 8 fun K hK=>?_;go_simp;refine(lD need Cs cn cc Ks kn kc ix false hm _).mono ?_;rintro e wA ⟨rfl,bN⟩;refine hK.out _ _ (bJ hHeld bN) (fun hHeld=>?_);clear hK K;refine aL 9 ?_;refine aL 10 ?_;refine aL 11 ?_;refine eO 12 13 14 15 ?_;refine eO 16 17 18 19 ?_;refine eO 20 21 22 23 ?_;refine eO 24 25 26 27 ?_;refine aL 28 ?_;refine gM ?_;clear hO;have bG:=hHeld;clear hHeld;have zc:=kC.out _ bG;go_wp2;go_ret;exact⟨rfl,f_ ai bG⟩
theorem RO (P Q G need:Int)(Cs:Option Addr)(cs:List Int)(cn cc:Nat)(bK oK:Nat)(ks:List Int)(kn kc:Nat)(hcn:Hid (cs.length=cn))(hkn:Hid (ks.length=kn))(E1 E2:Int)(A:Option Addr)(na ca:Nat)(C:Int)(Z:Option Addr)(nz cz:Nat)(j:Nat)(hjk:j<kn)(hkb:kn≤8)(v:Int)(pA:Option Addr)(qJ:List Int)(mD sO:Nat)(pC:Int)(pZ:Option Addr)(qI:List Int)(mq sN:Nat)(gy:Hid (qJ.length=mD))(hzn:Hid (qI.length=mq))(hna:mD<1000000)(hnz:mq<1000000)(s:ByteArray)(hs:s.size≤1000)(ht:Hid (pQ P Q G need cs ks=true))(hm:Hid (sP kn ((j:Int)+1)=true))(kj:Int)(hKj:Hid (ks.getD j 0=kj))(r:Int)(hr:Hid (lZ P Q G [G,kj,E1,v]=r))(hne:(r != 0)=true)(hQ:Q<9223372036854775808)(w:World)(hC:Hid (Sl w Cs cs))(hK:Hid (Sl w (some ⟨bK,oK,none⟩) ks))(nD:Hid (Sl w pA qJ))(nC:Hid (Sl w pZ qI)) :
  Calls Tryz.prog 130 #[gv P Q G,jY need Cs cn cc (some ⟨bK,oK,none⟩) kn kc,CE E1 E2 A na ca C Z nz cz, .string s,Si ((j:Int)+1) v pA mD sO pC pZ mq sN] w (Rt w (.bool false)):=by
 obtain⟨dj,dj1,dj2,dj3,dj4⟩:=xV hjk hkb;have hjl:j<ks.length:=by rw[hkn.out];exact hjk
 obtain⟨w0,HW,ai,kC⟩:=Ch (bg P Q G) fq (uV need Cs cn cc (some ⟨bK,oK,none⟩) kn kc) fq (GY E1 E2 A na ca C Z nz cz) MN (Q7 ((j:Int)+1) v pA mD sO pC pZ mq sN) vF w;have qo:=mkS ai hC;have uX:=mkS ai hK;have Mr:=mkS ai nD;have Mq:=mkS ai nC;have ah:=bI w0;clear hC hK nD nC
 have kI:=aa (show ∀u:World,Hid (Below w0.heap.size w0 u)→u.cell? ⟨bK,oK+j,none⟩=some (.int .i64 kj)from fun u h=>by
  obtain⟨b9,o9,hA,hi⟩:=(uX.out u h).out j hjl
  cases hA
  rwa [hKj.out]at hi)
 go_in
 go_wp2_with fail
 rw[HW.out];have hO:=aa (fun(u:World) (h:Hid (Below w0.heap.size w0 u))=>And.intro (kC.out u h) (kI.out u h));refine jq [] ah (fun hHeld=>?_);refine aL 0 ?_;refine aL 1 ?_;refine dh 2 fun K hK=>?_;go_simp;refine(jZ P Q G need Cs cs cn cc (some ⟨bK,oK,none⟩) ks kn kc hcn hkn true ht hQ _ (qo.out _ hHeld) (uX.out _ hHeld)).mono ?_;rintro e wA ⟨rfl,bN⟩;refine hK.out _ _ (bJ hHeld bN) (fun hHeld=>?_);clear hK K;refine aP 3 4 5 6 ?_;refine aL 7 ?_;refine dh 8 fun K hK=>?_;go_simp;refine(lD need Cs cn cc (some ⟨bK,oK,none⟩) kn kc ((j:Int)+1) true hm _).mono ?_;rintro e wA ⟨rfl,bN⟩;refine hK.out _ _ (bJ hHeld bN) (fun hHeld=>?_);clear hK K;refine aP 9 10 11 12 ?_;refine aP 13 14 15 16 ?_;refine aP 17 18 19 20 ?_;refine aP 21 22 23 24 ?_;refine aL 25 ?_;refine dh 26 fun K hK=>?_;go_simp;refine(xu P Q G G kj E1 v r hr hQ _).mono ?_;rintro e wA ⟨rfl,bN⟩;refine hK.out _ _ (bJ hHeld bN) (fun hHeld=>?_);clear hK K;refine aL 27 ?_;refine aL 28 ?_;refine gM ?_;clear hO;have bG:=hHeld;clear hHeld;have zc:=kC.out _ bG;have vk:=kI.out _ bG;go_wp2;go_ret;exact⟨rfl,f_ ai bG⟩
theorem RN (P Q G need:Int)(Cs:Option Addr)(cs:List Int)(cn cc:Nat)(bK oK:Nat)(ks:List Int)(kn kc:Nat)(hcn:Hid (cs.length=cn))(hkn:Hid (ks.length=kn))(E1 E2:Int)(A:Option Addr)(na ca:Nat)(C:Int)(Z:Option Addr)(nz cz:Nat)(j:Nat)(hjk:j<kn)(hkb:kn≤8)(v:Int)(pA:Option Addr)(qJ:List Int)(mD sO:Nat)(pC:Int)(pZ:Option Addr)(qI:List Int)(mq sN:Nat)(gy:Hid (qJ.length=mD))(hzn:Hid (qI.length=mq))(hna:mD<1000000)(hnz:mq<1000000)(s:ByteArray)(hs:s.size≤1000)(ht:Hid (pQ P Q G need cs ks=true))(hm:Hid (sP kn ((j:Int)+1)=true))(kj:Int)(hKj:Hid (ks.getD j 0=kj))(hr:Hid (lZ P Q G [G,kj,E1,v]=0))(r:Bool)(HV:Kp (yA P Q G pC (bq s) [kj,v] (qw none none G E1) qJ qI=r))(hQ:Q<9223372036854775808)(w:World)(hC:Hid (Sl w Cs cs))(hK:Hid (Sl w (some ⟨bK,oK,none⟩) ks))(nD:Hid (Sl w pA qJ))(nC:Hid (Sl w pZ qI)) :
  Calls Tryz.prog 130 #[gv P Q G,jY need Cs cn cc (some ⟨bK,oK,none⟩) kn kc,CE E1 E2 A na ca C Z nz cz, .string s,Si ((j:Int)+1) v pA mD sO pC pZ mq sN] w (Rt w (.bool r)):=by
 obtain⟨dj,dj1,dj2,dj3,dj4⟩:=xV hjk hkb;have hjl:j<ks.length:=by rw[hkn.out];exact hjk
 obtain⟨w0,HW,ai,kC⟩:=Ch (bg P Q G) fq (uV need Cs cn cc (some ⟨bK,oK,none⟩) kn kc) fq (GY E1 E2 A na ca C Z nz cz) MN (Q7 ((j:Int)+1) v pA mD sO pC pZ mq sN) vF w;have qo:=mkS ai hC;have uX:=mkS ai hK;have Mr:=mkS ai nD;have Mq:=mkS ai nC;have ah:=bI w0;clear hC hK nD nC
 have kI:=aa (show ∀u:World,Hid (Below w0.heap.size w0 u)→u.cell? ⟨bK,oK+j,none⟩=some (.int .i64 kj)from fun u h=>by
  obtain⟨b9,o9,hA,hi⟩:=(uX.out u h).out j hjl
  cases hA
  rwa [hKj.out]at hi)
 go_in
 go_wp2_with fail
 rw[HW.out];have hO:=aa (fun(u:World) (h:Hid (Below w0.heap.size w0 u))=>And.intro (kC.out u h) (kI.out u h));refine jq [] ah (fun hHeld=>?_);refine aL 0 ?_;refine aL 1 ?_;refine dh 2 fun K hK=>?_;go_simp;refine(jZ P Q G need Cs cs cn cc (some ⟨bK,oK,none⟩) ks kn kc hcn hkn true ht hQ _ (qo.out _ hHeld) (uX.out _ hHeld)).mono ?_;rintro e wA ⟨rfl,bN⟩;refine hK.out _ _ (bJ hHeld bN) (fun hHeld=>?_);clear hK K;refine aP 3 4 5 6 ?_;refine aL 7 ?_;refine dh 8 fun K hK=>?_;go_simp;refine(lD need Cs cn cc (some ⟨bK,oK,none⟩) kn kc ((j:Int)+1) true hm _).mono ?_;rintro e wA ⟨rfl,bN⟩;refine hK.out _ _ (bJ hHeld bN) (fun hHeld=>?_);clear hK K;refine aP 9 10 11 12 ?_;refine aP 13 14 15 16 ?_;refine aP 17 18 19 20 ?_;refine aP 21 22 23 24 ?_;refine aL 25 ?_;refine dh 26 fun K hK=>?_;go_simp;refine(xu P Q G G kj E1 v 0 hr hQ _).mono ?_;rintro e wA ⟨rfl,bN⟩;refine hK.out _ _ (bJ hHeld bN) (fun hHeld=>?_);clear hK K;refine aL 27 ?_;refine aL 28 ?_;refine gM ?_;clear hO;have bG:=hHeld;clear hHeld;have zc:=kC.out _ bG;have vk:=kI.out _ bG
 go_upto_region 3 with(fail)
 clear zc vk;have hO:=aa (fun(u:World) (h:Hid (Below w0.heap.size w0 u))=>And.intro (kC.out u h) (kI.out u h));refine jq [] bG (fun hHeld=>?_);refine aP 0 1 2 3 ?_;refine aP 4 5 6 7 ?_;refine aP 8 9 10 11 ?_;refine aP 12 13 15 16 ?_;refine aL 17 ?_;refine dh 14 fun K hK=>?_;go_simp;refine(Be G kj E1 v _).mono ?_;intro e wB hR;obtain⟨Y,B,A1,B1,rfl,hY,hB,bN⟩:=hR;refine hK.out _ _ (bJ hHeld bN) (fun hHeld=>?_);clear hK K
 try simp only[qq]
 refine dh 18 fun K hK=>?_;go_simp;refine(NN P Q G Y [kj,v] 2 2 B (qw A1 B1 G E1) 2 2 pA qJ mD sO pC pZ qI mq sN (aa rfl) (aa rfl) gy hzn hna hnz hQ s hs r ⟨(CV A1 B1).trans HV.1⟩ _ (aa hY) (aa hB) (Mr.out _ hHeld) (Mq.out _ hHeld)).mono ?_;rintro e wA ⟨rfl,bN⟩;refine hK.out _ _ (bJ hHeld bN) (fun hHeld=>?_);clear hK K;refine aL 19 ?_;refine gM ?_;clear hO;have dF:=hHeld;clear hHeld;have zc:=kC.out _ dF;have vk:=kI.out _ dF;go_wp2;go_ret;exact⟨rfl,f_ ai dF⟩
theorem LJ (P Q G need:Int)(Cs:Option Addr)(cs:List Int)(cn cc:Nat)(Ks:Option Addr)(ks:List Int)(kn kc:Nat)(hcn:Hid (cs.length=cn))(hkn:Hid (ks.length=kn))(E1 E2:Int)(A:Option Addr)(na ca:Nat)(C:Int)(Z:Option Addr)(nz cz:Nat)(ix:Int)(v:Int)(pA:Option Addr)(qJ:List Int)(mD sO:Nat)(pC:Int)(pZ:Option Addr)(qI:List Int)(mq sN:Nat)(gy:Hid (qJ.length=mD))(hzn:Hid (qI.length=mq))(hna:mD<1000000)(hnz:mq<1000000)(s:ByteArray)(hs:s.size≤1000)(r:Bool)(hr:Kp (FJ P Q G need cs ks E1 ix v pC (bq s) qJ qI=r))(hQ:Q<9223372036854775808)(w:World)(hC:Hid (Sl w Cs cs))(hK:Hid (Sl w Ks ks))(nD:Hid (Sl w pA qJ))(nC:Hid (Sl w pZ qI)) :
  Calls Tryz.prog 130 #[gv P Q G,jY need Cs cn cc Ks kn kc,CE E1 E2 A na ca C Z nz cz, .string s,Si ix v pA mD sO pC pZ mq sN] w (Rt w (.bool r)):=by
 have hr1:=hr.1;unfold FJ at hr1;rw[hkn.out]at hr1
 cases h1:pQ P Q G need cs ks with
 | false=>
  obtain rfl:r=false:=by rw[←hr1,h1];rfl
  exact RQ P Q G need Cs cs cn cc Ks ks kn kc hcn hkn E1 E2 A na ca C Z nz cz ix v pA qJ mD sO pC pZ qI mq sN gy hzn hna hnz s hs (aa h1) hQ w hC hK nD nC
 | true=>
  cases h2:sP kn ix with
  | false=>
   obtain rfl:r=false:=by rw[←hr1,h1,h2];rfl
   exact RP P Q G need Cs cs cn cc Ks ks kn kc hcn hkn E1 E2 A na ca C Z nz cz ix v pA qJ mD sO pC pZ qI mq sN gy hzn hna hnz s hs (aa h1) (aa h2) hQ w hC hK nD nC
  | true=>
   obtain⟨kz,n1,n2,n3,n4,n5,n6⟩:=lu h1 hcn.out hkn.out;obtain⟨j,hjk,rfl⟩:=Bt h2;obtain⟨bK,oK,rfl⟩:=uF hK.out (by rw[hkn.out];omega);rw[h1,h2,show((j:Int)+1-1).toNat=j by omega]at hr1;have hr2:Dq P Q G G (ks.getD j 0) E1 v pC (bq s) qJ qI=r:=by rw[←hr1];rfl
   obtain⟨k,hk⟩:∃k,lZ P Q G [G,ks.getD j 0,E1,v]=k:=⟨_,rfl⟩;rw[Dq,hk]at hr2
   cases h0:(k == 0)with
   | false=>
    obtain rfl:r=false:=by rw[←hr2,h0];rfl
    exact RO P Q G need Cs cs cn cc bK oK ks kn kc hcn hkn E1 E2 A na ca C Z nz cz j hjk n2 v pA qJ mD sO pC pZ qI mq sN gy hzn hna hnz s hs (aa h1) (aa h2) _ (aa rfl) k (aa hk) (by simpa using h0) hQ w hC hK nD nC
   | true=>
    obtain rfl:k=0:=by simpa using h0
    exact RN P Q G need Cs cs cn cc bK oK ks kn kc hcn hkn E1 E2 A na ca C Z nz cz j hjk n2 v pA qJ mD sO pC pZ qI mq sN gy hzn hna hnz s hs (aa h1) (aa h2) _ (aa rfl) (aa hk) r ⟨by rw[←hr2];simp⟩ hQ w hC hK nD nC
def zC (P Q G need:Int)(cs ks:List Int)(h:List Int)(o:aG)(p:aS):Bool:=wO p.na p.nz&&FJ P Q G need cs ks o.E1 p.ix p.v p.C (bq (M7 h o)) p.al p.zs
theorem Nv (P Q G need:Int)(Cs:Option Addr)(cs:List Int)(cn cc:Nat)(Ks:Option Addr)(ks:List Int)(kn kc:Nat)(hcn:Hid (cs.length=cn))(hkn:Hid (ks.length=kn))(hQ:Q<9223372036854775808)(bO fO:Nat)(os:List aG)(n c:Nat)(K:Option Addr)(hs:List (List Int))(m d i:Nat)(hn:Hid (os.length=n))(hm:Hid (hs.length=m))(hi:i<n)(him:i≤m)(hb1:n≤1000000)(hb2:m≤1000000)(h:List Int)(hh:Hid (eH hs i=h))(hl:Hid (h.length=32))(hb:Hid (aF h=true))(o:aG)(ho:Hid (bz os i=o))(hI:Hid (dD o))(hSo:fE o)(p:aS)(gy:Hid (p.al.length=p.na))(hzn:Hid (p.zs.length=p.nz))(hna:p.na<1000000)(hnz:p.nz<1000000)(hsh:Hid (wO p.na p.nz=false))(w:World)(hv:Hid (Vars w))(hd0:Hid (bB w))(hC:Hid (Sl w Cs cs))(hK:Hid (Sl w Ks ks))(hO:Hid (Os w (some ⟨bO,fO,none⟩) os))(hH:Hid (Hs w K hs))(nD:Hid (Sl w p.A p.al))(nC:Hid (Sl w p.Z p.zs)) :
  Calls Tryz.prog 74 #[gv P Q G,jY need Cs cn cc Ks kn kc,iA (some ⟨bO,fO,none⟩) n c K m d, .int .i64 (i:Int),Gc p] w (Rt w (.bool false)):=by
 obtain⟨w0,HW,ai,kC⟩:=Ch (bg P Q G) fq (.cells #[.int .i64 need, .slice Cs cn cc, .slice Ks kn kc] 26) fq (jC (some ⟨bO,fO,none⟩) n c K m d) sG (sM p) vF w;have kO:=fo (fun u=>Os u (some ⟨bO,fO,none⟩) os) ai hO (·.below);have kH:=fo (fun u=>Hs u K hs) ai hH (·.below);have kD:=oF ai hd0;have jb:=mkS ai hC;have ja:=mkS ai hK;have kA1:=mkS ai nD;have SB:=mkS ai nC;have kV:=mkV ai hv;have ah:=bI w0;clear hO hH hd0 hC hK nD nC hv;obtain⟨bX,fX,hX,bF,hok⟩:=((kO.out _ ah)).out i (by rw[hn.out];exact hi)
 cases hX
 rw[show os.getD i dN=o from ho.out]at bF;have uB:=aa bF;clear bF hok;have jr:=aa (show ∀u:World,Hid (Below w0.heap.size w0 u)→u.cell? ⟨bO,fO+i*9+2,none⟩=some (.int .i64 o.E1)∧u.cell? ⟨bO,fO+i*9+3,none⟩=some (.int .i64 o.E2)∧u.cell? ⟨bO,fO+i*9+4,none⟩=some (.slice o.A o.na o.ca)∧u.cell? ⟨bO,fO+i*9+5,none⟩=some (.int .i64 o.C)∧u.cell? ⟨bO,fO+i*9+6,none⟩=some (.slice o.Z o.nz o.cz)from fun u h9=>by have h8:=uB.out.below h9.out;exact⟨h8.2.2.1,h8.2.2.2.1,h8.2.2.2.2.1,h8.2.2.2.2.2.1,h8.2.2.2.2.2.2.1⟩);go_in
 go_upto_region 1 with(fail)
 rw[HW.out];have hO:=aa (fun(u:World) (h:Hid (Below w0.heap.size w0 u))=>And.intro (kC.out u h) (jr.out u h));refine jq [] ah (fun hHeld=>?_);refine aL 0 ?_;refine aL 1 ?_;refine dh 2 fun K hK=>?_;go_simp;refine(iw p.A p.na p.ca p.C p.Z p.nz p.cz false hsh _).mono ?_;rintro e wA ⟨rfl,bN⟩;refine hK.out _ _ (bJ hHeld bN) (fun hHeld=>?_);clear hK K;refine aL 3 ?_;refine eO 4 5 6 7 ?_;refine eO 8 9 10 11 ?_;refine eO 12 13 14 15 ?_;refine lC 16 ?_;refine aL 17 ?_;refine aL 18 ?_;refine gM ?_;clear hO;have bG:=hHeld;clear hHeld;have zc:=kC.out _ bG;have dB:=jr.out _ bG;go_wp2;go_ret;exact⟨rfl,f_ ai bG⟩
theorem Nt (P Q G need:Int)(Cs:Option Addr)(cs:List Int)(cn cc:Nat)(Ks:Option Addr)(ks:List Int)(kn kc:Nat)(hcn:Hid (cs.length=cn))(hkn:Hid (ks.length=kn))(hQ:Q<9223372036854775808)(bO fO:Nat)(os:List aG)(n c:Nat)(K:Option Addr)(hs:List (List Int))(m d i:Nat)(hn:Hid (os.length=n))(hm:Hid (hs.length=m))(hi:i<n)(him:i≤m)(hb1:n≤1000000)(hb2:m≤1000000)(h:List Int)(hh:Hid (eH hs i=h))(hl:Hid (h.length=32))(hb:Hid (aF h=true))(o:aG)(ho:Hid (bz os i=o))(hI:Hid (dD o))(hSo:fE o)(p:aS)(gy:Hid (p.al.length=p.na))(hzn:Hid (p.zs.length=p.nz))(hna:p.na<1000000)(hnz:p.nz<1000000)(hsh:Hid (wO p.na p.nz=true))(r:Bool)(hr:Kp (FJ P Q G need cs ks o.E1 p.ix p.v p.C (bq (M7 h o)) p.al p.zs=r))(w:World)(hv:Hid (Vars w))(hd0:Hid (bB w))(hC:Hid (Sl w Cs cs))(hK:Hid (Sl w Ks ks))(hO:Hid (Os w (some ⟨bO,fO,none⟩) os))(hH:Hid (Hs w K hs))(nD:Hid (Sl w p.A p.al))(nC:Hid (Sl w p.Z p.zs)) :
  Calls Tryz.prog 74 #[gv P Q G,jY need Cs cn cc Ks kn kc,iA (some ⟨bO,fO,none⟩) n c K m d, .int .i64 (i:Int),Gc p] w (Rt w (.bool r)):=by
 obtain⟨w0,HW,ai,kC⟩:=Ch (bg P Q G) fq (.cells #[.int .i64 need, .slice Cs cn cc, .slice Ks kn kc] 26) fq (jC (some ⟨bO,fO,none⟩) n c K m d) sG (sM p) vF w;have kO:=fo (fun u=>Os u (some ⟨bO,fO,none⟩) os) ai hO (·.below);have kH:=fo (fun u=>Hs u K hs) ai hH (·.below);have kD:=oF ai hd0;have jb:=mkS ai hC;have ja:=mkS ai hK;have kA1:=mkS ai nD;have SB:=mkS ai nC;have kV:=mkV ai hv;have ah:=bI w0;clear hO hH hd0 hC hK nD nC hv;obtain⟨bX,fX,hX,bF,hok⟩:=((kO.out _ ah)).out i (by rw[hn.out];exact hi)
 cases hX
 rw[show os.getD i dN=o from ho.out]at bF;have uB:=aa bF;clear bF hok;have jr:=aa (show ∀u:World,Hid (Below w0.heap.size w0 u)→u.cell? ⟨bO,fO+i*9+2,none⟩=some (.int .i64 o.E1)∧u.cell? ⟨bO,fO+i*9+3,none⟩=some (.int .i64 o.E2)∧u.cell? ⟨bO,fO+i*9+4,none⟩=some (.slice o.A o.na o.ca)∧u.cell? ⟨bO,fO+i*9+5,none⟩=some (.int .i64 o.C)∧u.cell? ⟨bO,fO+i*9+6,none⟩=some (.slice o.Z o.nz o.cz)from fun u h9=>by have h8:=uB.out.below h9.out;exact⟨h8.2.2.1,h8.2.2.2.1,h8.2.2.2.2.1,h8.2.2.2.2.2.1,h8.2.2.2.2.2.2.1⟩);go_in
 go_upto_region 1 with(fail)
 rw[HW.out];have hO:=aa (fun(u:World) (h:Hid (Below w0.heap.size w0 u))=>And.intro (kC.out u h) (jr.out u h));refine jq [] ah (fun hHeld=>?_);refine aL 0 ?_;refine aL 1 ?_;refine dh 2 fun K hK=>?_;go_simp;refine(iw p.A p.na p.ca p.C p.Z p.nz p.cz true hsh _).mono ?_;rintro e wA ⟨rfl,bN⟩;refine hK.out _ _ (bJ hHeld bN) (fun hHeld=>?_);clear hK K;refine aP 3 4 5 6 ?_;refine aP 7 8 9 10 ?_;refine aP 11 12 13 15 ?_;refine dh 14 fun K hK=>?_;go_simp;refine(Mo bO fO os n c _ hs m d i hn hm hi him hb1 hb2 h hh hl hb o ho hI hSo _ (kD.out _ hHeld) (kO.out _ hHeld) (kH.out _ hHeld)).mono ?_;rintro e wA ⟨rfl,bN⟩;refine hK.out _ _ (bJ hHeld bN) (fun hHeld=>?_);clear hK K
 try simp only[qq]
 refine dh 16 fun K hK=>?_;go_simp;refine(Ns P Q G need Cs cs cn cc Ks ks kn kc hcn hkn o.E1 o.E2 o.A o.na o.ca o.C o.Z o.nz o.cz p.ix p.v p.A p.al p.na p.ca p.C p.Z p.zs p.nz p.cz gy hzn hna hnz (M7 h o) (Gs h o) r hr hQ _ (kV.out _ hHeld) (kD.out _ hHeld) (jb.out _ hHeld) (ja.out _ hHeld) (kA1.out _ hHeld) (SB.out _ hHeld)).mono ?_;rintro e wA ⟨rfl,bN⟩;refine hK.out _ _ (bJ hHeld bN) (fun hHeld=>?_);clear hK K;refine aL 17 ?_;refine aL 18 ?_;refine gM ?_;clear hO;have bG:=hHeld;clear hHeld;have zc:=kC.out _ bG;have dB:=jr.out _ bG;go_wp2;go_ret;exact⟨rfl,f_ ai bG⟩
theorem N9 (P Q G need:Int)(Cs:Option Addr)(cs:List Int)(cn cc:Nat)(Ks:Option Addr)(ks:List Int)(kn kc:Nat)(hcn:Hid (cs.length=cn))(hkn:Hid (ks.length=kn))(hQ:Q<9223372036854775808)(bO fO:Nat)(os:List aG)(n c:Nat)(K:Option Addr)(hs:List (List Int))(m d i:Nat)(hn:Hid (os.length=n))(hm:Hid (hs.length=m))(hi:i<n)(him:i≤m)(hb1:n≤1000000)(hb2:m≤1000000)(h:List Int)(hh:Hid (eH hs i=h))(hl:Hid (h.length=32))(hb:Hid (aF h=true))(o:aG)(ho:Hid (bz os i=o))(hI:Hid (dD o))(hSo:fE o)(p:aS)(gy:Hid (p.al.length=p.na))(hzn:Hid (p.zs.length=p.nz))(hna:p.na<1000000)(hnz:p.nz<1000000)(hsh:Hid (wO p.na p.nz=false))(w:World)(hv:Hid (Vars w))(hd0:Hid (bB w))(hC:Hid (Sl w Cs cs))(hK:Hid (Sl w Ks ks))(hO:Hid (Os w (some ⟨bO,fO,none⟩) os))(hH:Hid (Hs w K hs))(nD:Hid (Sl w p.A p.al))(nC:Hid (Sl w p.Z p.zs)) :
  Calls Tryz.prog 79 #[gv P Q G,jY need Cs cn cc Ks kn kc,iA (some ⟨bO,fO,none⟩) n c K m d, .int .i64 (i:Int),Gc p] w (Rt w (.bool false)):=by
 obtain⟨w0,HW,ai,kC⟩:=Ch (bg P Q G) fq (.cells #[.int .i64 need, .slice Cs cn cc, .slice Ks kn kc] 26) fq (jC (some ⟨bO,fO,none⟩) n c K m d) sG (sM p) vF w;have kO:=fo (fun u=>Os u (some ⟨bO,fO,none⟩) os) ai hO (·.below);have kH:=fo (fun u=>Hs u K hs) ai hH (·.below);have kD:=oF ai hd0;have jb:=mkS ai hC;have ja:=mkS ai hK;have kA1:=mkS ai nD;have SB:=mkS ai nC;have ah:=bI w0;clear hO hH hd0 hC hK nD nC hv;obtain⟨bX,fX,hX,bF,hok⟩:=((kO.out _ ah)).out i (by rw[hn.out];exact hi)
 cases hX
 rw[show os.getD i dN=o from ho.out]at bF;have uB:=aa bF;clear bF hok;have jr:=aa (show ∀u:World,Hid (Below w0.heap.size w0 u)→u.cell? ⟨bO,fO+i*9+2,none⟩=some (.int .i64 o.E1)∧u.cell? ⟨bO,fO+i*9+3,none⟩=some (.int .i64 o.E2)∧u.cell? ⟨bO,fO+i*9+4,none⟩=some (.slice o.A o.na o.ca)∧u.cell? ⟨bO,fO+i*9+5,none⟩=some (.int .i64 o.C)∧u.cell? ⟨bO,fO+i*9+6,none⟩=some (.slice o.Z o.nz o.cz)from fun u h9=>by have h8:=uB.out.below h9.out;exact⟨h8.2.2.1,h8.2.2.2.1,h8.2.2.2.2.1,h8.2.2.2.2.2.1,h8.2.2.2.2.2.2.1⟩);go_in
 go_upto_region 1 with(fail)
 rw[HW.out];have hO:=aa (fun(u:World) (h:Hid (Below w0.heap.size w0 u))=>And.intro (kC.out u h) (jr.out u h));refine jq [] ah (fun hHeld=>?_);refine aL 0 ?_;refine aL 1 ?_;refine dh 2 fun K hK=>?_;go_simp;refine(jD p.A p.na p.ca p.C p.Z p.nz p.cz false hsh _).mono ?_;rintro e wA ⟨rfl,bN⟩;refine hK.out _ _ (bJ hHeld bN) (fun hHeld=>?_);clear hK K;refine aL 3 ?_;refine eO 4 5 6 7 ?_;refine eO 8 9 10 11 ?_;refine eO 12 13 14 15 ?_;refine lC 16 ?_;refine aL 17 ?_;refine aL 18 ?_;refine gM ?_;clear hO;have bG:=hHeld;clear hHeld;have zc:=kC.out _ bG;have dB:=jr.out _ bG;go_wp2;go_ret;exact⟨rfl,f_ ai bG⟩
theorem N8 (P Q G need:Int)(Cs:Option Addr)(cs:List Int)(cn cc:Nat)(Ks:Option Addr)(ks:List Int)(kn kc:Nat)(hcn:Hid (cs.length=cn))(hkn:Hid (ks.length=kn))(hQ:Q<9223372036854775808)(bO fO:Nat)(os:List aG)(n c:Nat)(K:Option Addr)(hs:List (List Int))(m d i:Nat)(hn:Hid (os.length=n))(hm:Hid (hs.length=m))(hi:i<n)(him:i≤m)(hb1:n≤1000000)(hb2:m≤1000000)(h:List Int)(hh:Hid (eH hs i=h))(hl:Hid (h.length=32))(hb:Hid (aF h=true))(o:aG)(ho:Hid (bz os i=o))(hI:Hid (dD o))(hSo:fE o)(p:aS)(gy:Hid (p.al.length=p.na))(hzn:Hid (p.zs.length=p.nz))(hna:p.na<1000000)(hnz:p.nz<1000000)(hsh:Hid (wO p.na p.nz=true))(r:Bool)(hr:Kp (FJ P Q G need cs ks o.E1 p.ix p.v p.C (bq (M7 h o)) p.al p.zs=r))(w:World)(hv:Hid (Vars w))(hd0:Hid (bB w))(hC:Hid (Sl w Cs cs))(hK:Hid (Sl w Ks ks))(hO:Hid (Os w (some ⟨bO,fO,none⟩) os))(hH:Hid (Hs w K hs))(nD:Hid (Sl w p.A p.al))(nC:Hid (Sl w p.Z p.zs)) :
  Calls Tryz.prog 79 #[gv P Q G,jY need Cs cn cc Ks kn kc,iA (some ⟨bO,fO,none⟩) n c K m d, .int .i64 (i:Int),Gc p] w (Rt w (.bool r)):=by
 obtain⟨w0,HW,ai,kC⟩:=Ch (bg P Q G) fq (.cells #[.int .i64 need, .slice Cs cn cc, .slice Ks kn kc] 26) fq (jC (some ⟨bO,fO,none⟩) n c K m d) sG (sM p) vF w;have kO:=fo (fun u=>Os u (some ⟨bO,fO,none⟩) os) ai hO (·.below);have kH:=fo (fun u=>Hs u K hs) ai hH (·.below);have kD:=oF ai hd0;have jb:=mkS ai hC;have ja:=mkS ai hK;have kA1:=mkS ai nD;have SB:=mkS ai nC;have ah:=bI w0;clear hO hH hd0 hC hK nD nC hv;obtain⟨bX,fX,hX,bF,hok⟩:=((kO.out _ ah)).out i (by rw[hn.out];exact hi)
 cases hX
 rw[show os.getD i dN=o from ho.out]at bF;have uB:=aa bF;clear bF hok;have jr:=aa (show ∀u:World,Hid (Below w0.heap.size w0 u)→u.cell? ⟨bO,fO+i*9+2,none⟩=some (.int .i64 o.E1)∧u.cell? ⟨bO,fO+i*9+3,none⟩=some (.int .i64 o.E2)∧u.cell? ⟨bO,fO+i*9+4,none⟩=some (.slice o.A o.na o.ca)∧u.cell? ⟨bO,fO+i*9+5,none⟩=some (.int .i64 o.C)∧u.cell? ⟨bO,fO+i*9+6,none⟩=some (.slice o.Z o.nz o.cz)from fun u h9=>by have h8:=uB.out.below h9.out;exact⟨h8.2.2.1,h8.2.2.2.1,h8.2.2.2.2.1,h8.2.2.2.2.2.1,h8.2.2.2.2.2.2.1⟩);go_in
 go_upto_region 1 with(fail)
 rw[HW.out];have hO:=aa (fun(u:World) (h:Hid (Below w0.heap.size w0 u))=>And.intro (kC.out u h) (jr.out u h));refine jq [] ah (fun hHeld=>?_);refine aL 0 ?_;refine aL 1 ?_;refine dh 2 fun K hK=>?_;go_simp;refine(jD p.A p.na p.ca p.C p.Z p.nz p.cz true hsh _).mono ?_;rintro e wA ⟨rfl,bN⟩;refine hK.out _ _ (bJ hHeld bN) (fun hHeld=>?_);clear hK K;refine aP 3 4 5 6 ?_;refine aP 7 8 9 10 ?_;refine aP 11 12 13 15 ?_;refine dh 14 fun K hK=>?_;go_simp;refine(D8 bO fO os n c _ hs m d i hn hm hi him hb1 hb2 h hh hl hb o ho hI hSo _ (kD.out _ hHeld) (kO.out _ hHeld) (kH.out _ hHeld)).mono ?_;rintro e wA ⟨rfl,bN⟩;refine hK.out _ _ (bJ hHeld bN) (fun hHeld=>?_);clear hK K
 try simp only[qq]
 refine dh 16 fun K hK=>?_;go_simp;refine(LJ P Q G need Cs cs cn cc Ks ks kn kc hcn hkn o.E1 o.E2 o.A o.na o.ca o.C o.Z o.nz o.cz p.ix p.v p.A p.al p.na p.ca p.C p.Z p.zs p.nz p.cz gy hzn hna hnz (M7 h o) (Gs h o) r hr hQ _ (jb.out _ hHeld) (ja.out _ hHeld) (kA1.out _ hHeld) (SB.out _ hHeld)).mono ?_;rintro e wA ⟨rfl,bN⟩;refine hK.out _ _ (bJ hHeld bN) (fun hHeld=>?_);clear hK K;refine aL 17 ?_;refine aL 18 ?_;refine gM ?_;clear hO;have bG:=hHeld;clear hHeld;have zc:=kC.out _ bG;have dB:=jr.out _ bG;go_wp2;go_ret;exact⟨rfl,f_ ai bG⟩
def Iw (P Q G need:Int)(cs ks:List Int)(os:List aG)(hs:List (List Int))(n:Nat)(i:Int):Int:=
 if gJ os hs=false then 1 else if pQ P Q G need cs ks=false then 1 else if i<0 then 7 else if (n:Int)≤i then 7 else if (bz os i.toNat).key=0 then 0 else 6
theorem KY (P Q G need:Int)(Cs:Option Addr)(cs:List Int)(cn cc:Nat)(Ks:Option Addr)(ks:List Int)(kn kc:Nat)(hcn:Hid (cs.length=cn))(hkn:Hid (ks.length=kn))(hQ:Q<9223372036854775808)(O:Option Addr)(os:List aG)(n c:Nat)(K:Option Addr)(hs:List (List Int))(m d:Nat)(hn:Hid (os.length=n))(hm:Hid (hs.length=m))(hI:Hid (∀k,k<n→dD (bz os k)))(hb1:n≤1000000)(hb2:m≤1000000)(i:Int)(HT:Kp (gJ os hs=false))(w:World)(hv:Hid (Vars w))(hd0:Hid (bB w))(hC:Hid (Sl w Cs cs))(hK:Hid (Sl w Ks ks))(hO:Hid (Os w O os))(hH:Hid (Hs w K hs)) :
  Calls Tryz.prog 72 #[gv P Q G,jY need Cs cn cc Ks kn kc,iA O n c K m d, .int .i64 i] w (Rt w (.int .i64 1)):=by
 obtain⟨w0,HW,ai,kC⟩:=qD (bg P Q G) fq (.cells #[.int .i64 need, .slice Cs cn cc, .slice Ks kn kc] 26) fq (jC O n c K m d) qx w;have kO:=fo (fun u=>Os u O os) ai hO (·.below);have kH:=fo (fun u=>Hs u K hs) ai hH (·.below);have kD:=oF ai hd0;have jb:=mkS ai hC;have ja:=mkS ai hK;have kV:=mkV ai hv;have ah:=bI w0;clear hO hH hd0 hC hK hv;go_in
 go_upto_region 1 with(fail)
 rw[HW.out];have zc:=kC.out _ ah
 go_wp2_with fail
 clear zc;refine fe kC ah (jX O os n c K hs m d hn hm hI.out hb1 hb2 false HT _ (kD.out _ ah) (kO.out _ ah) (kH.out _ ah)) fun w1 ax zc=>?_;go_wp2;go_ret;exact⟨rfl,f_ ai ax⟩
theorem Tw (P Q G need:Int)(Cs:Option Addr)(cs:List Int)(cn cc:Nat)(Ks:Option Addr)(ks:List Int)(kn kc:Nat)(hcn:Hid (cs.length=cn))(hkn:Hid (ks.length=kn))(hQ:Q<9223372036854775808)(O:Option Addr)(os:List aG)(n c:Nat)(K:Option Addr)(hs:List (List Int))(m d:Nat)(hn:Hid (os.length=n))(hm:Hid (hs.length=m))(hI:Hid (∀k,k<n→dD (bz os k)))(hb1:n≤1000000)(hb2:m≤1000000)(i:Int)(HT:Kp (gJ os hs=true))(hr:Hid (pQ P Q G need cs ks=false))(w:World)(hv:Hid (Vars w))(hd0:Hid (bB w))(hC:Hid (Sl w Cs cs))(hK:Hid (Sl w Ks ks))(hO:Hid (Os w O os))(hH:Hid (Hs w K hs)) :
  Calls Tryz.prog 72 #[gv P Q G,jY need Cs cn cc Ks kn kc,iA O n c K m d, .int .i64 i] w (Rt w (.int .i64 1)):=by
 obtain⟨w0,HW,ai,kC⟩:=qD (bg P Q G) fq (.cells #[.int .i64 need, .slice Cs cn cc, .slice Ks kn kc] 26) fq (jC O n c K m d) qx w;have kO:=fo (fun u=>Os u O os) ai hO (·.below);have kH:=fo (fun u=>Hs u K hs) ai hH (·.below);have kD:=oF ai hd0;have jb:=mkS ai hC;have ja:=mkS ai hK;have kV:=mkV ai hv;have ah:=bI w0;clear hO hH hd0 hC hK hv;go_in
 go_upto_region 1 with(fail)
 rw[HW.out];have zc:=kC.out _ ah
 go_wp2_with fail
 clear zc;refine fe kC ah (jX O os n c K hs m d hn hm hI.out hb1 hb2 true HT _ (kD.out _ ah) (kO.out _ ah) (kH.out _ ah)) fun w1 ax zc=>?_
 go_wp2_with fail
 clear zc;refine fe kC ax (lI P Q G need Cs cs cn cc Ks ks kn kc hcn hkn false hr hQ _ (kV.out _ ax) (jb.out _ ax) (ja.out _ ax)) fun w2 az zc=>?_;go_wp2;go_ret;exact⟨rfl,f_ ai az⟩
theorem given_3 (P Q G need:Int)(Cs:Option Addr)(cs:List Int)(cn cc:Nat)(Ks:Option Addr)(ks:List Int)(kn kc:Nat)(hcn:Hid (cs.length=cn))(hkn:Hid (ks.length=kn))(hQ:Q<9223372036854775808)(O:Option Addr)(os:List aG)(n c:Nat)(K:Option Addr)(hs:List (List Int))(m d:Nat)(hn:Hid (os.length=n))(hm:Hid (hs.length=m))(hI:Hid (∀k,k<n→dD (bz os k)))(hb1:n≤1000000)(hb2:m≤1000000)(i:Int)(HT:Kp (gJ os hs=true))(hr:Hid (pQ P Q G need cs ks=true))(h:i<0)(w:World)(hv:Hid (Vars w))(hd0:Hid (bB w))(hC:Hid (Sl w Cs cs))(hK:Hid (Sl w Ks ks))(hO:Hid (Os w O os))(hH:Hid (Hs w K hs)) :
  Calls Tryz.prog 72 #[gv P Q G,jY need Cs cn cc Ks kn kc,iA O n c K m d, .int .i64 i] w (Rt w (.int .i64 7)):=by
 have e1:decide (i<0)=true:=by simpa using h
 obtain⟨w0,HW,ai,kC⟩:=qD (bg P Q G) fq (.cells #[.int .i64 need, .slice Cs cn cc, .slice Ks kn kc] 26) fq (jC O n c K m d) qx w;have kO:=fo (fun u=>Os u O os) ai hO (·.below);have kH:=fo (fun u=>Hs u K hs) ai hH (·.below);have kD:=oF ai hd0;have jb:=mkS ai hC;have ja:=mkS ai hK;have kV:=mkV ai hv;have ah:=bI w0;clear hO hH hd0 hC hK hv;go_in
 go_upto_region 1 with(fail)
 rw[HW.out];have zc:=kC.out _ ah
 go_wp2_with fail
 clear zc;refine fe kC ah (jX O os n c K hs m d hn hm hI.out hb1 hb2 true HT _ (kD.out _ ah) (kO.out _ ah) (kH.out _ ah)) fun w1 ax zc=>?_
 go_wp2_with fail
 clear zc;refine fe kC ax (lI P Q G need Cs cs cn cc Ks ks kn kc hcn hkn true hr hQ _ (kV.out _ ax) (jb.out _ ax) (ja.out _ ax)) fun w2 az zc=>?_;go_wp2;go_ret;exact⟨rfl,f_ ai az⟩
theorem Tv (P Q G need:Int)(Cs:Option Addr)(cs:List Int)(cn cc:Nat)(Ks:Option Addr)(ks:List Int)(kn kc:Nat)(hcn:Hid (cs.length=cn))(hkn:Hid (ks.length=kn))(hQ:Q<9223372036854775808)(O:Option Addr)(os:List aG)(n c:Nat)(K:Option Addr)(hs:List (List Int))(m d:Nat)(hn:Hid (os.length=n))(hm:Hid (hs.length=m))(hI:Hid (∀k,k<n→dD (bz os k)))(hb1:n≤1000000)(hb2:m≤1000000)(i:Int)(HT:Kp (gJ os hs=true))(hr:Hid (pQ P Q G need cs ks=true))(h0:0≤i)(h:(n:Int)≤i)(w:World)(hv:Hid (Vars w))(hd0:Hid (bB w))(hC:Hid (Sl w Cs cs))(hK:Hid (Sl w Ks ks))(hO:Hid (Os w O os))(hH:Hid (Hs w K hs)) :
  Calls Tryz.prog 72 #[gv P Q G,jY need Cs cn cc Ks kn kc,iA O n c K m d, .int .i64 i] w (Rt w (.int .i64 7)):=by
 have e1:decide (i<0)=false:=by simp;omega
 have e2:decide ((n:Int)≤i)=true:=by simpa using h
 obtain⟨w0,HW,ai,kC⟩:=qD (bg P Q G) fq (.cells #[.int .i64 need, .slice Cs cn cc, .slice Ks kn kc] 26) fq (jC O n c K m d) qx w;have kO:=fo (fun u=>Os u O os) ai hO (·.below);have kH:=fo (fun u=>Hs u K hs) ai hH (·.below);have kD:=oF ai hd0;have jb:=mkS ai hC;have ja:=mkS ai hK;have kV:=mkV ai hv;have ah:=bI w0;clear hO hH hd0 hC hK hv;go_in
 go_upto_region 1 with(fail)
 rw[HW.out];have zc:=kC.out _ ah
 go_wp2_with fail
 clear zc;refine fe kC ah (jX O os n c K hs m d hn hm hI.out hb1 hb2 true HT _ (kD.out _ ah) (kO.out _ ah) (kH.out _ ah)) fun w1 ax zc=>?_
 go_wp2_with fail
 clear zc;refine fe kC ax (lI P Q G need Cs cs cn cc Ks ks kn kc hcn hkn true hr hQ _ (kV.out _ ax) (jb.out _ ax) (ja.out _ ax)) fun w2 az zc=>?_;go_wp2;go_ret;exact⟨rfl,f_ ai az⟩
theorem Tu (P Q G need:Int)(Cs:Option Addr)(cs:List Int)(cn cc:Nat)(Ks:Option Addr)(ks:List Int)(kn kc:Nat)(hcn:Hid (cs.length=cn))(hkn:Hid (ks.length=kn))(hQ:Q<9223372036854775808)(O:Option Addr)(os:List aG)(n c:Nat)(K:Option Addr)(hs:List (List Int))(m d:Nat)(hn:Hid (os.length=n))(hm:Hid (hs.length=m))(hI:Hid (∀k,k<n→dD (bz os k)))(hb1:n≤1000000)(hb2:m≤1000000)(i:Nat)(HT:Kp (gJ os hs=true))(hr:Hid (pQ P Q G need cs ks=true))(hi:i<n)(hk0:(bz os i).key=0)(w:World)(hv:Hid (Vars w))(hd0:Hid (bB w))(hC:Hid (Sl w Cs cs))(hK:Hid (Sl w Ks ks))(hO:Hid (Os w O os))(hH:Hid (Hs w K hs)) :
  Calls Tryz.prog 72 #[gv P Q G,jY need Cs cn cc Ks kn kc,iA O n c K m d, .int .i64 (i:Int)] w (Rt w (.int .i64 0)):=by
 have e1:decide ((i:Int)<0)=false:=by simp
 have e2:decide ((n:Int)≤(i:Int))=false:=by simp;omega
 obtain⟨w0,HW,ai,kC⟩:=qD (bg P Q G) fq (.cells #[.int .i64 need, .slice Cs cn cc, .slice Ks kn kc] 26) fq (jC O n c K m d) qx w;have kO:=fo (fun u=>Os u O os) ai hO (·.below);have kH:=fo (fun u=>Hs u K hs) ai hH (·.below);have kD:=oF ai hd0;have jb:=mkS ai hC;have ja:=mkS ai hK;have kV:=mkV ai hv;have ah:=bI w0;clear hO hH hd0 hC hK hv;obtain⟨bO,fO,BB,bF,hok⟩:=((kO.out _ ah)).out i (by rw[hn.out];exact hi);subst BB;obtain⟨o,hoe⟩:∃x,bz os i=x:=⟨_,rfl⟩;rw[show os.getD i dN=o from hoe]at bF hok;have jV:=aa hoe;have uB:=aa bF;have jy:=aa hok;clear bF hok hoe;rw[jV.out]at hk0;have e3:(o.key != 0)=false:=by simpa using hk0
 go_in
 go_upto_region 1 with(fail)
 rw[HW.out];have zc:=kC.out _ ah
 go_wp2_with fail
 clear zc;refine fe kC ah (jX _ os n c K hs m d hn hm hI.out hb1 hb2 true HT _ (kD.out _ ah) (kO.out _ ah) (kH.out _ ah)) fun w1 ax zc=>?_
 go_wp2_with fail
 clear zc;refine fe kC ax (lI P Q G need Cs cs cn cc Ks ks kn kc hcn hkn true hr hQ _ (kV.out _ ax) (jb.out _ ax) (ja.out _ ax)) fun w2 az zc=>?_;have z8:=cell_below uB.out.2.2.2.2.2.2.2.2 az.out;go_wp2;go_ret;exact⟨rfl,f_ ai az⟩
theorem Tt (P Q G need:Int)(Cs:Option Addr)(cs:List Int)(cn cc:Nat)(Ks:Option Addr)(ks:List Int)(kn kc:Nat)(hcn:Hid (cs.length=cn))(hkn:Hid (ks.length=kn))(hQ:Q<9223372036854775808)(O:Option Addr)(os:List aG)(n c:Nat)(K:Option Addr)(hs:List (List Int))(m d:Nat)(hn:Hid (os.length=n))(hm:Hid (hs.length=m))(hI:Hid (∀k,k<n→dD (bz os k)))(hb1:n≤1000000)(hb2:m≤1000000)(i:Nat)(HT:Kp (gJ os hs=true))(hr:Hid (pQ P Q G need cs ks=true))(hi:i<n)(hk0:(bz os i).key≠0)(w:World)(hv:Hid (Vars w))(hd0:Hid (bB w))(hC:Hid (Sl w Cs cs))(hK:Hid (Sl w Ks ks))(hO:Hid (Os w O os))(hH:Hid (Hs w K hs)) :
  Calls Tryz.prog 72 #[gv P Q G,jY need Cs cn cc Ks kn kc,iA O n c K m d, .int .i64 (i:Int)] w (Rt w (.int .i64 6)):=by
 have e1:decide ((i:Int)<0)=false:=by simp
 have e2:decide ((n:Int)≤(i:Int))=false:=by simp;omega
 obtain⟨w0,HW,ai,kC⟩:=qD (bg P Q G) fq (.cells #[.int .i64 need, .slice Cs cn cc, .slice Ks kn kc] 26) fq (jC O n c K m d) qx w;have kO:=fo (fun u=>Os u O os) ai hO (·.below);have kH:=fo (fun u=>Hs u K hs) ai hH (·.below);have kD:=oF ai hd0;have jb:=mkS ai hC;have ja:=mkS ai hK;have kV:=mkV ai hv;have ah:=bI w0;clear hO hH hd0 hC hK hv;obtain⟨bO,fO,BB,bF,hok⟩:=((kO.out _ ah)).out i (by rw[hn.out];exact hi);subst BB;obtain⟨o,hoe⟩:∃x,bz os i=x:=⟨_,rfl⟩;rw[show os.getD i dN=o from hoe]at bF hok;have jV:=aa hoe;have uB:=aa bF;have jy:=aa hok;clear bF hok hoe;rw[jV.out]at hk0;have e3:(o.key != 0)=true:=by simpa using hk0
 go_in
 go_upto_region 1 with(fail)
 rw[HW.out];have zc:=kC.out _ ah
 go_wp2_with fail
 clear zc;refine fe kC ah (jX _ os n c K hs m d hn hm hI.out hb1 hb2 true HT _ (kD.out _ ah) (kO.out _ ah) (kH.out _ ah)) fun w1 ax zc=>?_
 go_wp2_with fail
 clear zc;refine fe kC ax (lI P Q G need Cs cs cn cc Ks ks kn kc hcn hkn true hr hQ _ (kV.out _ ax) (jb.out _ ax) (ja.out _ ax)) fun w2 az zc=>?_;have z8:=cell_below uB.out.2.2.2.2.2.2.2.2 az.out;go_wp2;go_ret;exact⟨rfl,f_ ai az⟩
theorem qM (P Q G need:Int)(Cs:Option Addr)(cs:List Int)(cn cc:Nat)(Ks:Option Addr)(ks:List Int)(kn kc:Nat)(hcn:Hid (cs.length=cn))(hkn:Hid (ks.length=kn))(hQ:Q<9223372036854775808)(O:Option Addr)(os:List aG)(n c:Nat)(K:Option Addr)(hs:List (List Int))(m d:Nat)(hn:Hid (os.length=n))(hm:Hid (hs.length=m))(hI:Hid (∀k,k<n→dD (bz os k)))(hb1:n≤1000000)(hb2:m≤1000000)(i:Int)(r:Int)(hr:Hid (Iw P Q G need cs ks os hs n i=r))(w:World)(hv:Hid (Vars w))(hd0:Hid (bB w))(hC:Hid (Sl w Cs cs))(hK:Hid (Sl w Ks ks))(hO:Hid (Os w O os))(hH:Hid (Hs w K hs)) :
  Calls Tryz.prog 72 #[gv P Q G,jY need Cs cn cc Ks kn kc,iA O n c K m d, .int .i64 i] w (Rt w (.int .i64 r)):=by
 have hr1:=hr.out;unfold Iw at hr1
 cases h2:pQ P Q G need cs ks with
 | false=>
  have hr2:r=1:=by rw[←hr1,h2];split <;> rfl
  subst hr2
  cases h1:gJ os hs with
  | false=>exact KY P Q G need Cs cs cn cc Ks ks kn kc hcn hkn hQ O os n c K hs m d hn hm hI hb1 hb2 i ⟨h1⟩ w hv hd0 hC hK hO hH
  | true=>exact Tw P Q G need Cs cs cn cc Ks ks kn kc hcn hkn hQ O os n c K hs m d hn hm hI hb1 hb2 i ⟨h1⟩ (aa h2) w hv hd0 hC hK hO hH
 | true=>
  cases h1:gJ os hs with
  | false=>
   have hr2:r=1:=by rw[←hr1,h1];rfl
   subst hr2;exact KY P Q G need Cs cs cn cc Ks ks kn kc hcn hkn hQ O os n c K hs m d hn hm hI hb1 hb2 i ⟨h1⟩ w hv hd0 hC hK hO hH
  | true=>
   rw[h1,h2]at hr1
   by_cases h3:i<0
   ·
    rw[if_neg (by simp),if_neg (by simp),if_pos h3]at hr1;subst hr1;exact given_3 P Q G need Cs cs cn cc Ks ks kn kc hcn hkn hQ O os n c K hs m d hn hm hI hb1 hb2 i ⟨h1⟩ (aa h2) h3 w hv hd0 hC hK hO hH
   ·
    by_cases h4:(n:Int)≤i
    ·
     rw[if_neg (by simp),if_neg (by simp),if_neg h3,if_pos h4]at hr1;subst hr1;exact Tv P Q G need Cs cs cn cc Ks ks kn kc hcn hkn hQ O os n c K hs m d hn hm hI hb1 hb2 i ⟨h1⟩ (aa h2) (by omega) h4 w hv hd0 hC hK hO hH
    ·
     obtain⟨k,rfl⟩:∃k:Nat,i=(k:Int):=⟨i.toNat,by omega⟩;rw[if_neg (by simp),if_neg (by simp),if_neg h3,if_neg h4,Int.toNat_natCast]at hr1
     by_cases h5:(bz os k).key=0
     ·
      rw[if_pos h5]at hr1;subst hr1;exact Tu P Q G need Cs cs cn cc Ks ks kn kc hcn hkn hQ O os n c K hs m d hn hm hI hb1 hb2 k ⟨h1⟩ (aa h2) (by omega) h5 w hv hd0 hC hK hO hH
     ·
      rw[if_neg h5]at hr1;subst hr1;exact Tt P Q G need Cs cs cn cc Ks ks kn kc hcn hkn hQ O os n c K hs m d hn hm hI hb1 hb2 k ⟨h1⟩ (aa h2) (by omega) h5 w hv hd0 hC hK hO hH
theorem TE (P Q G need:Int)(Cs:Option Addr)(cs:List Int)(cn cc:Nat)(Ks:Option Addr)(ks:List Int)(kn kc:Nat)(hcn:Hid (cs.length=cn))(hkn:Hid (ks.length=kn))(hQ:Q<9223372036854775808)(O:Option Addr)(os:List aG)(n c:Nat)(K:Option Addr)(hs:List (List Int))(m d:Nat)(hn:Hid (os.length=n))(hm:Hid (hs.length=m))(hI:Hid (∀k,k<n→dD (bz os k)))(hb1:n≤1000000)(hb2:m≤1000000)(i:Int)(HT:Kp (gJ os hs=false))(hr:Hid (pQ P Q G need cs ks=true))(w:World)(hv:Hid (Vars w))(hd0:Hid (bB w))(hC:Hid (Sl w Cs cs))(hK:Hid (Sl w Ks ks))(hO:Hid (Os w O os))(hH:Hid (Hs w K hs)) :
  Calls Tryz.prog 77 #[gv P Q G,jY need Cs cn cc Ks kn kc,iA O n c K m d, .int .i64 i] w (Rt w (.int .i64 1)):=by
 obtain⟨w0,HW,ai,kC⟩:=qD (bg P Q G) fq (.cells #[.int .i64 need, .slice Cs cn cc, .slice Ks kn kc] 26) fq (jC O n c K m d) qx w;have kO:=fo (fun u=>Os u O os) ai hO (·.below);have kH:=fo (fun u=>Hs u K hs) ai hH (·.below);have kD:=oF ai hd0;have jb:=mkS ai hC;have ja:=mkS ai hK;have kV:=mkV ai hv;have ah:=bI w0;clear hO hH hd0 hC hK hv;go_in
 go_upto_region 1 with(fail)
 rw[HW.out];have zc:=kC.out _ ah
 go_wp2_with fail
 clear zc;refine fe kC ah (jZ P Q G need Cs cs cn cc Ks ks kn kc hcn hkn true hr hQ _ (jb.out _ ah) (ja.out _ ah)) fun w1 ax zc=>?_
 go_wp2_with fail
 clear zc;refine fe kC ax (qG O os n c K hs m d hn hm hI.out hb1 hb2 false HT _ (kD.out _ ax) (kO.out _ ax) (kH.out _ ax)) fun w2 az zc=>?_;go_wp2;go_ret;exact⟨rfl,f_ ai az⟩
theorem K3 (P Q G need:Int)(Cs:Option Addr)(cs:List Int)(cn cc:Nat)(Ks:Option Addr)(ks:List Int)(kn kc:Nat)(hcn:Hid (cs.length=cn))(hkn:Hid (ks.length=kn))(hQ:Q<9223372036854775808)(O:Option Addr)(os:List aG)(n c:Nat)(K:Option Addr)(hs:List (List Int))(m d:Nat)(hn:Hid (os.length=n))(hm:Hid (hs.length=m))(hI:Hid (∀k,k<n→dD (bz os k)))(hb1:n≤1000000)(hb2:m≤1000000)(i:Int)(hr:Hid (pQ P Q G need cs ks=false))(w:World)(hv:Hid (Vars w))(hd0:Hid (bB w))(hC:Hid (Sl w Cs cs))(hK:Hid (Sl w Ks ks))(hO:Hid (Os w O os))(hH:Hid (Hs w K hs)) :
  Calls Tryz.prog 77 #[gv P Q G,jY need Cs cn cc Ks kn kc,iA O n c K m d, .int .i64 i] w (Rt w (.int .i64 1)):=by
 obtain⟨w0,HW,ai,kC⟩:=qD (bg P Q G) fq (.cells #[.int .i64 need, .slice Cs cn cc, .slice Ks kn kc] 26) fq (jC O n c K m d) qx w;have kO:=fo (fun u=>Os u O os) ai hO (·.below);have kH:=fo (fun u=>Hs u K hs) ai hH (·.below);have kD:=oF ai hd0;have jb:=mkS ai hC;have ja:=mkS ai hK;have kV:=mkV ai hv;have ah:=bI w0;clear hO hH hd0 hC hK hv;go_in
 go_upto_region 1 with(fail)
 rw[HW.out];have zc:=kC.out _ ah
 go_wp2_with fail
 clear zc;refine fe kC ah (jZ P Q G need Cs cs cn cc Ks ks kn kc hcn hkn false hr hQ _ (jb.out _ ah) (ja.out _ ah)) fun w1 ax zc=>?_;go_wp2;go_ret;exact⟨rfl,f_ ai ax⟩
theorem TD (P Q G need:Int)(Cs:Option Addr)(cs:List Int)(cn cc:Nat)(Ks:Option Addr)(ks:List Int)(kn kc:Nat)(hcn:Hid (cs.length=cn))(hkn:Hid (ks.length=kn))(hQ:Q<9223372036854775808)(O:Option Addr)(os:List aG)(n c:Nat)(K:Option Addr)(hs:List (List Int))(m d:Nat)(hn:Hid (os.length=n))(hm:Hid (hs.length=m))(hI:Hid (∀k,k<n→dD (bz os k)))(hb1:n≤1000000)(hb2:m≤1000000)(i:Int)(HT:Kp (gJ os hs=true))(hr:Hid (pQ P Q G need cs ks=true))(h:i<0)(w:World)(hv:Hid (Vars w))(hd0:Hid (bB w))(hC:Hid (Sl w Cs cs))(hK:Hid (Sl w Ks ks))(hO:Hid (Os w O os))(hH:Hid (Hs w K hs)) :
  Calls Tryz.prog 77 #[gv P Q G,jY need Cs cn cc Ks kn kc,iA O n c K m d, .int .i64 i] w (Rt w (.int .i64 7)):=by
 have e1:decide (i<0)=true:=by simpa using h
 obtain⟨w0,HW,ai,kC⟩:=qD (bg P Q G) fq (.cells #[.int .i64 need, .slice Cs cn cc, .slice Ks kn kc] 26) fq (jC O n c K m d) qx w;have kO:=fo (fun u=>Os u O os) ai hO (·.below);have kH:=fo (fun u=>Hs u K hs) ai hH (·.below);have kD:=oF ai hd0;have jb:=mkS ai hC;have ja:=mkS ai hK;have kV:=mkV ai hv;have ah:=bI w0;clear hO hH hd0 hC hK hv;go_in
 go_upto_region 1 with(fail)
 rw[HW.out];have zc:=kC.out _ ah
 go_wp2_with fail
 clear zc;refine fe kC ah (jZ P Q G need Cs cs cn cc Ks ks kn kc hcn hkn true hr hQ _ (jb.out _ ah) (ja.out _ ah)) fun w1 ax zc=>?_
 go_wp2_with fail
 clear zc;refine fe kC ax (qG O os n c K hs m d hn hm hI.out hb1 hb2 true HT _ (kD.out _ ax) (kO.out _ ax) (kH.out _ ax)) fun w2 az zc=>?_;go_wp2;go_ret;exact⟨rfl,f_ ai az⟩
theorem TC (P Q G need:Int)(Cs:Option Addr)(cs:List Int)(cn cc:Nat)(Ks:Option Addr)(ks:List Int)(kn kc:Nat)(hcn:Hid (cs.length=cn))(hkn:Hid (ks.length=kn))(hQ:Q<9223372036854775808)(O:Option Addr)(os:List aG)(n c:Nat)(K:Option Addr)(hs:List (List Int))(m d:Nat)(hn:Hid (os.length=n))(hm:Hid (hs.length=m))(hI:Hid (∀k,k<n→dD (bz os k)))(hb1:n≤1000000)(hb2:m≤1000000)(i:Int)(HT:Kp (gJ os hs=true))(hr:Hid (pQ P Q G need cs ks=true))(h0:0≤i)(h:(n:Int)≤i)(w:World)(hv:Hid (Vars w))(hd0:Hid (bB w))(hC:Hid (Sl w Cs cs))(hK:Hid (Sl w Ks ks))(hO:Hid (Os w O os))(hH:Hid (Hs w K hs)) :
  Calls Tryz.prog 77 #[gv P Q G,jY need Cs cn cc Ks kn kc,iA O n c K m d, .int .i64 i] w (Rt w (.int .i64 7)):=by
 have e1:decide (i<0)=false:=by simp;omega
 have e2:decide ((n:Int)≤i)=true:=by simpa using h
 obtain⟨w0,HW,ai,kC⟩:=qD (bg P Q G) fq (.cells #[.int .i64 need, .slice Cs cn cc, .slice Ks kn kc] 26) fq (jC O n c K m d) qx w;have kO:=fo (fun u=>Os u O os) ai hO (·.below);have kH:=fo (fun u=>Hs u K hs) ai hH (·.below);have kD:=oF ai hd0;have jb:=mkS ai hC;have ja:=mkS ai hK;have kV:=mkV ai hv;have ah:=bI w0;clear hO hH hd0 hC hK hv;go_in
 go_upto_region 1 with(fail)
 rw[HW.out];have zc:=kC.out _ ah
 go_wp2_with fail
 clear zc;refine fe kC ah (jZ P Q G need Cs cs cn cc Ks ks kn kc hcn hkn true hr hQ _ (jb.out _ ah) (ja.out _ ah)) fun w1 ax zc=>?_
 go_wp2_with fail
 clear zc;refine fe kC ax (qG O os n c K hs m d hn hm hI.out hb1 hb2 true HT _ (kD.out _ ax) (kO.out _ ax) (kH.out _ ax)) fun w2 az zc=>?_;go_wp2;go_ret;exact⟨rfl,f_ ai az⟩
theorem TB (P Q G need:Int)(Cs:Option Addr)(cs:List Int)(cn cc:Nat)(Ks:Option Addr)(ks:List Int)(kn kc:Nat)(hcn:Hid (cs.length=cn))(hkn:Hid (ks.length=kn))(hQ:Q<9223372036854775808)(O:Option Addr)(os:List aG)(n c:Nat)(K:Option Addr)(hs:List (List Int))(m d:Nat)(hn:Hid (os.length=n))(hm:Hid (hs.length=m))(hI:Hid (∀k,k<n→dD (bz os k)))(hb1:n≤1000000)(hb2:m≤1000000)(i:Nat)(HT:Kp (gJ os hs=true))(hr:Hid (pQ P Q G need cs ks=true))(hi:i<n)(hk0:(bz os i).key=0)(w:World)(hv:Hid (Vars w))(hd0:Hid (bB w))(hC:Hid (Sl w Cs cs))(hK:Hid (Sl w Ks ks))(hO:Hid (Os w O os))(hH:Hid (Hs w K hs)) :
  Calls Tryz.prog 77 #[gv P Q G,jY need Cs cn cc Ks kn kc,iA O n c K m d, .int .i64 (i:Int)] w (Rt w (.int .i64 0)):=by
 have e1:decide ((i:Int)<0)=false:=by simp
 have e2:decide ((n:Int)≤(i:Int))=false:=by simp;omega
 obtain⟨w0,HW,ai,kC⟩:=qD (bg P Q G) fq (.cells #[.int .i64 need, .slice Cs cn cc, .slice Ks kn kc] 26) fq (jC O n c K m d) qx w;have kO:=fo (fun u=>Os u O os) ai hO (·.below);have kH:=fo (fun u=>Hs u K hs) ai hH (·.below);have kD:=oF ai hd0;have jb:=mkS ai hC;have ja:=mkS ai hK;have kV:=mkV ai hv;have ah:=bI w0;clear hO hH hd0 hC hK hv;obtain⟨bO,fO,BB,bF,hok⟩:=((kO.out _ ah)).out i (by rw[hn.out];exact hi);subst BB;obtain⟨o,hoe⟩:∃x,bz os i=x:=⟨_,rfl⟩;rw[show os.getD i dN=o from hoe]at bF hok;have jV:=aa hoe;have uB:=aa bF;have jy:=aa hok;clear bF hok hoe;rw[jV.out]at hk0;have e3:(o.key != 0)=false:=by simpa using hk0
 go_in
 go_upto_region 1 with(fail)
 rw[HW.out];have zc:=kC.out _ ah
 go_wp2_with fail
 clear zc;refine fe kC ah (jZ P Q G need Cs cs cn cc Ks ks kn kc hcn hkn true hr hQ _ (jb.out _ ah) (ja.out _ ah)) fun w1 ax zc=>?_
 go_wp2_with fail
 clear zc;refine fe kC ax (qG _ os n c K hs m d hn hm hI.out hb1 hb2 true HT _ (kD.out _ ax) (kO.out _ ax) (kH.out _ ax)) fun w2 az zc=>?_;have z8:=cell_below uB.out.2.2.2.2.2.2.2.2 az.out;go_wp2;go_ret;exact⟨rfl,f_ ai az⟩
theorem TA (P Q G need:Int)(Cs:Option Addr)(cs:List Int)(cn cc:Nat)(Ks:Option Addr)(ks:List Int)(kn kc:Nat)(hcn:Hid (cs.length=cn))(hkn:Hid (ks.length=kn))(hQ:Q<9223372036854775808)(O:Option Addr)(os:List aG)(n c:Nat)(K:Option Addr)(hs:List (List Int))(m d:Nat)(hn:Hid (os.length=n))(hm:Hid (hs.length=m))(hI:Hid (∀k,k<n→dD (bz os k)))(hb1:n≤1000000)(hb2:m≤1000000)(i:Nat)(HT:Kp (gJ os hs=true))(hr:Hid (pQ P Q G need cs ks=true))(hi:i<n)(hk0:(bz os i).key≠0)(w:World)(hv:Hid (Vars w))(hd0:Hid (bB w))(hC:Hid (Sl w Cs cs))(hK:Hid (Sl w Ks ks))(hO:Hid (Os w O os))(hH:Hid (Hs w K hs)) :
  Calls Tryz.prog 77 #[gv P Q G,jY need Cs cn cc Ks kn kc,iA O n c K m d, .int .i64 (i:Int)] w (Rt w (.int .i64 6)):=by
 have e1:decide ((i:Int)<0)=false:=by simp
 have e2:decide ((n:Int)≤(i:Int))=false:=by simp;omega
 obtain⟨w0,HW,ai,kC⟩:=qD (bg P Q G) fq (.cells #[.int .i64 need, .slice Cs cn cc, .slice Ks kn kc] 26) fq (jC O n c K m d) qx w;have kO:=fo (fun u=>Os u O os) ai hO (·.below);have kH:=fo (fun u=>Hs u K hs) ai hH (·.below);have kD:=oF ai hd0;have jb:=mkS ai hC;have ja:=mkS ai hK;have kV:=mkV ai hv;have ah:=bI w0;clear hO hH hd0 hC hK hv;obtain⟨bO,fO,BB,bF,hok⟩:=((kO.out _ ah)).out i (by rw[hn.out];exact hi);subst BB;obtain⟨o,hoe⟩:∃x,bz os i=x:=⟨_,rfl⟩;rw[show os.getD i dN=o from hoe]at bF hok;have jV:=aa hoe;have uB:=aa bF;have jy:=aa hok;clear bF hok hoe;rw[jV.out]at hk0;have e3:(o.key != 0)=true:=by simpa using hk0
 go_in
 go_upto_region 1 with(fail)
 rw[HW.out];have zc:=kC.out _ ah
 go_wp2_with fail
 clear zc;refine fe kC ah (jZ P Q G need Cs cs cn cc Ks ks kn kc hcn hkn true hr hQ _ (jb.out _ ah) (ja.out _ ah)) fun w1 ax zc=>?_
 go_wp2_with fail
 clear zc;refine fe kC ax (qG _ os n c K hs m d hn hm hI.out hb1 hb2 true HT _ (kD.out _ ax) (kO.out _ ax) (kH.out _ ax)) fun w2 az zc=>?_;have z8:=cell_below uB.out.2.2.2.2.2.2.2.2 az.out;go_wp2;go_ret;exact⟨rfl,f_ ai az⟩
theorem qO (P Q G need:Int)(Cs:Option Addr)(cs:List Int)(cn cc:Nat)(Ks:Option Addr)(ks:List Int)(kn kc:Nat)(hcn:Hid (cs.length=cn))(hkn:Hid (ks.length=kn))(hQ:Q<9223372036854775808)(O:Option Addr)(os:List aG)(n c:Nat)(K:Option Addr)(hs:List (List Int))(m d:Nat)(hn:Hid (os.length=n))(hm:Hid (hs.length=m))(hI:Hid (∀k,k<n→dD (bz os k)))(hb1:n≤1000000)(hb2:m≤1000000)(i:Int)(r:Int)(hr:Hid (Iw P Q G need cs ks os hs n i=r))(w:World)(hv:Hid (Vars w))(hd0:Hid (bB w))(hC:Hid (Sl w Cs cs))(hK:Hid (Sl w Ks ks))(hO:Hid (Os w O os))(hH:Hid (Hs w K hs)) :
  Calls Tryz.prog 77 #[gv P Q G,jY need Cs cn cc Ks kn kc,iA O n c K m d, .int .i64 i] w (Rt w (.int .i64 r)):=by
 have hr1:=hr.out;unfold Iw at hr1
 cases h2:pQ P Q G need cs ks with
 | false=>
  have hr2:r=1:=by rw[←hr1,h2];split <;> rfl
  subst hr2
  cases h1:gJ os hs with
  | false=>exact K3 P Q G need Cs cs cn cc Ks ks kn kc hcn hkn hQ O os n c K hs m d hn hm hI hb1 hb2 i (aa h2) w hv hd0 hC hK hO hH
  | true=>exact K3 P Q G need Cs cs cn cc Ks ks kn kc hcn hkn hQ O os n c K hs m d hn hm hI hb1 hb2 i (aa h2) w hv hd0 hC hK hO hH
 | true=>
  cases h1:gJ os hs with
  | false=>
   have hr2:r=1:=by rw[←hr1,h1];rfl
   subst hr2;exact TE P Q G need Cs cs cn cc Ks ks kn kc hcn hkn hQ O os n c K hs m d hn hm hI hb1 hb2 i ⟨h1⟩ (aa h2) w hv hd0 hC hK hO hH
  | true=>
   rw[h1,h2]at hr1
   by_cases h3:i<0
   ·
    rw[if_neg (by simp),if_neg (by simp),if_pos h3]at hr1;subst hr1;exact TD P Q G need Cs cs cn cc Ks ks kn kc hcn hkn hQ O os n c K hs m d hn hm hI hb1 hb2 i ⟨h1⟩ (aa h2) h3 w hv hd0 hC hK hO hH
   ·
    by_cases h4:(n:Int)≤i
    ·
     rw[if_neg (by simp),if_neg (by simp),if_neg h3,if_pos h4]at hr1;subst hr1;exact TC P Q G need Cs cs cn cc Ks ks kn kc hcn hkn hQ O os n c K hs m d hn hm hI hb1 hb2 i ⟨h1⟩ (aa h2) (by omega) h4 w hv hd0 hC hK hO hH
    ·
     obtain⟨k,rfl⟩:∃k:Nat,i=(k:Int):=⟨i.toNat,by omega⟩;rw[if_neg (by simp),if_neg (by simp),if_neg h3,if_neg h4,Int.toNat_natCast]at hr1
     by_cases h5:(bz os k).key=0
     ·
      rw[if_pos h5]at hr1;subst hr1;exact TB P Q G need Cs cs cn cc Ks ks kn kc hcn hkn hQ O os n c K hs m d hn hm hI hb1 hb2 k ⟨h1⟩ (aa h2) (by omega) h5 w hv hd0 hC hK hO hH
     ·
      rw[if_neg h5]at hr1;subst hr1;exact TA P Q G need Cs cs cn cc Ks ks kn kc hcn hkn hQ O os n c K hs m d hn hm hI hb1 hb2 k ⟨h1⟩ (aa h2) (by omega) h5 w hv hd0 hC hK hO hH
def qA (D:Nat→Prop)(w:World)(φ:World→Prop):Prop:=∀w':World,(∀b,b<w.heap.size→¬D b→w'.heap[b]? = w.heap[b]?)→φ w'
section
variable {D D' : Nat → Prop} {w w' : World} {φ ψ : World → Prop}
theorem qA.self (h:qA D w φ):φ w:=h w fun _ _ _=>rfl
theorem qA.step (h:qA D w φ)(hz:w.heap.size≤w'.heap.size)(hch:∀b,b<w.heap.size→¬D b→w'.heap[b]? = w.heap[b]?)(hD:∀b,b<w.heap.size→D' b→D b):qA D' w' φ:=
 fun w2 h2=>h w2 fun b hb hn=>(h2 b (Nat.lt_of_lt_of_le hb hz) (fun e=>hn (hD b hb e))).trans (hch b hb hn)
theorem qA.below (h:qA D w φ)(hb:Below w.heap.size w w'):qA D w' φ:=h.step hb.size (fun b q _=>hb.block b q) (fun _ _ e=>e)
theorem qA.shrink (h:qA D w φ)(hD:∀b,b<w.heap.size→D' b→D b):qA D' w φ:=h.step (Nat.le_refl _) (fun _ _ _=>rfl) hD
theorem qA.imp (h:qA D w φ)(hi:∀u,φ u→ψ u):qA D w ψ:=fun u hu=>hi u (h u hu)
theorem qA.and (h:qA D w φ)(h2:qA D w ψ):qA D w (fun u=>φ u∧ψ u):=fun u hu=>⟨h u hu,h2 u hu⟩
theorem qA.grown {row:Option Nat} (h:qA D w φ)(hg:w.grownBy w' row)(hr:∀b,row=some b→D b)(hD:∀b,b<w.heap.size→D' b→D b):qA D' w' φ:=
 h.step hg.size (fun b q hn=>hg.block b q (fun e=>hn (hr b e.symm))) hD
theorem qA.setCell {a j:Nat} {v:Value} (h:qA D w φ)(ha:D a):qA D (w.setCell ⟨a,j,none⟩ v) φ:=
 h.step (by rw[World.size_setCell];exact Nat.le_refl _) (fun b q hn=>Go.Deep.blk_setCell_other _ _ _ _ (fun e=>hn (by rw[e];exact ha))) (fun _ _ e=>e)
theorem qA.setRow {a:Nat} {cs:Array Value} (h:qA D w φ)(ha:D a):qA D (w.setRow a cs) φ:=
 h.step (by simp[World.setRow]) (fun b q hn=>setRow_other w a b cs (fun e=>hn (by rw[e];exact ha))) (fun _ _ e=>e)
theorem A7 {A:Option Addr} {xs:List Int} (h:Sl w A xs)(hA:∀b o,A=some ⟨b,o,none⟩→0<xs.length→¬D b):qA D w (fun u=>Sl u A xs):=fun w' h' k hk=>by
 obtain⟨b,o,rfl,hc⟩:=h k hk;exact⟨b,o,rfl,(mJ (h' b (World.block_lt_of_cell? _ _ hc) (hA b o rfl (by omega)))).trans hc⟩
end
structure wm (p p':aS):Prop where
 ix:p'.ix=p.ix
 v:p'.v=p.v
 na:p'.na=p.na
 al:p'.al=p.al
 C:p'.C=p.C
 nz:p'.nz=p.nz
 zs:p'.zs=p.zs
theorem wm.rfl' (p:aS):wm p p:=⟨rfl,rfl,rfl,rfl,rfl,rfl,rfl⟩
theorem wm.it {p p':aS} (h:wm p p'):Ci p'=Ci p:=by rw[Ci,Ci,h.ix,h.v,h.al,h.C,h.zs]
theorem wm.i {p p':aS} (h:wm p p')(hi:BS p):BS p':=by
 obtain⟨h1,h2,h3,h4,h5⟩:=hi;exact⟨by rw[h.ix];exact h1,by rw[h.v];exact h2,by rw[h.C];exact h3,by rw[h.al];exact h4,by rw[h.zs];exact h5⟩
structure qR (o o':aG):Prop where
 num:o'.num=o.num
 rs:o'.rs=o.rs
 E1:o'.E1=o.E1
 E2:o'.E2=o.E2
 na:o'.na=o.na
 al:o'.al=o.al
 C:o'.C=o.C
 nz:o'.nz=o.nz
 zs:o'.zs=o.zs
 np:o'.np=o.np
 key:o'.key=o.key
 ln:o'.ps.length=o.ps.length
 p:∀k,k<o.ps.length→wm (o.ps.getD k aC) (o'.ps.getD k aC)
theorem Ty {ps:List aS} {k:Nat} (h:k<ps.length):ps.getD k aC=ps[k]:=by
 rw[List.getD_eq_getElem?_getD,List.getElem?_eq_getElem h];rfl
theorem Sy {ps ps':List aS} (hl:ps'.length=ps.length)(h:∀k,k<ps.length→wm (ps.getD k aC) (ps'.getD k aC)):ps'.map Ci=ps.map Ci:=by
 refine List.ext_getElem (by simp[hl]) fun k h1 h2=>?_;have hk:k<ps.length:=by simpa using h2
 have h9:=(h k hk).it;rw[Ty hk,Ty (by rw[hl];exact hk)]at h9;rw[List.getElem_map,List.getElem_map];exact h9
theorem KF {ps ps':List aS} (hl:ps'.length=ps.length)(h:∀k,k<ps.length→wm (ps.getD k aC) (ps'.getD k aC)) {p':aS} (hp:p'∈ps'):∃p,p∈ps∧wm p p':=by
 obtain⟨k,hk,rfl⟩:=List.getElem_of_mem hp;have hk2:k<ps.length:=by rw[←hl];exact hk
 have h9:=h k hk2;rw[Ty hk2,Ty hk]at h9;exact⟨_,List.getElem_mem hk2,h9⟩
theorem qR.it {o o':aG} (h:qR o o'):xJ o'=xJ o:=by rw[xJ,xJ,h.num,h.rs,h.E1,h.E2,h.al,h.C,h.zs,h.key,Sy h.ln h.p]
theorem qR.s {o o':aG} (h:qR o o')(hs:fE o):fE o':=
 ⟨by rw[h.al];exact hs.a,by rw[h.zs];exact hs.z,by rw[h.ln];exact hs.n,fun p' hp=>by
  obtain⟨p,hp2,hq⟩:=KF h.ln h.p hp;rw[hq.al,hq.zs]
  exact hs.p p hp2,by rw[h.rs];exact hs.r0,by rw[h.rs];exact hs.r1⟩
theorem qR.i {o o':aG} (h:qR o o')(hi:dD o):dD o':=by
 obtain⟨h1,h2,h3,h4,h5,h6,h7,h8⟩:=hi;refine⟨by rw[h.num];exact h1,by rw[h.E1];exact h2,by rw[h.E2];exact h3,by rw[h.C];exact h4,by rw[h.key];exact h5,by rw[h.al];exact h6,by rw[h.zs];exact h7,fun p' hp=>?_⟩;obtain⟨p,hp2,hq⟩:=KF h.ln h.p hp;exact hq.i (h8 p hp2)
theorem qR.rfl' (o:aG):qR o o:=⟨rfl,rfl,rfl,rfl,rfl,rfl,rfl,rfl,rfl,rfl,rfl,rfl,fun k _=>wm.rfl' _⟩
theorem RL (o:aG)(L:Option Addr)(c:Nat):qR o (V3 o L c):=⟨rfl,rfl,rfl,rfl,rfl,rfl,rfl,rfl,rfl,rfl,rfl,rfl,fun k _=>wm.rfl' _⟩
structure yU (base:Nat) (D:Nat→Prop) (w:World) (o:aG):Prop where
 la:o.al.length=o.na
 lz:o.zs.length=o.nz
 lp:o.ps.length=o.np
 cp:o.np≤o.cp
 dA:qA D w (fun u=>Sl u o.A o.al)
 dZ:qA D w (fun u=>Sl u o.Z o.zs)
 dP:qA D w (fun u=>∀k,k<o.ps.length→yT u (o.ps.getD k aC))
 row:w.ownsRow base 56 5 (.slice o.L o.np o.cp) o.np (o.ps.flatMap xz)
theorem Ot {w:World} {base n c:Nat} {L:Option Addr} {ps:List aS} (hl:ps.length=n)(hr:w.ownsRow base 56 5 (.slice L n c) n (ps.flatMap xz))(hok:∀k,k<ps.length→yT w (ps.getD k aC)):Pa w L ps:=fun k hk=>by
 obtain⟨g,cap,e,_,_,_,_,hc⟩:=uH xz 5 aC hr hl (fun _ _=>rfl) (by omega)
 cases e
 have h9:=hc k (by omega);refine⟨g,0,rfl, ?_, ?_, ?_, ?_, ?_,hok k hk⟩
 · rw[Nat.zero_add];exact h9 0 (by decide)
 · rw[Nat.zero_add];exact h9 1 (by decide)
 · rw[Nat.zero_add];exact h9 2 (by decide)
 · rw[Nat.zero_add];exact h9 3 (by decide)
 · rw[Nat.zero_add];exact h9 4 (by decide)
theorem yU.ok {base:Nat} {D:Nat→Prop} {w:World} {o:aG} (h:yU base D w o):dM w o:=
 ⟨h.la,h.lz,⟨h.lp,h.cp⟩,h.dA.self,h.dZ.self,Ot h.lp h.row h.dP.self⟩
theorem yU.dep {base:Nat} {D D':Nat→Prop} {w:World} {o:aG} (h:yU base D w o)(hD:∀b,b<w.heap.size→D' b→D b)(hL:∀b,(Value.slice o.L o.np o.cp).ownBlock=some b→¬D' b):qA D' w (fun u=>dM u o):=fun w' h'=>
 ⟨h.la,h.lz,⟨h.lp,h.cp⟩,(h.dA.shrink hD) w' h',(h.dZ.shrink hD) w' h',by
  refine Ot (base:=base) (c:=o.cp) h.lp ⟨h.row.1, ?_⟩ ((h.dP.shrink hD) w' h');rcases h.row.2 with e | ⟨g,cap,cur,e,hg,hh,rest⟩
  · exact .inl e
  ·
   refine .inr ⟨g,cap,cur,e,hg, ?_,rest⟩;refine(h' g (Array.getElem?_eq_some_iff.1 hh).1 (hL g ?_)).trans hh
   rw[e];rfl⟩
theorem yU.step {base:Nat} {D D':Nat→Prop} {w w':World} {o:aG} (h:yU base D w o)(hz:w.heap.size≤w'.heap.size)(hch:∀b,b<w.heap.size→¬D b→w'.heap[b]? = w.heap[b]?)(hD:∀b,b<w.heap.size→D' b→D b)(hrow:∀b,(Value.slice o.L o.np o.cp).ownBlock=some b→w'.heap[b]? = w.heap[b]?):yU base D' w' o:=
 ⟨h.la,h.lz,h.lp,h.cp,h.dA.step hz hch hD,h.dZ.step hz hch hD,h.dP.step hz hch hD,h.row.1,by
  rcases h.row.2 with e | ⟨g,cap,cur,e,hg,hh,rest⟩
  · exact .inl e
  · exact .inr ⟨g,cap,cur,e,hg,(hrow g (by rw[e];rfl)).trans hh,rest⟩⟩
def abp (hs:List (List Int))(m:Nat)(w:World)(e:Ending)(w':World):Prop:=∃K d,e = .returned (.slice K m d)∧w'.ownsRow w.heap.size 41 32 (.slice K m d) m (hs.flatMap nA)∧Below w.heap.size w w'
theorem JL (K:Option Addr)(hs:List (List Int))(m d:Nat)(hm:Hid (hs.length=m))(hb:m≤1000000)(w:World)(hK:Hid (Hs w K hs)) :
  Calls Tryz.prog 128 #[.slice K m d] w (abp hs m w):=by
 have hq:∀(w:World) (a:Option Addr) (n c n' c':Nat),(binOp .eql 50 (.slice a n c) (.slice none n' c')).run Tryz.prog w = .ok (.bool a.isNone) w:=fun w a n c n' c'=>Lib.run_eql_slice_nil w _ _ a n c n' c' Tryz.underlying50
 cases K with
 | none=>
  have h0:m=0:=by
   refine Nat.eq_zero_of_not_pos fun h=>?_;obtain⟨b,o,e,_⟩:=hK.out 0 (by rw[hm.out];exact h)
   cases e
  subst h0;have hn:hs = []:=List.eq_nil_of_length_eq_zero hm.out;subst hn;go_in;go_wp2;go_ret;exact⟨none,0,rfl,World.ownsRow_nil _ _ _ _,Below.refl _ _⟩
 | some a=>
  obtain⟨i0,hi,hz0,hz1,hz2⟩:=info_parts Ag;have hrow:(w.alloc (.cells #[] 41)).ownsRow w.heap.size 41 32 (.slice (some ⟨w.heap.size,0,none⟩) 0 0) 0 []:=World.ownsRow_lit w #[] 0 (Nat.le_refl _) (by decide) rfl;have hK1:=aa (hK.out.below (af w (.cells #[] 41)));have hnw:=KQ hK1.out hm.out;have hln:(hs.flatMap nA).length=m*32:=by rw[ug nA 32 hs (fun x hx=>by rw[nA,List.length_map];exact xQ hK.out x hx),hm.out]
  have b1:0+m≤maxLen:=by unfold maxLen;omega
  have b2:(0+m)*32≤140737488355328:=by omega
  clear hK hK1;go_in
  go_wp2_with (at_builtin;refine lH rfl _ _ 50 rfl w.heap.size 41 i0 (.agg (arr .u8 (dL 32))) 32 32 Tryz.underlying50 hi hz0 hz1 hz2 (by rfl) (by decide) _ _ _ rfl hrow (some a) m d _ rfl hln hnw (KP _) b1 b2 (by simp) ?_;intro A1 c1 w1 hown1 hgrow1 aaE)
  have hown2:w1.ownsRow w.heap.size 41 32 (.slice A1 m c1) m (hs.flatMap nA):=by simpa using hown1
  have bT:Below w.heap.size w w1:=((Below.refl w.heap.size w).alloc (Nat.le_refl _) (.cells #[] 41)).grown hgrow1 (by simp) (fun j hj=>by cases hj;exact Nat.le_refl _);go_wp2;go_ret;exact⟨A1,c1,by simp,hown2,bT⟩
def abo (p:aS)(w:World)(e:Ending)(w':World):Prop:=∃p',e = .returned (Gc p')∧wm p p'∧(p'.al.length=p'.na∧p'.zs.length=p'.nz)∧qA (fun b=>b<w.heap.size) w' (fun u=>Sl u p'.A p'.al)∧qA (fun b=>b<w.heap.size) w' (fun u=>Sl u p'.Z p'.zs)∧Below w.heap.size w w'
theorem V8 (p:aS)(hna:Hid (p.al.length=p.na))(hnz:Hid (p.zs.length=p.nz))(hb1:p.na≤100000)(hb2:p.nz≤100000)(w:World)(hA:Hid (Sl w p.A p.al))(hZ:Hid (Sl w p.Z p.zs)) :
  Calls Tryz.prog 76 #[Gc p] w (abo p w):=by
 obtain⟨w0,HW,ai,kC⟩:=st2 (sM p) MN (.cells #[.int .i64 0, .int .i64 0, .slice none 0 0, .int .i64 0, .slice none 0 0] 56) sZ w;have kA:=mkS ai hA;have kZ:=mkS ai hZ;have nZ:=Cj (w0:=w0) (o:= .cells #[.int .i64 0, .int .i64 0, .slice none 0 0, .int .i64 0, .slice none 0 0] 56) (w.heap.size+1) (by rw[←HW.out];exact heap_alloc2_new _ _ _);have Iu:=aa (show ∀u:World,Hid (Below w0.heap.size w0 u)→∀j,u.frozen? ⟨w.heap.size,j,none⟩=false from fun u h j=>ay (bQ (by rw[←HW.out];exact heap_alloc2_old _ _ _) h.out) j);have ah:=bI w0;clear hA hZ;have lV:Hid (w0.heap.size=w.heap.size+2):=aa (by rw[←HW.out];simp);go_in
 go_wp2_with fail
 rw[HW.out];have zc:=kC.out _ ah
 go_wp2_with fail
 refine(Ed p.A p.na p.ca p.al p.C p.Z p.nz p.cz p.zs hna hnz hb1 hb2 _ (kA.out _ ah) (kZ.out _ ah)).mono ?_;rintro e w1 ⟨A,ca,Z,cz,rfl,hsa,hsz,hb0⟩;have ax:=bJ ah hb0;clear zc hb0;have zc:=kC.out _ ax;have Re:=aa hsa;have l8:=aa hsz;clear hsa hsz;have f0:=Iu.out _ ax 0;have f1:=Iu.out _ ax 1;have f2:=Iu.out _ ax 2;have f3:=Iu.out _ ax 3;have f4:=Iu.out _ ax 4
 go_upto_region 2 with(fail)
 clear zc;obtain⟨yw,yu,za,y_,Ct,-⟩:=kC.out _ ax;obtain⟨wz,hwz⟩:∃x,(((w1.setCell ⟨w.heap.size,2,none⟩ (.slice A p.na ca)).setCell ⟨w.heap.size,3,none⟩ (.int .i64 p.C)).setCell ⟨w.heap.size,4,none⟩ (.slice Z p.nz cz))=x:=⟨_,rfl⟩;have z0:Own wz ⟨w.heap.size,0,none⟩ (.int .i64 p.ix):=by rw[←hwz];exact ak (ak (ak ⟨yw,f0⟩ (by simp)) (by simp)) (by simp)
 have z1:Own wz ⟨w.heap.size,1,none⟩ (.int .i64 p.v):=by rw[←hwz];exact ak (ak (ak ⟨yu,f1⟩ (by simp)) (by simp)) (by simp)
 have z2:Own wz ⟨w.heap.size,2,none⟩ (.slice A p.na ca):=by rw[←hwz];exact ak (ak (bu ⟨za,f2⟩) (by simp)) (by simp)
 have z3:Own wz ⟨w.heap.size,3,none⟩ (.int .i64 p.C):=by rw[←hwz];exact ak (bu (ak ⟨y_,f3⟩ (by simp))) (by simp)
 have z4:Own wz ⟨w.heap.size,4,none⟩ (.slice Z p.nz cz):=by rw[←hwz];exact bu (ak (ak ⟨Ct,f4⟩ (by simp)) (by simp))
 have GK:w.heap.size<w0.heap.size:=by have:=lV.out;omega
 have HDA:Hid (qA (fun b=>b<w0.heap.size) wz (fun u=>Sl u A p.al)):=aa (by rw[←hwz];exact(((A7 Re.out.1 fun b o e h0=>Nat.not_lt.2 (Re.out.2 b o e h0)).setCell GK).setCell GK).setCell GK);have HDZ:Hid (qA (fun b=>b<w0.heap.size) wz (fun u=>Sl u Z p.zs)):=aa (by rw[←hwz];exact(((A7 l8.out.1 fun b o e h0=>Nat.not_lt.2 (l8.out.2 b o e h0)).setCell GK).setCell GK).setCell GK);have sJ:Hid (Below w.heap.size w wz):=aa (by rw[←hwz];exact(((ag ai.out ax.out).setCell (Nat.le_refl _) _).setCell (Nat.le_refl _) _).setCell (Nat.le_refl _) _);have jU:Hid (wz.heap[w.heap.size+1]? = some (.cells #[.int .i64 0, .int .i64 0, .slice none 0 0, .int .i64 0, .slice none 0 0] 56)):=aa (by rw[←hwz];exact(Go.Deep.blk_setCell_other _ _ _ _ (show w.heap.size+1≠w.heap.size by omega)).trans ((Go.Deep.blk_setCell_other _ _ _ _ (show w.heap.size+1≠w.heap.size by omega)).trans ((Go.Deep.blk_setCell_other _ _ _ _ (show w.heap.size+1≠w.heap.size by omega)).trans (nZ.out _ ax).out)));rw[hwz];clear hwz f0 f1 f2 f3 f4;clear yw yu za y_ Ct;obtain⟨z0,y0⟩:=z0;obtain⟨z1,y1⟩:=z1;obtain⟨z2,y2⟩:=z2;obtain⟨z3,y3⟩:=z3;obtain⟨z4,y4⟩:=z4
 go_wp2_with ((with_reducible show wpList _ _ _ (⟨none,_,_,_,_,_⟩::_) _ _);refine wpList_store_row rfl 56 _ _ rfl (w.heap.size+1) #[.int .i64 p.ix, .int .i64 p.v, .slice A p.na ca, .int .i64 p.C, .slice Z p.nz cz] rfl rfl _ _ jU.out (by kernel_rfl) rfl (by simp[Value.oneCell']) ?_)
 have hrw:=setRow_heap _ _ _ #[.int .i64 p.ix, .int .i64 p.v, .slice A p.na ca, .int .i64 p.C, .slice Z p.nz cz] _ _ jU.out;have bT:=aj sJ.out (cs:=#[.int .i64 p.ix, .int .i64 p.v, .slice A p.na ca, .int .i64 p.C, .slice Z p.nz cz]) (Nat.le_add_right w.heap.size 1);have hlt1:w.heap.size+1<w0.heap.size:=by have:=lV.out;omega
 exact bodyPost_ret (v:=Gc { p with A:=A,ca:=ca,Z:=Z,cz:=cz }) (aK (p:=2) (ty:=56) rfl _ _ ⟨w.heap.size+1,0,none⟩ _ rfl (run_loadVar_row _ _ _ _ _ _ _ hrw Tryz.underlying56 rfl (by kernel_rfl))) rfl ⟨{ p with A:=A,ca:=ca,Z:=Z,cz:=cz },rfl,⟨rfl,rfl,rfl,rfl,rfl,rfl,rfl⟩,⟨hna.out,hnz.out⟩,(HDA.out.setRow hlt1).shrink (fun b _ q=>Nat.lt_of_lt_of_le q (Nat.le_of_lt GK)),(HDZ.out.setRow hlt1).shrink (fun b _ q=>Nat.lt_of_lt_of_le q (Nat.le_of_lt GK)),bT⟩
end Go.Proofs.YtchcllcbknfikaaGreatDoor