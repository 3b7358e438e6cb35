/- Contracts and lemmas: TmRa, TmR, TmS. -/
import Derived.Laws.AppendOwnNone
import Derived.Great.BuildSlice
import Derived.Test.YtchcllcbknfikaaGreatDoorTc11
set_option linter.unusedVariables false
set_option linter.unusedSimpArgs false
set_option maxRecDepth 100000
set_option maxHeartbeats 25600000
namespace Go.Proofs.YtchcllcbknfikaaGreatDoor
open Go.RowKit sH
abbrev je (o:aG)(key:Int):aG:= { o with key:=key }
theorem qR.clo {o o':aG} (h:qR o o')(key:Int):qR (je o key) (je o' key):=⟨h.num,h.rs,h.E1,h.E2,h.na,h.al,h.C,h.nz,h.zs,h.np,rfl,h.ln,h.p⟩
theorem KH {o o':aG} (h:qR o o')(hh:List Int):zI hh o'=zI hh o:=by rw[zI,zI,Ck,Ck,h.it]
theorem Ng.closed {lw lo n m c d B N r g gT i d9:Nat} {key:Int} {hh:List Int} {os os':List aG} {hs:List (List Int)} {K K9:Option Addr} {Li:Option Nat} {u uN wF:World} (h:Ng lw n lo os n hs m (some ⟨g,0,none⟩) c K d os' B N Li u)(hl:∀x∈hs,x.length=32)(hm:hs.length=m)(hn:os.length=n)(hi:i<n)
  (hown:uN.ownsRow lo 41 32 (.slice K9 (m+1) d9) (m+1) (hs.flatMap nA++hh.map (Value.int .u8))) (hhl:hh.length=32) (hgF:∀b,(Value.slice K9 (m+1) d9).ownBlock=some b→wF.heap[b]? = uN.heap[b]?)
  (hF:∀b,b<u.heap.size→(Value.slice K m d).ownBlock≠some b→b≠g→b≠gT→b≠r→wF.heap[b]? = u.heap[b]?) (hT:N≤gT) (hr:lw≤r∧r<lo)
  (hrow:pF nV 9 dN wF g (os'.set i (je (bz os' i) key)) n) :
  (os'.set i (je (bz os' i) key)).length=n∧(∀k,k<n→qR (bz (os.set i (je (bz os i) key)) k) (bz (os'.set i (je (bz os' i) key)) k))∧Os wF (some ⟨g,0,none⟩) (os'.set i (je (bz os' i) key))∧Hs wF K9 (hs ++ [hh]):=by
 have hlB:=h.lB;have hNu:=h.Nu;have hBN:=h.BN;have hlw:=h.lwo;have hil:i<os'.length:=by rw[h.l];exact hi
 have hag:∀b,b<u.heap.size→¬DN lw B N (.slice (some ⟨g,0,none⟩) n c) Li b→wF.heap[b]? = u.heap[b]? :=fun b hb hnd=>hF b hb (fun e=>hnd (.inl (by have:=h.bk b e;omega))) (fun e=>hnd (.inr (.inr (.inl (by rw[e];rfl))))) (fun e=>hnd (.inr (.inl (by omega)))) (fun e=>hnd (.inl ⟨by omega,by omega⟩));have hok:∀k,k<n→dM wF (bz os' k):=fun k hk=>(h.ne k hk (by omega)) _ hag;refine⟨by rw[List.length_set];exact h.l,fun k hk=>?_,fun k hk=>?_, ?_⟩
 ·
  rw[z_ (by rw[hn];exact hi),z_ hil]
  by_cases e:k=i
  · rw[if_pos e,if_pos e];exact(h.sam i hi).clo key
  · rw[if_neg e,if_neg e];exact h.sam k hk
 ·
  rw[List.length_set,h.l]at hk;refine⟨g,0,rfl, ?_, ?_⟩
  ·
   rw[Nat.zero_add];exact Sq (hrow.at_ k (by rw[List.length_set,h.l];exact hk))
  ·
   show dM wF (bz (os'.set i _) k)
   rw[z_ hil]
   by_cases e:k=i
   · rw[if_pos e];exact hok i hi
   · rw[if_neg e];exact hok k hk
 ·
  refine WJ (n:=m+1) (o6 (by rw[List.flatMap_append];simpa using hown) hgF) (by rw[List.length_append,hm];rfl) fun x hx=>?_;rcases List.mem_append.1 hx with e | e
  · exact hl x e
  ·
   obtain rfl:x=hh:=by simpa using e
   exact hhl
theorem aaT (R:List Int)(hR:R.length=32)(k:Nat)(hk:k=32):Go.Instr.fill (fun i=>some (i*k,k)) ((Array.range (1*k)).map ((Value.agg (arr .u8 (dL 32))).cells[· % (Value.agg (arr .u8 (dL 32))).cells.size]!)) [(0, .agg (arr .u8 R))]=some (arr .u8 R):=by
 subst hk;obtain⟨a0,a1,a2,a3,a4,a5,a6,a7,a8,a9,Zc,Zb,a12,Za,Y_,Y9,a16,a17,Y8,Y7,a20,a21,a22,a23,a24,a25,a26,a27,a28,a29,a30,a31,rfl⟩:=Jh R hR
 kernel_rfl
theorem UB {P:Program} {o:Oper} {a:Act} {w:World} {K:Act→World→Prop} {Q:Exit→Act→World→Prop} (t e:TypeId)(x:Operand)(ho:o.op = .buildSlice t 1 #[(0,x)])(R:List Int)(hR:R.length=32)(ie:TypeInfo)(hu:P.underlying t=some (.slice e))(hie:P.info? e=some ie)(hz:ie.zero=some (.agg (arr .u8 (dL 32))))(hs:ie.size=32)(hx:a.eval x = .agg (arr .u8 R))(h:K (a.put o.dst (.slice (some ⟨w.heap.size,0,none⟩) 1 1)) (w.alloc (.cells (arr .u8 R) e))):o.wp P a w K Q:=by
 refine wp_buildSlice t e 1 _ ho (arr .u8 R) ie (.agg (arr .u8 (dL 32))) hu hie hz (by rw[hs];decide) (by rw[hs];decide) ?_ h;have e1:((#[(0,x)]:Array (Nat × Operand)).map fun(i,x)=>(i,a.eval x)).toList = [(0,a.eval x)]:=by simp
 rw[e1,hx];exact aaT R hR _ hs
theorem fK {α:Type _} {f:α→List Value} {s:Nat} {d:α} {w:World} {g j tot:Nat} {l:List α} (h:pF f s d w g l tot)(hj:j<tot*s):w.frozen? ⟨g,j,none⟩=false:=by
 have:=(h.there j hj).2
 rwa [Nat.zero_add]at this
theorem ZF (P Q G:Int)(nd:Nat)(Cs:Option Addr)(cs:List Int)(cn cc:Nat)(Ks:Option Addr)(ks:List Int)(kn kc:Nat)(hcn:Hid (cs.length=cn))(hkn:Hid (ks.length=kn))(hQ:Q<9223372036854775808)(O:Option Addr)(os:List aG)(n c:Nat)(K:Option Addr)(hs:List (List Int))(m d:Nat)(hn:Hid (os.length=n))(hm:Hid (hs.length=m))(hI:Hid (∀k,k<n→dD (bz os k)))(hb1:n≤1000000)(hb2:m≤1000000)(i:Nat)(hi:i<n)(HT:Kp (gJ os hs=true))(hr:Hid (pQ P Q G (nd:Int) cs ks=true))(wT:Hid (Iw P Q G (nd:Int) cs ks os hs n (i:Int)=0))(Ah:¬(bz os i).np<nd)(Co:Hid (vI (fun k=>zC P Q G (nd:Int) cs ks (eH hs i) (bz os i) ((bz os i).ps.getD k aC)) (bz os i).np=true))(cV:Int)(zR:Hid (iU P Q (nd:Int) kn (bz os i).E1 (bz os i).E2 (bz os i).ps=0))(zQ:Hid (lT P Q (nd:Int) kn (bz os i).E1 (bz os i).E2 (bz os i).ps=cV))(hcv:i64 cV)(w:World)(hv:Hid (Vars w))(hd0:Hid (bB w))(hC:Hid (Sl w Cs cs))(hK:Hid (Sl w Ks ks))(hO:Hid (Os w O os))(hH:Hid (Hs w K hs)) :
  Calls Tryz.prog 29 #[gv P Q G,jY (nd:Int) Cs cn cc Ks kn kc,iA O n c K m d, .int .i64 (i:Int)] w (uz (os.set i (je (bz os i) cV)) n (hs ++ [zI (eH hs i) (je (bz os i) cV)]) (m+1) [.int .i64 cV, .int .i64 0] w):=by
 obtain⟨w0,HW,ai,kC⟩:=Ch (bg P Q G) fq (.cells #[.int .i64 (nd:Int), .slice Cs cn cc, .slice Ks kn kc] 26) fq (jC O n c K m d) sG (.cells #[.slice none 0 0, .slice none 0 0] 52) sZ w;have kO:=fo (fun u=>Os u O os) ai hO (·.below);have kH:=fo (fun u=>Hs u K hs) ai hH (·.below);have kD:=oF ai hd0;have jb:=mkS ai hC;have ja:=mkS ai hK;have kV:=mkV ai hv;have nZ:=Cj (w0:=w0) (o:= .cells #[.slice none 0 0, .slice none 0 0] 52) (w.heap.size+3) (by rw[←HW.out];exact kg _ _ _ _ _);have ah:=bI w0;clear hC hK hd0 hv;obtain⟨bO,fO,BB,bF,hok⟩:=((kO.out _ ah)).out i (by rw[hn.out];exact hi);subst BB;obtain⟨o,hoe⟩:∃x,bz os i=x:=⟨_,rfl⟩;rw[show os.getD i dN=o from hoe]at bF hok;have jV:=aa hoe;have uB:=aa bF;have jy:=aa hok;clear bF hok hoe;have yX:Hid (dD o):=aa (by have:=hI.out i hi;rw[jV.out]at this;exact this);have hSo:fE o:=by have h9:=(fD (iI (fJ HT.1).1 i (by rw[hn.out];exact hi))).1;rw[jV.out]at h9;exact jM h9 jy.out
 have him:i≤m:=by rw[←hm.out];exact qf HT.1 (by rw[hn.out];exact hi)
 have J9:Hid ((eH hs i).length=32):=aa (by rw[jT HT.1 (by rw[hm.out];exact him)];exact lN _ _);have yZ:Hid (aF (eH hs i)=true):=aa (by rw[jT HT.1 (by rw[hm.out];exact him)];exact uf _ _);have qi:Hid (o.ps.length=o.np):=aa jy.out.2.2.1.1;have Jq:o.np≤8:=by rw[←qi.out];exact hSo.n
 have QN:Hid (∀j,j<o.np→r64 (o.ps.getD j aC).ix):=aa (fun j hj=>(yX.out.2.2.2.2.2.2.2 _ (iL (by rw[qi.out];exact hj))).1);have OV:=aa (show ∀u:World,Hid (Below w0.heap.size w0 u)→Hid (Pa u o.L o.ps)from fun u h=>aa (dM.below jy.out h.out).2.2.2.2.2);have jr:=aa (show ∀u:World,Hid (Below w0.heap.size w0 u)→u.cell? ⟨bO,fO+i*9+2,none⟩=some (.int .i64 o.E1)∧u.cell? ⟨bO,fO+i*9+3,none⟩=some (.int .i64 o.E2)∧u.cell? ⟨bO,fO+i*9+4,none⟩=some (.slice o.A o.na o.ca)∧u.cell? ⟨bO,fO+i*9+5,none⟩=some (.int .i64 o.C)∧u.cell? ⟨bO,fO+i*9+6,none⟩=some (.slice o.Z o.nz o.cz)∧u.cell? ⟨bO,fO+i*9+7,none⟩=some (.slice o.L o.np o.cp)∧u.cell? ⟨bO,fO+i*9+8,none⟩=some (.int .i64 o.key)from fun u h9=>by have h8:=uB.out.below h9.out;exact h8.2.2);rw[jV.out]at Ah;have Xv:nd≤o.np:=by omega
 have Cc:Hid (vI (fun k=>zC P Q G (nd:Int) cs ks (eH hs i) o (o.ps.getD k aC)) o.np=true):=aa (by have h9:=Co.out;rw[jV.out]at h9;exact h9);have YO:Hid (iU P Q (nd:Int) kn o.E1 o.E2 o.ps=0):=aa (by have h9:=zR.out;rw[jV.out]at h9;exact h9);have Ri:Hid (lT P Q (nd:Int) kn o.E1 o.E2 o.ps=cV):=aa (by have h9:=zQ.out;rw[jV.out]at h9;exact h9);go_in
 go_upto_region 1 with(fail)
 rw[HW.out];have zc:=kC.out _ ah;have dB:=jr.out _ ah
 go_wp2_with fail
 clear zc dB;refine JN ah (qM P Q G (nd:Int) Cs cs cn cc Ks ks kn kc hcn hkn hQ _ os n c K hs m d hn hm hI hb1 hb2 (i:Int) 0 wT _ (kV.out _ ah) (kD.out _ ah) (jb.out _ ah) (ja.out _ ah) (kO.out _ ah) (kH.out _ ah)) fun w1 ax=>?_;have zc:=kC.out _ ax;have dB:=jr.out _ ax;have gI:=bI w1;obtain⟨j0,j1,j2,j3,j4,j5,j6,j7,j8⟩:=uB.out.below ax.out;obtain⟨w2,hw,lW,yV,-,kE⟩:=pO (l6 o) zq w1;have az:=iW ax lW;have qj:=iW gI lW;have aM:=bI w2;clear lW;have pK:=kC.out _ az;have Az:=jr.out _ az;have AA:=kE.out _ aM
 go_upto_region 5 with(fail)
 clear zc dB pK Az AA hw;have zc:=kC.out _ az;have dB:=jr.out _ az;have q9:=kE.out _ aM;clear j0 j1 j2 j3 j4 j5 j6 j7 j8;have zc:=kC.out _ az;have dB:=jr.out _ az;have q9:=kE.out _ aM
 go_wp2_with fail
 clear zc dB q9;refine um az qj aM (AV P Q G (nd:Int) Cs cs cn cc Ks ks kn kc hcn hkn hQ bO fO os n c K hs m d i hn hm hi him hb1 hb2 (eH hs i) (aa rfl) J9 yZ o jV yX hSo _ (kV.out _ az) (kD.out _ az) (jb.out _ az) (ja.out _ az) (kO.out _ az) (kH.out _ az)) fun w3 aW sD eG=>?_;have zc:=kC.out _ aW;have dB:=jr.out _ aW;have q9:=kE.out _ eG;rw[Cc.out]
 go_wp2_with fail
 clear zc dB q9;refine um aW sD eG (K5 P Q G nd Cs cs cn cc Ks ks kn kc hcn hkn o.E1 o.E2 o.A o.na o.ca o.C o.Z o.nz o.cz o.L o.ps o.np o.cp qi (by omega) QN hr hQ _ (kV.out _ aW) (jb.out _ aW) (ja.out _ aW) (OV.out _ aW)) fun w4 bE Lr jm=>?_;have zc:=kC.out _ bE;have dB:=jr.out _ bE;have q9:=kE.out _ jm;rw[YO.out,Ri.out]
 have BA:∀k,k<n→fE (bz os k):=fun k hk=>by
  obtain⟨_,_,_,_,hok⟩:=hO.out k (by rw[hn.out];exact hk);exact jM (fD (iI (fJ HT.1).1 k (by rw[hn.out];exact hk))).1 hok
 have hnp:∀k,k<n→(bz os k).np≤1000000:=fun k hk=>by
  obtain⟨_,_,_,_,hok⟩:=hO.out k (by rw[hn.out];exact hk);have:=(BA k hk).n;have e:(bz os k).ps.length=(bz os k).np:=hok.2.2.1.1
  omega
 have uC:Hid (Below w.heap.size w w4):=aa (ag ai.out bE.out);obtain⟨i2,hi2,hx0,hx1,hx2⟩:=info_parts Ag
 go_wp2_with fail
 refine(JM n _ os n c K hs m d hn hm hb1 hb2 BA _ (kO.out _ bE) (kH.out _ bE)).mono ?_;rintro e w5 ⟨O9,c9,K9,d9,Jb,B9,Li9,rfl,hcl,hb0⟩;have si:=aa hcl;clear hcl;have iH:=bJ bE hb0;have Uv:=bJ Lr hb0;have yo:=bJ jm hb0;clear zc dB q9 hb0;have zc:=kC.out _ iH;have dB:=jr.out _ iH;have q9:=kE.out _ yo;have h_:=bI w5;obtain⟨g9,aeE,Fa,_,_,_,_⟩:=w_ nV 9 dN si.out.ro si.out.l (fun _ _=>rfl) (by omega);have MC:O9=some ⟨g9,0,none⟩:=by injection Fa
 subst MC;clear Fa;obtain⟨w6,hw,r9,Ig,Vh,kT⟩:=pO (jC (some ⟨g9,0,none⟩) n c9 K9 m d9) qx w5;have jg:=iW iH r9;have ade:=iW Uv r9;have Aw:=iW yo r9;have dV:=iW h_ r9;have gG:=bI w6;clear r9;clear zc dB q9;have zc:=kC.out _ jg;have dB:=jr.out _ jg;have q9:=kE.out _ Aw;have EX:=kT.out _ gG
 go_upto_region 13 with(fail)
 clear hw;have qX:Hid (Ng 0 n w4.heap.size os n hs m (some ⟨g9,0,none⟩) c9 K9 d9 Jb B9 w5.heap.size Li9 w6):=aa (si.out.below (dV).out);have MX:Hid (w6.heap[w5.heap.size]? = some (jC (some ⟨g9,0,none⟩) n c9 K9 m d9)):=Vh;obtain⟨oq,hoq⟩:∃x,bz Jb i=x:=⟨_,rfl⟩;have Yl:=aa hoq;have iK:i<Jb.length:=by rw[qX.out.l];exact hi
 obtain⟨g8,Qj,e8,_,_,_,Tp⟩:=w_ nV 9 dN qX.out.ro qX.out.l (fun _ _=>rfl) (by omega);have eg:g9=g8:=by injection e8 with e1;injection e1 with e1;injection e1
 subst eg;have Fq:=aa Tp;have h8c:w6.cell? ⟨g9,i*9+8,none⟩=some (.int .i64 (bz Jb i).key):=Tp.at_ i iK 8 _ rfl;have h8f:w6.frozen? ⟨g9,i*9+8,none⟩=false:=fK Tp (by omega);have hgg:=qX.out.bo g9 rfl;have hlB:=qX.out.lB;have hNu:=qX.out.Nu;have hBN:=qX.out.BN;have hSM:qR o oq:=by have h9:=qX.out.sam i hi;rw[hoq,jV.out]at h9;exact h9
 have X_:=aa hSM;have adH:w0.heap.size≤w4.heap.size:=bE.out.size;clear hoq Tp hSM
 go_upto_region 14 with(fail)
 clear h8c h8f;obtain⟨wK,GH⟩:∃x,w6.setCell ⟨g9,i*9+8,none⟩ (.int .i64 cV)=x:=⟨_,rfl⟩;have Il:Hid (Below w0.heap.size w0 wK):=aa (by rw[←GH];exact(jg).out.setCell (show w0.heap.size≤g9 by omega) _)
 have rZ:Hid (pF nV 9 dN wK g9 (Jb.set i (je oq cV)) n):=aa (by
  rw[←GH]
  exact Fq.out.setCell (fun x hx=>rfl) iK (by decide) (by rw[show Jb.getD i dN=oq from Yl.out];rfl))
 have QC:Hid (Own wK ⟨w5.heap.size,0,none⟩ (.slice (some ⟨g9,0,none⟩) n c9)):=aa (by rw[←GH];exact ak ⟨(kT.out _ (aa (Below.refl _ _))).1,ay MX.out 0⟩ (by simp <;> omega));have QB:Hid (Own wK ⟨w5.heap.size,1,none⟩ (.slice K9 m d9)):=aa (by rw[←GH];exact ak ⟨(kT.out _ (aa (Below.refl _ _))).2,ay MX.out 1⟩ (by simp <;> omega));have IB:Hid (wK.heap.size=w6.heap.size):=aa (by rw[←GH];simp);have YI:Hid (∀b,b≠g9→wK.heap[b]? = w6.heap[b]?):=aa (fun b hb=>by rw[←GH];exact Go.Deep.blk_setCell_other _ _ _ _ hb);have HRW:Hid (wK.ownsRow w4.heap.size 41 32 (.slice K9 m d9) m (hs.flatMap nA)):=aa (o6 qX.out.rk (fun b e=>YI.out b (by have:=qX.out.bk b e;omega)))
 have Ym:Hid (dM wK (je oq cV)):=aa (by
  have h9:=qX.out.ne i hi (by omega) wK (fun b hb hnd=>YI.out b (fun e=>hnd (.inr (.inr (.inl (by rw[e];rfl))))));rw[Yl.out]at h9
  exact h9)
 obtain⟨RR,hRR⟩:∃x,zI (eH hs i) (je (bz os i) cV)=x:=⟨_,rfl⟩;have HRR:=aa hRR;have fQ:Hid (RR.length=32):=aa (by rw[←hRR];exact xL _ _);have HLK:Hid (zI (eH hs i) (je oq cV)=RR):=aa (by rw[←hRR,jV.out];exact KH (X_.out.clo cV) _)
 have HIQ:Hid (dD (je oq cV)):=aa (by
  obtain⟨i1,i2,i3,i4,i5,i6⟩:=X_.out.i yX.out
  exact⟨i1,i2,i3,i4,hcv,i6⟩)
 have hSq:fE (je oq cV):=by
  have h9:=X_.out.s hSo;exact⟨h9.a,h9.z,h9.n,h9.p,h9.r0,h9.r1⟩
 clear hRR;have Ug:Hid (Own wK ⟨g9,i*9,none⟩ (.int .i64 oq.num)):=aa ⟨rZ.out.at_ i (by rw[List.length_set];exact iK) 0 _ (by rw[eu iK,if_pos rfl];rfl),fK rZ.out (by omega)⟩;have HN1:Hid (Own wK ⟨g9,i*9+1,none⟩ (.string oq.rs)):=aa ⟨rZ.out.at_ i (by rw[List.length_set];exact iK) 1 _ (by rw[eu iK,if_pos rfl];rfl),fK rZ.out (by omega)⟩;have QK:Hid (Own wK ⟨g9,i*9+2,none⟩ (.int .i64 oq.E1)):=aa ⟨rZ.out.at_ i (by rw[List.length_set];exact iK) 2 _ (by rw[eu iK,if_pos rfl];rfl),fK rZ.out (by omega)⟩;have Yr:Hid (Own wK ⟨g9,i*9+3,none⟩ (.int .i64 oq.E2)):=aa ⟨rZ.out.at_ i (by rw[List.length_set];exact iK) 3 _ (by rw[eu iK,if_pos rfl];rfl),fK rZ.out (by omega)⟩;have QJ:Hid (Own wK ⟨g9,i*9+4,none⟩ (.slice oq.A oq.na oq.ca)):=aa ⟨rZ.out.at_ i (by rw[List.length_set];exact iK) 4 _ (by rw[eu iK,if_pos rfl];rfl),fK rZ.out (by omega)⟩;have HN5:Hid (Own wK ⟨g9,i*9+5,none⟩ (.int .i64 oq.C)):=aa ⟨rZ.out.at_ i (by rw[List.length_set];exact iK) 5 _ (by rw[eu iK,if_pos rfl];rfl),fK rZ.out (by omega)⟩;have QI:Hid (Own wK ⟨g9,i*9+6,none⟩ (.slice oq.Z oq.nz oq.cz)):=aa ⟨rZ.out.at_ i (by rw[List.length_set];exact iK) 6 _ (by rw[eu iK,if_pos rfl];rfl),fK rZ.out (by omega)⟩;have Yq:Hid (Own wK ⟨g9,i*9+7,none⟩ (.slice oq.L oq.np oq.cp)):=aa ⟨rZ.out.at_ i (by rw[List.length_set];exact iK) 7 _ (by rw[eu iK,if_pos rfl];rfl),fK rZ.out (by omega)⟩;have HN8:Hid (Own wK ⟨g9,i*9+8,none⟩ (.int .i64 cV)):=aa ⟨rZ.out.at_ i (by rw[List.length_set];exact iK) 8 _ (by rw[eu iK,if_pos rfl];rfl),fK rZ.out (by omega)⟩;rw[GH];clear GH;clear zc dB q9 EX;have Ut:=bI wK;have kOK:=nQ (w:=wK) (fun u=>dM u (je oq cV)) Ym.out (·.below);have hO:=aa (fun(u:World) (h:Hid (Below w0.heap.size w0 u∧Own u ⟨g9,i*9,none⟩ (.int .i64 oq.num)∧Own u ⟨g9,i*9+1,none⟩ (.string oq.rs)∧Own u ⟨g9,i*9+2,none⟩ (.int .i64 oq.E1)∧Own u ⟨g9,i*9+3,none⟩ (.int .i64 oq.E2)∧Own u ⟨g9,i*9+4,none⟩ (.slice oq.A oq.na oq.ca)∧Own u ⟨g9,i*9+5,none⟩ (.int .i64 oq.C)∧Own u ⟨g9,i*9+6,none⟩ (.slice oq.Z oq.nz oq.cz)∧Own u ⟨g9,i*9+7,none⟩ (.slice oq.L oq.np oq.cp)∧Own u ⟨g9,i*9+8,none⟩ (.int .i64 cV)∧Own u ⟨w5.heap.size,0,none⟩ (.slice (some ⟨g9,0,none⟩) n c9)∧Own u ⟨w5.heap.size,1,none⟩ (.slice K9 m d9)))=>And.intro (kC.out u (aa h.out.1)) (And.intro (jr.out u (aa h.out.1)) (And.intro ((h.out.2.1).1) (And.intro ((h.out.2.2.1).1) (And.intro ((h.out.2.2.2.1).1) (And.intro ((h.out.2.2.2.2.1).1) (And.intro ((h.out.2.2.2.2.2.1).1) (And.intro ((h.out.2.2.2.2.2.2.1).1) (And.intro ((h.out.2.2.2.2.2.2.2.1).1) (And.intro ((h.out.2.2.2.2.2.2.2.2.1).1) (And.intro ((h.out.2.2.2.2.2.2.2.2.2.1).1) (And.intro ((h.out.2.2.2.2.2.2.2.2.2.2.1).1) ((h.out.2.2.2.2.2.2.2.2.2.2.2).1)))))))))))))
 have hBx7:=aa (show ∀u u2:World,Hid (Below w0.heap.size w0 u∧Own u ⟨g9,i*9,none⟩ (.int .i64 oq.num)∧Own u ⟨g9,i*9+1,none⟩ (.string oq.rs)∧Own u ⟨g9,i*9+2,none⟩ (.int .i64 oq.E1)∧Own u ⟨g9,i*9+3,none⟩ (.int .i64 oq.E2)∧Own u ⟨g9,i*9+4,none⟩ (.slice oq.A oq.na oq.ca)∧Own u ⟨g9,i*9+5,none⟩ (.int .i64 oq.C)∧Own u ⟨g9,i*9+6,none⟩ (.slice oq.Z oq.nz oq.cz)∧Own u ⟨g9,i*9+7,none⟩ (.slice oq.L oq.np oq.cp)∧Own u ⟨g9,i*9+8,none⟩ (.int .i64 cV)∧Own u ⟨w5.heap.size,0,none⟩ (.slice (some ⟨g9,0,none⟩) n c9)∧Own u ⟨w5.heap.size,1,none⟩ (.slice K9 m d9))→Below u.heap.size u u2→Hid (Below w0.heap.size w0 u2∧Own u2 ⟨g9,i*9,none⟩ (.int .i64 oq.num)∧Own u2 ⟨g9,i*9+1,none⟩ (.string oq.rs)∧Own u2 ⟨g9,i*9+2,none⟩ (.int .i64 oq.E1)∧Own u2 ⟨g9,i*9+3,none⟩ (.int .i64 oq.E2)∧Own u2 ⟨g9,i*9+4,none⟩ (.slice oq.A oq.na oq.ca)∧Own u2 ⟨g9,i*9+5,none⟩ (.int .i64 oq.C)∧Own u2 ⟨g9,i*9+6,none⟩ (.slice oq.Z oq.nz oq.cz)∧Own u2 ⟨g9,i*9+7,none⟩ (.slice oq.L oq.np oq.cp)∧Own u2 ⟨g9,i*9+8,none⟩ (.int .i64 cV)∧Own u2 ⟨w5.heap.size,0,none⟩ (.slice (some ⟨g9,0,none⟩) n c9)∧Own u2 ⟨w5.heap.size,1,none⟩ (.slice K9 m d9))from fun u u2 h1 h2=>aa ⟨(ag h1.out.1 h2),((h1.out.2.1).below h2),((h1.out.2.2.1).below h2),((h1.out.2.2.2.1).below h2),((h1.out.2.2.2.2.1).below h2),((h1.out.2.2.2.2.2.1).below h2),((h1.out.2.2.2.2.2.2.1).below h2),((h1.out.2.2.2.2.2.2.2.1).below h2),((h1.out.2.2.2.2.2.2.2.2.1).below h2),((h1.out.2.2.2.2.2.2.2.2.2.1).below h2),((h1.out.2.2.2.2.2.2.2.2.2.2.1).below h2),((h1.out.2.2.2.2.2.2.2.2.2.2.2).below h2)⟩);refine uG (fun u=>Below w0.heap.size w0 u∧Own u ⟨g9,i*9,none⟩ (.int .i64 oq.num)∧Own u ⟨g9,i*9+1,none⟩ (.string oq.rs)∧Own u ⟨g9,i*9+2,none⟩ (.int .i64 oq.E1)∧Own u ⟨g9,i*9+3,none⟩ (.int .i64 oq.E2)∧Own u ⟨g9,i*9+4,none⟩ (.slice oq.A oq.na oq.ca)∧Own u ⟨g9,i*9+5,none⟩ (.int .i64 oq.C)∧Own u ⟨g9,i*9+6,none⟩ (.slice oq.Z oq.nz oq.cz)∧Own u ⟨g9,i*9+7,none⟩ (.slice oq.L oq.np oq.cp)∧Own u ⟨g9,i*9+8,none⟩ (.int .i64 cV)∧Own u ⟨w5.heap.size,0,none⟩ (.slice (some ⟨g9,0,none⟩) n c9)∧Own u ⟨w5.heap.size,1,none⟩ (.slice K9 m d9)) [14] (hBx7.out _ _ (aa ⟨Il.out,Ug.out,HN1.out,QK.out,Yr.out,QJ.out,HN5.out,QI.out,Yq.out,HN8.out,QC.out,QB.out⟩) ((Below.refl _ _).drew)) (fun hHeld=>?_)
 refine aP 0 1 2 3 ?_;refine aP 5 6 7 8 ?_;refine aL 9 ?_;refine dh 4 fun K hK=>?_;go_simp;refine(BL _ n c _ hs m d i hm him hb2 _ (kH.out _ (aa hHeld.out.1))).mono ?_;rintro e wB ⟨rfl,bN⟩;have Q3:=aa (ag ((Below.refl wK.heap.size wK).drew) bN);refine hK.out _ _ (hBx7.out _ _ hHeld bN) (fun hHeld=>?_);clear hK K
 try simp only[qq]
 refine dh 10 fun K hK=>?_;go_simp;refine(Gq (eH hs i) J9 yZ (je oq cV) HIQ hSq _ (kD.out _ (aa hHeld.out.1)) (kOK.out _ Q3)).mono ?_;rintro e wA ⟨rfl,bN⟩;rw[HLK.out];have HBP:=aa (ag Q3.out bN);refine hK.out _ _ (hBx7.out _ _ hHeld bN) (fun hHeld=>?_);clear hK K
 try simp only[qq]
 refine dh 11 fun K hK=>?_;rw[show(if Region.wanted _ _=true then _ else _:Prop)=_ from if_pos rfl];refine UB 50 41 _ rfl RR fQ.out i2 Tryz.underlying50 hi2 hx0 hx1 rfl ?_;refine hK.out _ _ (hBx7.out _ _ hHeld (af _ _)) (fun hHeld=>?_);clear hK K
 try simp only[qq]
 refine dh 12 fun K hK=>?_;have pX:=aa (ag HBP.out (af wA (.cells (arr .u8 RR) 41)));have GI:=o6 HRW.out (fun b e=>pX.out.block b (by have:=qX.out.bk b e;have:=IB.out;omega));have WQ:∀b,w4.heap.size≤b→(B9<b∨b=b)→True:=fun _ _ _=>trivial;have hno:∀b,B9<b→(Value.slice K9 m d9).ownBlock≠some b:=fun b hb e=>by have:=qX.out.bk b e;omega
 have qp:=hno g9 (by omega);have hnot:=hno w5.heap.size (by omega);refine step_append_lies _ (by rfl) _ _ _ (by rfl) w4.heap.size 41 i2 (.agg (arr .u8 (dL 32))) 32 32 Tryz.underlying50 hi2 hx0 hx1 hx2 (by rfl) (by decide) _ m (hs.flatMap nA) (by rfl) GI ⟨wA.heap.size,0,none⟩ 1 1 (RR.map (Value.int .u8)) (by rfl) (by rw[List.length_map,fQ.out]) (World.news_of_block (cs:=arr .u8 RR) (t:=41) (fr:=(0,0)) (heap_alloc_new wA _)) (fun x hx=>by obtain⟨y,_,rfl⟩:=List.mem_map.1 hx;rfl) (by decide) (by unfold maxLen;omega) (by omega) (by have:=pX.out.size;have:=IB.out;omega) _ rfl ?_;intro gg cap uN nR dm xS Ev;have IE:=aa (aJ (Ug.out.below pX.out) dm qp);have QM:=aa (aJ (HN1.out.below pX.out) dm qp);have Uh:=aa (aJ (QK.out.below pX.out) dm qp);have Yt:=aa (aJ (Yr.out.below pX.out) dm qp);have HM4:=aa (aJ (QJ.out.below pX.out) dm qp);have HM5:=aa (aJ (HN5.out.below pX.out) dm qp);have HM6:=aa (aJ (QI.out.below pX.out) dm qp);have HM7:=aa (aJ (Yq.out.below pX.out) dm qp);have HM8:=aa (aJ (HN8.out.below pX.out) dm qp);have HT0:=aa (aJ (QC.out.below pX.out) dm hnot);have HT1:=aa (aJ (QB.out.below pX.out) dm hnot);have Q6:Hid (Below w0.heap.size w0 uN):=aa ((ag Il.out pX.out).grown dm ((ag Il.out pX.out).size) (fun b e=>by have:=qX.out.bk b e;omega));have Q4:Hid (∀b,b<(wA.alloc (.cells (arr .u8 RR) 41)).heap.size→(Value.slice K9 m d9).ownBlock≠some b→uN.heap[b]? = (wA.alloc (.cells (arr .u8 RR) 41)).heap[b]?):=aa (fun b h1 h2=>dm.block b h1 (fun e=>h2 e.symm));have HOWN:=aa nR;have YG:=aa xS;have afA:=aa Ev;clear GI WQ nR dm xS Ev hno qp hnot;refine hK.out _ _ ((aa ⟨Q6.out,IE.out,QM.out,Uh.out,Yt.out,HM4.out,HM5.out,HM6.out,HM7.out,HM8.out,HT0.out,HT1.out⟩)) (fun hHeld=>?_);clear hK K;refine aL 13 ?_;refine oz 14 fun K hK=>?_;have st7:=HT1.out.1;have fr7:=HT1.out.2;go_simp;refine hK.out _ _ ?_;clear hK K
 try simp only[qq]
 refine gM ?_;clear hHeld;obtain⟨wS,Mt⟩:∃x,uN.setCell ⟨w5.heap.size,1,none⟩ (.slice (some ⟨gg,0,none⟩) (m+1) cap)=x:=⟨_,rfl⟩;have WC:=Ig.out;have hAz:=pX.out.size;rw[IB.out]at hAz
 have Pq:(Value.slice K9 m d9).ownBlock=some gg∨w6.heap.size≤gg:=by
  rcases YG.out with e | e
  · exact .inl e
  · exact .inr (Nat.le_trans hAz (by first | exact e | exact Nat.le_of_eq e.symm | omega))
 have WY:gg≠w5.heap.size:=by
  rcases Pq with e | e
  · have:=qX.out.bk gg e;omega
  · omega
 have WZ:g9≠w5.heap.size:=by omega
 have W9:(Value.slice K9 m d9).ownBlock≠some g9:=fun e=>by have:=qX.out.bk g9 e;omega
 have t0:wS.cell? ⟨w5.heap.size,0,none⟩=some (.slice (some ⟨g9,0,none⟩) n c9):=by rw[←Mt];exact(ak HT0.out (by simp)).1
 have t1:wS.cell? ⟨w5.heap.size,1,none⟩=some (.slice (some ⟨gg,0,none⟩) (m+1) cap):=by rw[←Mt];exact(bu HT1.out).1
 have YS:Hid (Below w0.heap.size w0 wS):=aa (by rw[←Mt];exact Q6.out.setCell (show w0.heap.size≤w5.heap.size by omega) _);have jU:=nZ.out _ YS;have YH:Hid (∀b,b≠w5.heap.size→wS.heap[b]? = uN.heap[b]?):=aa (fun b hb=>by rw[←Mt];exact Go.Deep.blk_setCell_other _ _ _ _ hb);have HFA:Hid (∀b,b<w6.heap.size→(Value.slice K9 m d9).ownBlock≠some b→b≠g9→b≠w5.heap.size→wS.heap[b]? = w6.heap[b]?):=aa (fun b h1 h2 h3 h4=>(YH.out b h4).trans ((Q4.out b (by omega) h2).trans ((pX.out.block b (by have:=IB.out;omega)).trans (YI.out b h3))));have HRS:Hid (pF nV 9 dN wS g9 (Jb.set i (je oq cV)) n):=aa (rZ.out.agree ((YH.out g9 WZ).trans ((Q4.out g9 (by omega) W9).trans (pX.out.block g9 (by have:=IB.out;omega)))));have Vi:Hid (wS.heap[gg]? = uN.heap[gg]?):=aa (YH.out gg WY);rw[Mt];clear Mt st7 fr7
 go_wp2_with ((with_reducible show wpList _ _ _ (⟨none,_,_,_,_,_⟩::_) _ _);refine wpList_store_row rfl 52 _ _ rfl (w.heap.size+3) #[.slice (some ⟨g9,0,none⟩) n c9, .slice (some ⟨gg,0,none⟩) (m+1) cap] rfl rfl _ _ jU.out (by kernel_rfl) rfl (by simp[Value.oneCell']) ?_)
 have hrw:=setRow_heap _ _ _ #[.slice (some ⟨g9,0,none⟩) n c9, .slice (some ⟨gg,0,none⟩) (m+1) cap] _ _ jU.out;have bT:=aj (ag ai.out YS.out) (cs:=#[.slice (some ⟨g9,0,none⟩) n c9, .slice (some ⟨gg,0,none⟩) (m+1) cap]) (Nat.le_add_right w.heap.size 3);have hsz0:w0.heap.size=w.heap.size+4:=by rw[←HW.out];simp
 have hgr:g9≠w.heap.size+3:=by omega
 have WW:gg≠w.heap.size+3:=by
  rcases Pq with e | e
  · have:=qX.out.bk gg e;omega
  · omega
 obtain⟨hl2,WG,ho2,hh2⟩:=qX.out.closed (wF:=wS.setRow (w.heap.size+3) #[.slice (some ⟨g9,0,none⟩) n c9, .slice (some ⟨gg,0,none⟩) (m+1) cap]) (r:=w.heap.size+3) (gT:=w5.heap.size) (key:=cV) (i:=i) (hh:=RR) (uN:=uN) (K9:=some ⟨gg,0,none⟩) (d9:=cap) (xQ hH.out) hm.out hn.out hi HOWN.out fQ.out (fun b e=>by
   obtain rfl:gg=b:=by injection e
   exact(setRow_other _ _ _ _ WW).trans Vi.out) (fun b h1 h2 h3 h4 h5=>(setRow_other _ _ _ _ h5).trans (HFA.out b h1 h2 h3 h4)) (Nat.le_refl _) ⟨by omega,by omega⟩ (by rw[Yl.out];exact HRS.out.agree (setRow_other _ _ _ _ hgr))
 rw[HRR.out];exact bodyPost_ret (v:= .tuple #[iA (some ⟨g9,0,none⟩) n c9 (some ⟨gg,0,none⟩) (m+1) cap, .int .i64 cV, .int .i64 0]) (bH (p:=8) (q:=9) (r:=10) (ty:=52) rfl _ _ ⟨w.heap.size+3,0,none⟩ _ _ _ rfl rfl rfl (run_loadVar_row _ _ _ _ _ _ _ hrw Tryz.underlying52 rfl (by kernel_rfl))) rfl ⟨some ⟨g9,0,none⟩,c9,some ⟨gg,0,none⟩,cap,_,rfl,hl2,WG,ho2,hh2,bT⟩
theorem ZQ (P Q G:Int)(nd:Nat)(Cs:Option Addr)(cs:List Int)(cn cc:Nat)(Ks:Option Addr)(ks:List Int)(kn kc:Nat)(hcn:Hid (cs.length=cn))(hkn:Hid (ks.length=kn))(hQ:Q<9223372036854775808)(O:Option Addr)(os:List aG)(n c:Nat)(K:Option Addr)(hs:List (List Int))(m d:Nat)(hn:Hid (os.length=n))(hm:Hid (hs.length=m))(hI:Hid (∀k,k<n→dD (bz os k)))(hb1:n≤1000000)(hb2:m≤1000000)(i:Nat)(hi:i<n)(HT:Kp (gJ os hs=true))(hr:Hid (pQ P Q G (nd:Int) cs ks=true))(wT:Hid (Iw P Q G (nd:Int) cs ks os hs n (i:Int)=0))(Ah:¬(bz os i).np<nd)(Co:Hid (vI (fun k=>zC P Q G (nd:Int) cs ks (eH hs i) (bz os i) ((bz os i).ps.getD k aC)) (bz os i).np=true))(cV:Int)(zR:Hid (iU P Q (nd:Int) kn (bz os i).E1 (bz os i).E2 (bz os i).ps=0))(zQ:Hid (lT P Q (nd:Int) kn (bz os i).E1 (bz os i).E2 (bz os i).ps=cV))(hcv:i64 cV)(w:World)(hv:Hid (Vars w))(hd0:Hid (bB w))(hC:Hid (Sl w Cs cs))(hK:Hid (Sl w Ks ks))(hO:Hid (Os w O os))(hH:Hid (Hs w K hs)) :
  Calls Tryz.prog 30 #[gv P Q G,jY (nd:Int) Cs cn cc Ks kn kc,iA O n c K m d, .int .i64 (i:Int)] w (uz (os.set i (je (bz os i) cV)) n (hs ++ [zI (eH hs i) (je (bz os i) cV)]) (m+1) [.int .i64 cV, .int .i64 0] w):=by
 obtain⟨w0,HW,ai,kC⟩:=Ch (bg P Q G) fq (.cells #[.int .i64 (nd:Int), .slice Cs cn cc, .slice Ks kn kc] 26) fq (jC O n c K m d) sG (.cells #[.slice none 0 0, .slice none 0 0] 52) sZ w;have kO:=fo (fun u=>Os u O os) ai hO (·.below);have kH:=fo (fun u=>Hs u K hs) ai hH (·.below);have kD:=oF ai hd0;have jb:=mkS ai hC;have ja:=mkS ai hK;have kV:=mkV ai hv;have nZ:=Cj (w0:=w0) (o:= .cells #[.slice none 0 0, .slice none 0 0] 52) (w.heap.size+3) (by rw[←HW.out];exact kg _ _ _ _ _);have ah:=bI w0;clear hC hK hd0 hv;obtain⟨bO,fO,BB,bF,hok⟩:=((kO.out _ ah)).out i (by rw[hn.out];exact hi);subst BB;obtain⟨o,hoe⟩:∃x,bz os i=x:=⟨_,rfl⟩;rw[show os.getD i dN=o from hoe]at bF hok;have jV:=aa hoe;have uB:=aa bF;have jy:=aa hok;clear bF hok hoe;have yX:Hid (dD o):=aa (by have:=hI.out i hi;rw[jV.out]at this;exact this);have hSo:fE o:=by have h9:=(fD (iI (fJ HT.1).1 i (by rw[hn.out];exact hi))).1;rw[jV.out]at h9;exact jM h9 jy.out
 have him:i≤m:=by rw[←hm.out];exact qf HT.1 (by rw[hn.out];exact hi)
 have J9:Hid ((eH hs i).length=32):=aa (by rw[jT HT.1 (by rw[hm.out];exact him)];exact lN _ _);have yZ:Hid (aF (eH hs i)=true):=aa (by rw[jT HT.1 (by rw[hm.out];exact him)];exact uf _ _);have qi:Hid (o.ps.length=o.np):=aa jy.out.2.2.1.1;have Jq:o.np≤8:=by rw[←qi.out];exact hSo.n
 have QN:Hid (∀j,j<o.np→r64 (o.ps.getD j aC).ix):=aa (fun j hj=>(yX.out.2.2.2.2.2.2.2 _ (iL (by rw[qi.out];exact hj))).1);have OV:=aa (show ∀u:World,Hid (Below w0.heap.size w0 u)→Hid (Pa u o.L o.ps)from fun u h=>aa (dM.below jy.out h.out).2.2.2.2.2);have jr:=aa (show ∀u:World,Hid (Below w0.heap.size w0 u)→u.cell? ⟨bO,fO+i*9+2,none⟩=some (.int .i64 o.E1)∧u.cell? ⟨bO,fO+i*9+3,none⟩=some (.int .i64 o.E2)∧u.cell? ⟨bO,fO+i*9+4,none⟩=some (.slice o.A o.na o.ca)∧u.cell? ⟨bO,fO+i*9+5,none⟩=some (.int .i64 o.C)∧u.cell? ⟨bO,fO+i*9+6,none⟩=some (.slice o.Z o.nz o.cz)∧u.cell? ⟨bO,fO+i*9+7,none⟩=some (.slice o.L o.np o.cp)∧u.cell? ⟨bO,fO+i*9+8,none⟩=some (.int .i64 o.key)from fun u h9=>by have h8:=uB.out.below h9.out;exact h8.2.2);rw[jV.out]at Ah;have Xv:nd≤o.np:=by omega
 have Cc:Hid (vI (fun k=>zC P Q G (nd:Int) cs ks (eH hs i) o (o.ps.getD k aC)) o.np=true):=aa (by have h9:=Co.out;rw[jV.out]at h9;exact h9);have YO:Hid (iU P Q (nd:Int) kn o.E1 o.E2 o.ps=0):=aa (by have h9:=zR.out;rw[jV.out]at h9;exact h9);have Ri:Hid (lT P Q (nd:Int) kn o.E1 o.E2 o.ps=cV):=aa (by have h9:=zQ.out;rw[jV.out]at h9;exact h9);go_in
 go_upto_region 1 with(fail)
 rw[HW.out];have zc:=kC.out _ ah;have dB:=jr.out _ ah
 go_wp2_with fail
 clear zc dB;refine JN ah (qO P Q G (nd:Int) Cs cs cn cc Ks ks kn kc hcn hkn hQ _ os n c K hs m d hn hm hI hb1 hb2 (i:Int) 0 wT _ (kV.out _ ah) (kD.out _ ah) (jb.out _ ah) (ja.out _ ah) (kO.out _ ah) (kH.out _ ah)) fun w1 ax=>?_;have zc:=kC.out _ ax;have dB:=jr.out _ ax
 go_upto_region 4 with(fail)
 clear zc dB;have hO:=aa (fun(u:World) (h:Hid (Below w0.heap.size w0 u))=>And.intro (kC.out u h) (jr.out u h));refine jq [] ax (fun hHeld=>?_);refine aP 0 1 2 3 ?_;refine aP 4 5 6 7 ?_;refine aL 8 ?_;refine aL 9 ?_;refine gM ?_;clear hO;have dF:=hHeld;clear hHeld;have zc:=kC.out _ dF;have dB:=jr.out _ dF
 go_wp2_with fail
 clear zc dB;refine JN dF (Bg P Q G (nd:Int) Cs cs cn cc Ks ks kn kc hcn hkn hQ bO fO os n c K hs m d i hn hm hi him hb1 hb2 (eH hs i) (aa rfl) J9 yZ o jV yX hSo _ (kV.out _ dF) (kD.out _ dF) (jb.out _ dF) (ja.out _ dF) (kO.out _ dF) (kH.out _ dF)) fun w3 aW=>?_;have zc:=kC.out _ aW;have dB:=jr.out _ aW;rw[Cc.out]
 go_upto_region 8 with(fail)
 clear zc dB;have hO:=aa (fun(u:World) (h:Hid (Below w0.heap.size w0 u))=>And.intro (kC.out u h) (jr.out u h));refine jq [] aW (fun hHeld=>?_);refine aP 0 1 2 3 ?_;refine aP 4 5 6 7 ?_;refine aP 8 9 10 11 ?_;refine aL 12 ?_;refine aL 13 ?_;refine dh 14 fun K hK=>?_;go_simp;refine(F9 P Q G nd Cs cs cn cc Ks ks kn kc hcn hkn o.E1 o.E2 o.A o.na o.ca o.C o.Z o.nz o.cz o.L o.ps o.np o.cp qi (by omega) QN hr _ (OV.out _ hHeld)).mono ?_;rintro e wA ⟨rfl,bN⟩;rw[YO.out,Ri.out];refine hK.out _ _ (bJ hHeld bN) (fun hHeld=>?_);clear hK K;refine aP 15 16 17 18 ?_;refine aL 19 ?_;refine gM ?_;clear hO;have kU:=hHeld;clear hHeld;have zc:=kC.out _ kU;have dB:=jr.out _ kU;obtain⟨wq,rfl⟩:∃u,u=wA:=⟨_,rfl⟩
 have BA:∀k,k<n→fE (bz os k):=fun k hk=>by
  obtain⟨_,_,_,_,hok⟩:=hO.out k (by rw[hn.out];exact hk);exact jM (fD (iI (fJ HT.1).1 k (by rw[hn.out];exact hk))).1 hok
 have hnp:∀k,k<n→(bz os k).np≤1000000:=fun k hk=>by
  obtain⟨_,_,_,_,hok⟩:=hO.out k (by rw[hn.out];exact hk);have:=(BA k hk).n;have e:(bz os k).ps.length=(bz os k).np:=hok.2.2.1.1
  omega
 have uC:Hid (Below w.heap.size w wq):=aa (ag ai.out kU.out);obtain⟨i2,hi2,hx0,hx1,hx2⟩:=info_parts Ag
 go_wp2_with fail
 refine(Xw n _ os n c K hs m d hn hm hb1 hb2 hnp w hO _ uC (kH.out _ kU)).mono ?_;rintro e w5 ⟨O9,c9,K9,d9,Jb,B9,Li9,rfl,hcl,hb0⟩;have si:=aa hcl;clear hcl;have iH:=bJ kU hb0;clear zc dB hb0;have zc:=kC.out _ iH;have dB:=jr.out _ iH;have h_:=bI w5;obtain⟨g9,aeE,Fa,_,_,_,_⟩:=w_ nV 9 dN si.out.ro si.out.l (fun _ _=>rfl) (by omega);have MC:O9=some ⟨g9,0,none⟩:=by injection Fa
 subst MC;clear Fa;obtain⟨w6,hw,r9,Ig,Vh,kT⟩:=pO (jC (some ⟨g9,0,none⟩) n c9 K9 m d9) qx w5;have jg:=iW iH r9;have dV:=iW h_ r9;have gG:=bI w6;clear r9;clear zc dB;have zc:=kC.out _ jg;have dB:=jr.out _ jg;have EX:=kT.out _ gG
 go_upto_region 12 with(fail)
 clear hw;have qX:Hid (Ng w.heap.size n wq.heap.size os n hs m (some ⟨g9,0,none⟩) c9 K9 d9 Jb B9 w5.heap.size Li9 w6):=aa (si.out.below (dV).out);have MX:Hid (w6.heap[w5.heap.size]? = some (jC (some ⟨g9,0,none⟩) n c9 K9 m d9)):=Vh;obtain⟨oq,hoq⟩:∃x,bz Jb i=x:=⟨_,rfl⟩;have Yl:=aa hoq;have iK:i<Jb.length:=by rw[qX.out.l];exact hi
 obtain⟨g8,Qj,e8,_,_,_,Tp⟩:=w_ nV 9 dN qX.out.ro qX.out.l (fun _ _=>rfl) (by omega);have eg:g9=g8:=by injection e8 with e1;injection e1 with e1;injection e1
 subst eg;have Fq:=aa Tp;have h8c:w6.cell? ⟨g9,i*9+8,none⟩=some (.int .i64 (bz Jb i).key):=Tp.at_ i iK 8 _ rfl;have h8f:w6.frozen? ⟨g9,i*9+8,none⟩=false:=fK Tp (by omega);have hgg:=qX.out.bo g9 rfl;have hlB:=qX.out.lB;have hNu:=qX.out.Nu;have hBN:=qX.out.BN;have hSM:qR o oq:=by have h9:=qX.out.sam i hi;rw[hoq,jV.out]at h9;exact h9
 have X_:=aa hSM;have adH:w0.heap.size≤wq.heap.size:=kU.out.size;clear hoq Tp hSM
 go_upto_region 13 with(fail)
 clear h8c h8f;obtain⟨wK,GH⟩:∃x,w6.setCell ⟨g9,i*9+8,none⟩ (.int .i64 cV)=x:=⟨_,rfl⟩;have Il:Hid (Below w0.heap.size w0 wK):=aa (by rw[←GH];exact(jg).out.setCell (show w0.heap.size≤g9 by omega) _)
 have rZ:Hid (pF nV 9 dN wK g9 (Jb.set i (je oq cV)) n):=aa (by
  rw[←GH]
  exact Fq.out.setCell (fun x hx=>rfl) iK (by decide) (by rw[show Jb.getD i dN=oq from Yl.out];rfl))
 have QC:Hid (Own wK ⟨w5.heap.size,0,none⟩ (.slice (some ⟨g9,0,none⟩) n c9)):=aa (by rw[←GH];exact ak ⟨(kT.out _ (aa (Below.refl _ _))).1,ay MX.out 0⟩ (by simp <;> omega));have QB:Hid (Own wK ⟨w5.heap.size,1,none⟩ (.slice K9 m d9)):=aa (by rw[←GH];exact ak ⟨(kT.out _ (aa (Below.refl _ _))).2,ay MX.out 1⟩ (by simp <;> omega));have IB:Hid (wK.heap.size=w6.heap.size):=aa (by rw[←GH];simp);have YI:Hid (∀b,b≠g9→wK.heap[b]? = w6.heap[b]?):=aa (fun b hb=>by rw[←GH];exact Go.Deep.blk_setCell_other _ _ _ _ hb);have HRW:Hid (wK.ownsRow wq.heap.size 41 32 (.slice K9 m d9) m (hs.flatMap nA)):=aa (o6 qX.out.rk (fun b e=>YI.out b (by have:=qX.out.bk b e;omega)))
 have Ym:Hid (dM wK (je oq cV)):=aa (by
  have h9:=qX.out.ne i hi (by omega) wK (fun b hb hnd=>YI.out b (fun e=>hnd (.inr (.inr (.inl (by rw[e];rfl))))));rw[Yl.out]at h9
  exact h9)
 obtain⟨RR,hRR⟩:∃x,zI (eH hs i) (je (bz os i) cV)=x:=⟨_,rfl⟩;have HRR:=aa hRR;have fQ:Hid (RR.length=32):=aa (by rw[←hRR];exact xL _ _);have HLK:Hid (zI (eH hs i) (je oq cV)=RR):=aa (by rw[←hRR,jV.out];exact KH (X_.out.clo cV) _)
 have HIQ:Hid (dD (je oq cV)):=aa (by
  obtain⟨i1,i2,i3,i4,i5,i6⟩:=X_.out.i yX.out
  exact⟨i1,i2,i3,i4,hcv,i6⟩)
 have hSq:fE (je oq cV):=by
  have h9:=X_.out.s hSo;exact⟨h9.a,h9.z,h9.n,h9.p,h9.r0,h9.r1⟩
 clear hRR;have Ug:Hid (Own wK ⟨g9,i*9,none⟩ (.int .i64 oq.num)):=aa ⟨rZ.out.at_ i (by rw[List.length_set];exact iK) 0 _ (by rw[eu iK,if_pos rfl];rfl),fK rZ.out (by omega)⟩;have HN1:Hid (Own wK ⟨g9,i*9+1,none⟩ (.string oq.rs)):=aa ⟨rZ.out.at_ i (by rw[List.length_set];exact iK) 1 _ (by rw[eu iK,if_pos rfl];rfl),fK rZ.out (by omega)⟩;have QK:Hid (Own wK ⟨g9,i*9+2,none⟩ (.int .i64 oq.E1)):=aa ⟨rZ.out.at_ i (by rw[List.length_set];exact iK) 2 _ (by rw[eu iK,if_pos rfl];rfl),fK rZ.out (by omega)⟩;have Yr:Hid (Own wK ⟨g9,i*9+3,none⟩ (.int .i64 oq.E2)):=aa ⟨rZ.out.at_ i (by rw[List.length_set];exact iK) 3 _ (by rw[eu iK,if_pos rfl];rfl),fK rZ.out (by omega)⟩;have QJ:Hid (Own wK ⟨g9,i*9+4,none⟩ (.slice oq.A oq.na oq.ca)):=aa ⟨rZ.out.at_ i (by rw[List.length_set];exact iK) 4 _ (by rw[eu iK,if_pos rfl];rfl),fK rZ.out (by omega)⟩;have HN5:Hid (Own wK ⟨g9,i*9+5,none⟩ (.int .i64 oq.C)):=aa ⟨rZ.out.at_ i (by rw[List.length_set];exact iK) 5 _ (by rw[eu iK,if_pos rfl];rfl),fK rZ.out (by omega)⟩;have QI:Hid (Own wK ⟨g9,i*9+6,none⟩ (.slice oq.Z oq.nz oq.cz)):=aa ⟨rZ.out.at_ i (by rw[List.length_set];exact iK) 6 _ (by rw[eu iK,if_pos rfl];rfl),fK rZ.out (by omega)⟩;have Yq:Hid (Own wK ⟨g9,i*9+7,none⟩ (.slice oq.L oq.np oq.cp)):=aa ⟨rZ.out.at_ i (by rw[List.length_set];exact iK) 7 _ (by rw[eu iK,if_pos rfl];rfl),fK rZ.out (by omega)⟩;have HN8:Hid (Own wK ⟨g9,i*9+8,none⟩ (.int .i64 cV)):=aa ⟨rZ.out.at_ i (by rw[List.length_set];exact iK) 8 _ (by rw[eu iK,if_pos rfl];rfl),fK rZ.out (by omega)⟩;rw[GH];clear GH;clear zc dB EX;have Ut:=bI wK;have kOK:=nQ (w:=wK) (fun u=>dM u (je oq cV)) Ym.out (·.below);have hO:=aa (fun(u:World) (h:Hid (Below w0.heap.size w0 u∧Own u ⟨g9,i*9,none⟩ (.int .i64 oq.num)∧Own u ⟨g9,i*9+1,none⟩ (.string oq.rs)∧Own u ⟨g9,i*9+2,none⟩ (.int .i64 oq.E1)∧Own u ⟨g9,i*9+3,none⟩ (.int .i64 oq.E2)∧Own u ⟨g9,i*9+4,none⟩ (.slice oq.A oq.na oq.ca)∧Own u ⟨g9,i*9+5,none⟩ (.int .i64 oq.C)∧Own u ⟨g9,i*9+6,none⟩ (.slice oq.Z oq.nz oq.cz)∧Own u ⟨g9,i*9+7,none⟩ (.slice oq.L oq.np oq.cp)∧Own u ⟨g9,i*9+8,none⟩ (.int .i64 cV)∧Own u ⟨w5.heap.size,0,none⟩ (.slice (some ⟨g9,0,none⟩) n c9)∧Own u ⟨w5.heap.size,1,none⟩ (.slice K9 m d9)))=>And.intro (kC.out u (aa h.out.1)) (And.intro (jr.out u (aa h.out.1)) (And.intro ((h.out.2.1).1) (And.intro ((h.out.2.2.1).1) (And.intro ((h.out.2.2.2.1).1) (And.intro ((h.out.2.2.2.2.1).1) (And.intro ((h.out.2.2.2.2.2.1).1) (And.intro ((h.out.2.2.2.2.2.2.1).1) (And.intro ((h.out.2.2.2.2.2.2.2.1).1) (And.intro ((h.out.2.2.2.2.2.2.2.2.1).1) (And.intro ((h.out.2.2.2.2.2.2.2.2.2.1).1) (And.intro ((h.out.2.2.2.2.2.2.2.2.2.2.1).1) ((h.out.2.2.2.2.2.2.2.2.2.2.2).1)))))))))))))
 have hBx7:=aa (show ∀u u2:World,Hid (Below w0.heap.size w0 u∧Own u ⟨g9,i*9,none⟩ (.int .i64 oq.num)∧Own u ⟨g9,i*9+1,none⟩ (.string oq.rs)∧Own u ⟨g9,i*9+2,none⟩ (.int .i64 oq.E1)∧Own u ⟨g9,i*9+3,none⟩ (.int .i64 oq.E2)∧Own u ⟨g9,i*9+4,none⟩ (.slice oq.A oq.na oq.ca)∧Own u ⟨g9,i*9+5,none⟩ (.int .i64 oq.C)∧Own u ⟨g9,i*9+6,none⟩ (.slice oq.Z oq.nz oq.cz)∧Own u ⟨g9,i*9+7,none⟩ (.slice oq.L oq.np oq.cp)∧Own u ⟨g9,i*9+8,none⟩ (.int .i64 cV)∧Own u ⟨w5.heap.size,0,none⟩ (.slice (some ⟨g9,0,none⟩) n c9)∧Own u ⟨w5.heap.size,1,none⟩ (.slice K9 m d9))→Below u.heap.size u u2→Hid (Below w0.heap.size w0 u2∧Own u2 ⟨g9,i*9,none⟩ (.int .i64 oq.num)∧Own u2 ⟨g9,i*9+1,none⟩ (.string oq.rs)∧Own u2 ⟨g9,i*9+2,none⟩ (.int .i64 oq.E1)∧Own u2 ⟨g9,i*9+3,none⟩ (.int .i64 oq.E2)∧Own u2 ⟨g9,i*9+4,none⟩ (.slice oq.A oq.na oq.ca)∧Own u2 ⟨g9,i*9+5,none⟩ (.int .i64 oq.C)∧Own u2 ⟨g9,i*9+6,none⟩ (.slice oq.Z oq.nz oq.cz)∧Own u2 ⟨g9,i*9+7,none⟩ (.slice oq.L oq.np oq.cp)∧Own u2 ⟨g9,i*9+8,none⟩ (.int .i64 cV)∧Own u2 ⟨w5.heap.size,0,none⟩ (.slice (some ⟨g9,0,none⟩) n c9)∧Own u2 ⟨w5.heap.size,1,none⟩ (.slice K9 m d9))from fun u u2 h1 h2=>aa ⟨(ag h1.out.1 h2),((h1.out.2.1).below h2),((h1.out.2.2.1).below h2),((h1.out.2.2.2.1).below h2),((h1.out.2.2.2.2.1).below h2),((h1.out.2.2.2.2.2.1).below h2),((h1.out.2.2.2.2.2.2.1).below h2),((h1.out.2.2.2.2.2.2.2.1).below h2),((h1.out.2.2.2.2.2.2.2.2.1).below h2),((h1.out.2.2.2.2.2.2.2.2.2.1).below h2),((h1.out.2.2.2.2.2.2.2.2.2.2.1).below h2),((h1.out.2.2.2.2.2.2.2.2.2.2.2).below h2)⟩);refine uG (fun u=>Below w0.heap.size w0 u∧Own u ⟨g9,i*9,none⟩ (.int .i64 oq.num)∧Own u ⟨g9,i*9+1,none⟩ (.string oq.rs)∧Own u ⟨g9,i*9+2,none⟩ (.int .i64 oq.E1)∧Own u ⟨g9,i*9+3,none⟩ (.int .i64 oq.E2)∧Own u ⟨g9,i*9+4,none⟩ (.slice oq.A oq.na oq.ca)∧Own u ⟨g9,i*9+5,none⟩ (.int .i64 oq.C)∧Own u ⟨g9,i*9+6,none⟩ (.slice oq.Z oq.nz oq.cz)∧Own u ⟨g9,i*9+7,none⟩ (.slice oq.L oq.np oq.cp)∧Own u ⟨g9,i*9+8,none⟩ (.int .i64 cV)∧Own u ⟨w5.heap.size,0,none⟩ (.slice (some ⟨g9,0,none⟩) n c9)∧Own u ⟨w5.heap.size,1,none⟩ (.slice K9 m d9)) [14] (hBx7.out _ _ (aa ⟨Il.out,Ug.out,HN1.out,QK.out,Yr.out,QJ.out,HN5.out,QI.out,Yq.out,HN8.out,QC.out,QB.out⟩) ((Below.refl _ _).drew)) (fun hHeld=>?_)
 refine aP 0 1 2 3 ?_;refine aP 5 6 7 8 ?_;refine aL 9 ?_;refine dh 4 fun K hK=>?_;go_simp;refine(zf _ n c _ hs m d i hm him hb2 _ (kH.out _ (aa hHeld.out.1))).mono ?_;rintro e wB ⟨rfl,bN⟩;have Q3:=aa (ag ((Below.refl wK.heap.size wK).drew) bN);refine hK.out _ _ (hBx7.out _ _ hHeld bN) (fun hHeld=>?_);clear hK K
 try simp only[qq]
 refine dh 10 fun K hK=>?_;go_simp;refine(C9 (eH hs i) J9 yZ (je oq cV) HIQ hSq _ (kD.out _ (aa hHeld.out.1)) (kOK.out _ Q3)).mono ?_;rintro e wA ⟨rfl,bN⟩;rw[HLK.out];have HBP:=aa (ag Q3.out bN);refine hK.out _ _ (hBx7.out _ _ hHeld bN) (fun hHeld=>?_);clear hK K
 try simp only[qq]
 refine dh 11 fun K hK=>?_;rw[show(if Region.wanted _ _=true then _ else _:Prop)=_ from if_pos rfl];refine UB 50 41 _ rfl RR fQ.out i2 Tryz.underlying50 hi2 hx0 hx1 rfl ?_;refine hK.out _ _ (hBx7.out _ _ hHeld (af _ _)) (fun hHeld=>?_);clear hK K
 try simp only[qq]
 refine dh 12 fun K hK=>?_;have pX:=aa (ag HBP.out (af wA (.cells (arr .u8 RR) 41)));have GI:=o6 HRW.out (fun b e=>pX.out.block b (by have:=qX.out.bk b e;have:=IB.out;omega));have WQ:∀b,wq.heap.size≤b→(B9<b∨b=b)→True:=fun _ _ _=>trivial;have hno:∀b,B9<b→(Value.slice K9 m d9).ownBlock≠some b:=fun b hb e=>by have:=qX.out.bk b e;omega
 have qp:=hno g9 (by omega);have hnot:=hno w5.heap.size (by omega);refine step_append_lies _ (by rfl) _ _ _ (by rfl) wq.heap.size 41 i2 (.agg (arr .u8 (dL 32))) 32 32 Tryz.underlying50 hi2 hx0 hx1 hx2 (by rfl) (by decide) _ m (hs.flatMap nA) (by rfl) GI ⟨wA.heap.size,0,none⟩ 1 1 (RR.map (Value.int .u8)) (by rfl) (by rw[List.length_map,fQ.out]) (World.news_of_block (cs:=arr .u8 RR) (t:=41) (fr:=(0,0)) (heap_alloc_new wA _)) (fun x hx=>by obtain⟨y,_,rfl⟩:=List.mem_map.1 hx;rfl) (by decide) (by unfold maxLen;omega) (by omega) (by have:=pX.out.size;have:=IB.out;omega) _ rfl ?_;intro gg cap uN nR dm xS Ev;have IE:=aa (aJ (Ug.out.below pX.out) dm qp);have QM:=aa (aJ (HN1.out.below pX.out) dm qp);have Uh:=aa (aJ (QK.out.below pX.out) dm qp);have Yt:=aa (aJ (Yr.out.below pX.out) dm qp);have HM4:=aa (aJ (QJ.out.below pX.out) dm qp);have HM5:=aa (aJ (HN5.out.below pX.out) dm qp);have HM6:=aa (aJ (QI.out.below pX.out) dm qp);have HM7:=aa (aJ (Yq.out.below pX.out) dm qp);have HM8:=aa (aJ (HN8.out.below pX.out) dm qp);have HT0:=aa (aJ (QC.out.below pX.out) dm hnot);have HT1:=aa (aJ (QB.out.below pX.out) dm hnot);have Q6:Hid (Below w0.heap.size w0 uN):=aa ((ag Il.out pX.out).grown dm ((ag Il.out pX.out).size) (fun b e=>by have:=qX.out.bk b e;omega));have Q4:Hid (∀b,b<(wA.alloc (.cells (arr .u8 RR) 41)).heap.size→(Value.slice K9 m d9).ownBlock≠some b→uN.heap[b]? = (wA.alloc (.cells (arr .u8 RR) 41)).heap[b]?):=aa (fun b h1 h2=>dm.block b h1 (fun e=>h2 e.symm));have HOWN:=aa nR;have YG:=aa xS;have afA:=aa Ev;clear GI WQ nR dm xS Ev hno qp hnot;refine hK.out _ _ ((aa ⟨Q6.out,IE.out,QM.out,Uh.out,Yt.out,HM4.out,HM5.out,HM6.out,HM7.out,HM8.out,HT0.out,HT1.out⟩)) (fun hHeld=>?_);clear hK K;refine aL 13 ?_;refine oz 14 fun K hK=>?_;have st7:=HT1.out.1;have fr7:=HT1.out.2;go_simp;refine hK.out _ _ ?_;clear hK K
 try simp only[qq]
 refine gM ?_;clear hHeld;obtain⟨wS,Mt⟩:∃x,uN.setCell ⟨w5.heap.size,1,none⟩ (.slice (some ⟨gg,0,none⟩) (m+1) cap)=x:=⟨_,rfl⟩;have WC:=Ig.out;have hAz:=pX.out.size;rw[IB.out]at hAz
 have Pq:(Value.slice K9 m d9).ownBlock=some gg∨w6.heap.size≤gg:=by
  rcases YG.out with e | e
  · exact .inl e
  · exact .inr (Nat.le_trans hAz (by first | exact e | exact Nat.le_of_eq e.symm | omega))
 have WY:gg≠w5.heap.size:=by
  rcases Pq with e | e
  · have:=qX.out.bk gg e;omega
  · omega
 have WZ:g9≠w5.heap.size:=by omega
 have W9:(Value.slice K9 m d9).ownBlock≠some g9:=fun e=>by have:=qX.out.bk g9 e;omega
 have t0:wS.cell? ⟨w5.heap.size,0,none⟩=some (.slice (some ⟨g9,0,none⟩) n c9):=by rw[←Mt];exact(ak HT0.out (by simp)).1
 have t1:wS.cell? ⟨w5.heap.size,1,none⟩=some (.slice (some ⟨gg,0,none⟩) (m+1) cap):=by rw[←Mt];exact(bu HT1.out).1
 have YS:Hid (Below w0.heap.size w0 wS):=aa (by rw[←Mt];exact Q6.out.setCell (show w0.heap.size≤w5.heap.size by omega) _);have jU:=nZ.out _ YS;have YH:Hid (∀b,b≠w5.heap.size→wS.heap[b]? = uN.heap[b]?):=aa (fun b hb=>by rw[←Mt];exact Go.Deep.blk_setCell_other _ _ _ _ hb);have HFA:Hid (∀b,b<w6.heap.size→(Value.slice K9 m d9).ownBlock≠some b→b≠g9→b≠w5.heap.size→wS.heap[b]? = w6.heap[b]?):=aa (fun b h1 h2 h3 h4=>(YH.out b h4).trans ((Q4.out b (by omega) h2).trans ((pX.out.block b (by have:=IB.out;omega)).trans (YI.out b h3))));have HRS:Hid (pF nV 9 dN wS g9 (Jb.set i (je oq cV)) n):=aa (rZ.out.agree ((YH.out g9 WZ).trans ((Q4.out g9 (by omega) W9).trans (pX.out.block g9 (by have:=IB.out;omega)))));have Vi:Hid (wS.heap[gg]? = uN.heap[gg]?):=aa (YH.out gg WY);rw[Mt];clear Mt st7 fr7
 go_wp2_with ((with_reducible show wpList _ _ _ (⟨none,_,_,_,_,_⟩::_) _ _);refine wpList_store_row rfl 52 _ _ rfl (w.heap.size+3) #[.slice (some ⟨g9,0,none⟩) n c9, .slice (some ⟨gg,0,none⟩) (m+1) cap] rfl rfl _ _ jU.out (by kernel_rfl) rfl (by simp[Value.oneCell']) ?_)
 have hrw:=setRow_heap _ _ _ #[.slice (some ⟨g9,0,none⟩) n c9, .slice (some ⟨gg,0,none⟩) (m+1) cap] _ _ jU.out;have bT:=aj (ag ai.out YS.out) (cs:=#[.slice (some ⟨g9,0,none⟩) n c9, .slice (some ⟨gg,0,none⟩) (m+1) cap]) (Nat.le_add_right w.heap.size 3);have hsz0:w0.heap.size=w.heap.size+4:=by rw[←HW.out];simp
 have hgr:g9≠w.heap.size+3:=by omega
 have WW:gg≠w.heap.size+3:=by
  rcases Pq with e | e
  · have:=qX.out.bk gg e;omega
  · omega
 obtain⟨hl2,WG,ho2,hh2⟩:=qX.out.closed (wF:=wS.setRow (w.heap.size+3) #[.slice (some ⟨g9,0,none⟩) n c9, .slice (some ⟨gg,0,none⟩) (m+1) cap]) (r:=w.heap.size+3) (gT:=w5.heap.size) (key:=cV) (i:=i) (hh:=RR) (uN:=uN) (K9:=some ⟨gg,0,none⟩) (d9:=cap) (xQ hH.out) hm.out hn.out hi HOWN.out fQ.out (fun b e=>by
   obtain rfl:gg=b:=by injection e
   exact(setRow_other _ _ _ _ WW).trans Vi.out) (fun b h1 h2 h3 h4 h5=>(setRow_other _ _ _ _ h5).trans (HFA.out b h1 h2 h3 h4)) (Nat.le_refl _) ⟨by omega,by omega⟩ (by rw[Yl.out];exact HRS.out.agree (setRow_other _ _ _ _ hgr))
 rw[HRR.out];exact bodyPost_ret (v:= .tuple #[iA (some ⟨g9,0,none⟩) n c9 (some ⟨gg,0,none⟩) (m+1) cap, .int .i64 cV, .int .i64 0]) (bH (p:=8) (q:=9) (r:=10) (ty:=52) rfl _ _ ⟨w.heap.size+3,0,none⟩ _ _ _ rfl rfl rfl (run_loadVar_row _ _ _ _ _ _ _ hrw Tryz.underlying52 rfl (by kernel_rfl))) rfl ⟨some ⟨g9,0,none⟩,c9,some ⟨gg,0,none⟩,cap,_,rfl,hl2,WG,ho2,hh2,bT⟩
theorem PW {P Q G need:Int} {kn:Nat} {E1 E2:Int} {ps:List aS} (hv:a_ P Q G=true)(he:iU P Q need kn E1 E2 ps=0):i64 (lT P Q need kn E1 E2 ps):=by
 unfold lT;rw[if_pos he];obtain⟨h1,h2,-,-⟩:=bW hv
 have hm:aN P Q E2=true:=by
  cases h:aN P Q E2 with
  | true=>rfl
  | false=>exfalso;simp[iU,h]at he
 have h3:=gD hm;have h4:=gF hm;have h5:=vN (Q:=Q) (vs:=Ec ps) (ws:=wU Q ((mh ps).take need.toNat) 0) h1 (show 0≤E2 by omega) h4 need.toNat;exact⟨by omega,by omega⟩
theorem abf {o:aG} {x:Int} (hi:dD o)(hx:i64 x):dD (je o x):=by
 obtain⟨h1,h2,h3,h4,h5,h6,h7,h8⟩:=hi;exact⟨h1,h2,h3,h4,hx,h6,h7,h8⟩
theorem abe {o:aG} {x:Int} (h9:fE o):fE (je o x):=⟨h9.a,h9.z,h9.n,h9.p,h9.r0,h9.r1⟩
theorem RF (P Q G:Int)(need:Int)(Cs:Option Addr)(cs:List Int)(cn cc:Nat)(Ks:Option Addr)(ks:List Int)(kn kc:Nat)(hcn:Hid (cs.length=cn))(hkn:Hid (ks.length=kn))(hQ:Q<9223372036854775808)(O:Option Addr)(os:List aG)(n c:Nat)(K:Option Addr)(hs:List (List Int))(m d:Nat)(hn:Hid (os.length=n))(hm:Hid (hs.length=m))(hI:Hid (∀k,k<n→dD (bz os k)))(i:Int)(w:World)(hv:Hid (Vars w))(hd0:Hid (bB w))(hC:Hid (Sl w Cs cs))(hK:Hid (Sl w Ks ks))(hO:Hid (Os w O os))(hH:Hid (Hs w K hs)) :
  Calls Tryz.prog 7 #[gv P Q G,jY need Cs cn cc Ks kn kc,iA O n c K m d, .int .i64 i] w (Rt w (.bool true)):=by
 obtain⟨w0,HW,ai,kC⟩:=qD (bg P Q G) fq (.cells #[.int .i64 need, .slice Cs cn cc, .slice Ks kn kc] 26) fq (jC O n c K m d) qx w;have kO:=fo (fun u=>Os u O os) ai hO (·.below);have kH:=fo (fun u=>Hs u K hs) ai hH (·.below);have kD:=oF ai hd0;have jb:=mkS ai hC;have ja:=mkS ai hK;have kV:=mkV ai hv;have ah:=bI w0;clear hC hK hd0 hv hH;go_in
 go_upto_region 1 with(fail)
 rw[HW.out];have zc:=kC.out _ ah
 go_wp2_with fail
 clear zc;refine fe kC ah (Ak _ (kD.out _ ah)) fun w1 ax zc=>?_
 go_wp2_with fail
 refine(MF O os n c K m d hn _ (kO.out _ ax)).mono ?_;rintro e w2 ⟨bf,rfl,hbf,hb0⟩;have gU:=aa hbf;clear hbf;have az:=bJ ax hb0;clear zc hb0;have zc:=kC.out _ az
 cases bf with
 | false=>
  go_wp2_with fail
  clear zc;refine fe kC az (Ak _ (kD.out _ az)) fun w3 aW zc=>?_;go_wp2;go_ret;exact⟨rfl,f_ ai aW⟩
 | true=>
  have hbb:=gU.out rfl;have hb1:n≤1000000:=by omega
  have hb2:m≤1000000:=by omega
  have hb3:m+1≤1000000:=by omega
  clear hbb gU
  by_cases h1:20<kn
  ·
   have d1:decide ((20:Int)<(kn:Int))=true:=by simp;omega
   go_wp2_with fail
   clear zc;refine fe kC az (Ak _ (kD.out _ az)) fun w3 aW zc=>?_;go_wp2;go_ret;exact⟨rfl,f_ ai aW⟩
  ·
   have d1:decide ((20:Int)<(kn:Int))=false:=by simp;omega
   by_cases h2:20<cn
   ·
    have d2:decide ((20:Int)<(cn:Int))=true:=by simp;omega
    go_wp2_with fail
    clear zc;refine fe kC az (Ak _ (kD.out _ az)) fun w3 aW zc=>?_;go_wp2;go_ret;exact⟨rfl,f_ ai aW⟩
   ·
    have d2:decide ((20:Int)<(cn:Int))=false:=by simp;omega
    obtain⟨er,her⟩:∃x,Iw P Q G need cs ks os hs n i=x:=⟨_,rfl⟩;have wT:=aa her
    by_cases hne:er=0
    ·
     subst hne;have hg:=her;unfold Iw at hg
     have hT:gJ os hs=true:=by
      cases e:gJ os hs with
      | true=>rfl
      | false=>rw[e]at hg;simp at hg
     have hTr:pQ P Q G need cs ks=true:=by
      cases e:pQ P Q G need cs ks with
      | true=>rfl
      | false=>rw[hT,e]at hg;simp at hg
     have hi0:¬i<0:=fun e=>by rw[hT,hTr]at hg;simp[e]at hg
     have hin:¬(n:Int)≤i:=fun e=>by rw[hT,hTr]at hg;simp[hi0,e]at hg
     clear hg her;obtain⟨ii,rfl⟩:∃k:Nat,i=(k:Int):=⟨i.toNat,by omega⟩;have hi:ii<n:=by omega
     have HT:Kp (gJ os hs=true):=⟨hT⟩;have aii:1≤need:=(lu hTr hcn.out hkn.out).2.2.2.2.1;obtain⟨nd,rfl⟩:∃k:Nat,need=(k:Int):=⟨need.toNat,by omega⟩;have Na:=aa hTr;have hvG:a_ P Q G=true:=(lu hTr hcn.out hkn.out).1.out
     have BA:∀k,k<n→fE (bz os k):=fun k hk=>by
      obtain⟨_,_,-,-,hok⟩:=hO.out k (by rw[hn.out];exact hk);exact jM (fD (iI (fJ hT).1 k (by rw[hn.out];exact hk))).1 hok
     clear hT hTr
     by_cases Ah:(bz os ii).np<nd
     ·
      go_wp2_with fail
      refine(ZH P Q G nd Cs cs cn cc Ks ks kn kc hcn hkn hQ O os n c K hs m d hn hm hI hb1 hb2 ii hi HT Na wT Ah _ (kV.out _ az) (kD.out _ az) (jb.out _ az) (ja.out _ az) (kO.out _ az) (kH.out _ az)).mono ?_;rintro e w3 ⟨O7,c7,K7,d7,xE,rfl,KU,hs7,Fb,KW,hb0⟩;have Ul:=aa KU;have QD:=aa hs7;have Ii:=aa Fb;have QU:=aa KW;clear KU hs7 Fb KW;have aW:=bJ az hb0;clear zc hb0;have zc:=kC.out _ aW;have fZ:=bI w3;have SF:=nQ (w:=w3) (fun u=>Os u O7 xE) Ii.out (·.below);have SH:=nQ (w:=w3) (fun u=>Hs u K7 []) QU.out (·.below);obtain⟨w4,hw,wH,J2,-,kX⟩:=pO (jC O7 0 c7 K7 0 d7) qx w3;have bE:=iW aW wH;have kF:=iW fZ wH;have dJ:=bI w4;clear wH;clear zc;have zc:=kC.out _ bE;have sV:=kX.out _ dJ
      go_wp2_with fail
      clear hw
      go_wp2_with fail
      refine(ZT P Q G nd Cs cs cn cc Ks ks kn kc hcn hkn hQ O os n c K hs m d hn hm hI hb1 hb2 ii hi HT Na wT Ah _ (kV.out _ bE) (kD.out _ bE) (jb.out _ bE) (ja.out _ bE) (kO.out _ bE) (kH.out _ bE)).mono ?_;rintro e w5 ⟨O8,c8,K8,d8,zZ,rfl,KT,KR,KS,KV,hb0⟩;have Uk:=aa KT;have HS8:=aa KR;have J5:=aa KS;have Lj:=aa KV;clear KT KR KS KV;have iH:=bJ bE hb0;have jQ:=bJ kF hb0;have fB:=bJ dJ hb0;clear zc sV hb0;have zc:=kC.out _ iH;have sV:=kX.out _ fB;have h_:=bI w5;have SC:=nQ (w:=w5) (fun u=>Os u O8 zZ) J5.out (·.below);have SG:=nQ (w:=w5) (fun u=>Hs u K8 []) Lj.out (·.below);obtain⟨w6,hw,r9,Ig,-,kY⟩:=pO (jC O8 0 c8 K8 0 d8) qx w5;have jg:=iW iH r9;have fC:=iW jQ r9;have gH:=iW fB r9;have dV:=iW h_ r9;have gG:=bI w6;clear r9;clear zc sV;have zc:=kC.out _ jg;have sV:=kX.out _ gH;have Kg:=kY.out _ gG
      go_wp2_with fail
      clear hw;have ym:Hid (∀k,k<0→fE (bz xE k)∧fE (bz zZ k)∧dD (bz xE k)∧xJ (bz xE k)=xJ (bz zZ k)):=aa (fun k hk=>absurd hk (by omega))
      go_wp2_with fail
      refine(oQ O7 xE c7 K7 d7 O8 zZ c8 K8 d8 0 _ 0 Ul Uk (aa rfl) (by omega) (by omega) ym _ (SF.out _ fC) (SH.out _ fC) (SC.out _ dV) (SG.out _ dV)).mono ?_;rintro e w7 ⟨rfl,hb0⟩;have pW:=bJ jg hb0;have uU:=bJ fC hb0;have ow:=bJ gH hb0;have uT:=bJ dV hb0;have ou:=bJ gG hb0;clear zc sV Kg hb0;have zc:=kC.out _ pW;have sV:=kX.out _ ow;have Kg:=kY.out _ ou;go_wp2;go_ret;exact⟨rfl,f_ ai pW⟩
     ·
      cases hal:vI (fun k=>zC P Q G (nd:Int) cs ks (eH hs ii) (bz os ii) ((bz os ii).ps.getD k aC)) (bz os ii).np with
      | false=>
       have Co:=aa hal;clear hal
       go_wp2_with fail
       refine(ZE P Q G nd Cs cs cn cc Ks ks kn kc hcn hkn hQ O os n c K hs m d hn hm hI hb1 hb2 ii hi HT Na wT Ah Co _ (kV.out _ az) (kD.out _ az) (jb.out _ az) (ja.out _ az) (kO.out _ az) (kH.out _ az)).mono ?_;rintro e w3 ⟨O7,c7,K7,d7,xE,rfl,KU,hs7,Fb,KW,hb0⟩;have Ul:=aa KU;have QD:=aa hs7;have Ii:=aa Fb;have QU:=aa KW;clear KU hs7 Fb KW;have aW:=bJ az hb0;clear zc hb0;have zc:=kC.out _ aW;have fZ:=bI w3;have SF:=nQ (w:=w3) (fun u=>Os u O7 xE) Ii.out (·.below);have SH:=nQ (w:=w3) (fun u=>Hs u K7 []) QU.out (·.below);obtain⟨w4,hw,wH,J2,-,kX⟩:=pO (jC O7 0 c7 K7 0 d7) qx w3;have bE:=iW aW wH;have kF:=iW fZ wH;have dJ:=bI w4;clear wH;clear zc;have zc:=kC.out _ bE;have sV:=kX.out _ dJ
       go_wp2_with fail
       clear hw
       go_wp2_with fail
       refine(ZP P Q G nd Cs cs cn cc Ks ks kn kc hcn hkn hQ O os n c K hs m d hn hm hI hb1 hb2 ii hi HT Na wT Ah Co _ (kV.out _ bE) (kD.out _ bE) (jb.out _ bE) (ja.out _ bE) (kO.out _ bE) (kH.out _ bE)).mono ?_;rintro e w5 ⟨O8,c8,K8,d8,zZ,rfl,KT,KR,KS,KV,hb0⟩;have Uk:=aa KT;have HS8:=aa KR;have J5:=aa KS;have Lj:=aa KV;clear KT KR KS KV;have iH:=bJ bE hb0;have jQ:=bJ kF hb0;have fB:=bJ dJ hb0;clear zc sV hb0;have zc:=kC.out _ iH;have sV:=kX.out _ fB;have h_:=bI w5;have SC:=nQ (w:=w5) (fun u=>Os u O8 zZ) J5.out (·.below);have SG:=nQ (w:=w5) (fun u=>Hs u K8 []) Lj.out (·.below);obtain⟨w6,hw,r9,Ig,-,kY⟩:=pO (jC O8 0 c8 K8 0 d8) qx w5;have jg:=iW iH r9;have fC:=iW jQ r9;have gH:=iW fB r9;have dV:=iW h_ r9;have gG:=bI w6;clear r9;clear zc sV;have zc:=kC.out _ jg;have sV:=kX.out _ gH;have Kg:=kY.out _ gG
       go_wp2_with fail
       clear hw;have ym:Hid (∀k,k<0→fE (bz xE k)∧fE (bz zZ k)∧dD (bz xE k)∧xJ (bz xE k)=xJ (bz zZ k)):=aa (fun k hk=>absurd hk (by omega))
       go_wp2_with fail
       refine(oQ O7 xE c7 K7 d7 O8 zZ c8 K8 d8 0 _ 0 Ul Uk (aa rfl) (by omega) (by omega) ym _ (SF.out _ fC) (SH.out _ fC) (SC.out _ dV) (SG.out _ dV)).mono ?_;rintro e w7 ⟨rfl,hb0⟩;have pW:=bJ jg hb0;have uU:=bJ fC hb0;have ow:=bJ gH hb0;have uT:=bJ dV hb0;have ou:=bJ gG hb0;clear zc sV Kg hb0;have zc:=kC.out _ pW;have sV:=kX.out _ ow;have Kg:=kY.out _ ou;go_wp2;go_ret;exact⟨rfl,f_ ai pW⟩
      | true=>
       have Co:=aa hal;clear hal;obtain⟨cV,hcV⟩:∃x,lT P Q (nd:Int) kn (bz os ii).E1 (bz os ii).E2 (bz os ii).ps=x:=⟨_,rfl⟩;have zQ:=aa hcV;obtain⟨cE,Tj⟩:∃x,iU P Q (nd:Int) kn (bz os ii).E1 (bz os ii).E2 (bz os ii).ps=x:=⟨_,rfl⟩;have zR:=aa Tj
       by_cases W_:cE=0
       ·
        subst W_;have hcv:i64 cV:=by rw[←hcV];exact PW hvG Tj
        clear hcV Tj;have hSa:fE (je (bz os ii) cV):=abe (BA ii hi);have hIa:dD (je (bz os ii) cV):=abf (hI.out ii hi) hcv
        go_wp2_with fail
        refine(ZF P Q G nd Cs cs cn cc Ks ks kn kc hcn hkn hQ O os n c K hs m d hn hm hI hb1 hb2 ii hi HT Na wT Ah Co cV zR zQ hcv _ (kV.out _ az) (kD.out _ az) (jb.out _ az) (ja.out _ az) (kO.out _ az) (kH.out _ az)).mono ?_;rintro e w3 ⟨O7,c7,K7,d7,xE,rfl,KU,hs7,Fb,KW,hb0⟩;have Ul:=aa KU;have QD:=aa hs7;have Ii:=aa Fb;have QU:=aa KW;clear KU hs7 Fb KW;have aW:=bJ az hb0;clear zc hb0;have zc:=kC.out _ aW;have fZ:=bI w3;have SF:=nQ (w:=w3) (fun u=>Os u O7 xE) Ii.out (·.below);have SH:=nQ (w:=w3) (fun u=>Hs u K7 (hs ++ [zI (eH hs ii) (je (bz os ii) cV)])) QU.out (·.below);obtain⟨w4,hw,wH,J2,-,kX⟩:=pO (jC O7 n c7 K7 (m+1) d7) qx w3;have bE:=iW aW wH;have kF:=iW fZ wH;have dJ:=bI w4;clear wH;clear zc;have zc:=kC.out _ bE;have sV:=kX.out _ dJ
        go_wp2_with fail
        clear hw
        go_wp2_with fail
        refine(ZQ P Q G nd Cs cs cn cc Ks ks kn kc hcn hkn hQ O os n c K hs m d hn hm hI hb1 hb2 ii hi HT Na wT Ah Co cV zR zQ hcv _ (kV.out _ bE) (kD.out _ bE) (jb.out _ bE) (ja.out _ bE) (kO.out _ bE) (kH.out _ bE)).mono ?_;rintro e w5 ⟨O8,c8,K8,d8,zZ,rfl,KT,KR,KS,KV,hb0⟩;have Uk:=aa KT;have HS8:=aa KR;have J5:=aa KS;have Lj:=aa KV;clear KT KR KS KV;have iH:=bJ bE hb0;have jQ:=bJ kF hb0;have fB:=bJ dJ hb0;clear zc sV hb0;have zc:=kC.out _ iH;have sV:=kX.out _ fB;have h_:=bI w5;have SC:=nQ (w:=w5) (fun u=>Os u O8 zZ) J5.out (·.below);have SG:=nQ (w:=w5) (fun u=>Hs u K8 (hs ++ [zI (eH hs ii) (je (bz os ii) cV)])) Lj.out (·.below);obtain⟨w6,hw,r9,Ig,-,kY⟩:=pO (jC O8 n c8 K8 (m+1) d8) qx w5;have jg:=iW iH r9;have fC:=iW jQ r9;have gH:=iW fB r9;have dV:=iW h_ r9;have gG:=bI w6;clear r9;clear zc sV;have zc:=kC.out _ jg;have sV:=kX.out _ gH;have Kg:=kY.out _ gG
        go_wp2_with fail
        clear hw
        have ym:Hid (∀k,k<n→fE (bz xE k)∧fE (bz zZ k)∧dD (bz xE k)∧xJ (bz xE k)=xJ (bz zZ k)):=aa (fun k hk=>by
         have s7:=QD.out k hk;have s8:=HS8.out k hk
         have hX:fE (bz (os.set ii (je (bz os ii) cV)) k)∧dD (bz (os.set ii (je (bz os ii) cV)) k):=by
          rw[z_ (by rw[hn.out];exact hi)]
          by_cases e:k=ii
          · rw[if_pos e];exact⟨hSa,hIa⟩
          · rw[if_neg e];exact⟨BA k hk,hI.out k hk⟩
         exact⟨s7.s hX.1,s8.s hX.1,s7.i hX.2,s7.it.trans s8.it.symm⟩)
        go_wp2_with fail
        refine(oQ O7 xE c7 K7 d7 O8 zZ c8 K8 d8 n _ (m+1) Ul Uk (aa (by rw[List.length_append,hm.out];rfl)) (by omega) (by omega) ym _ (SF.out _ fC) (SH.out _ fC) (SC.out _ dV) (SG.out _ dV)).mono ?_;rintro e w7 ⟨rfl,hb0⟩;have pW:=bJ jg hb0;have uU:=bJ fC hb0;have ow:=bJ gH hb0;have uT:=bJ dV hb0;have ou:=bJ gG hb0;clear zc sV Kg hb0;have zc:=kC.out _ pW;have sV:=kX.out _ ow;have Kg:=kY.out _ ou;go_wp2;go_ret;exact⟨rfl,f_ ai pW⟩
       ·
        clear hcV Tj
        go_wp2_with fail
        refine(ZI P Q G nd Cs cs cn cc Ks ks kn kc hcn hkn hQ O os n c K hs m d hn hm hI hb1 hb2 ii hi HT Na wT Ah Co cV cE zR zQ W_ _ (kV.out _ az) (kD.out _ az) (jb.out _ az) (ja.out _ az) (kO.out _ az) (kH.out _ az)).mono ?_;rintro e w3 ⟨O7,c7,K7,d7,xE,rfl,KU,hs7,Fb,KW,hb0⟩;have Ul:=aa KU;have QD:=aa hs7;have Ii:=aa Fb;have QU:=aa KW;clear KU hs7 Fb KW;have aW:=bJ az hb0;clear zc hb0;have zc:=kC.out _ aW;have fZ:=bI w3;have SF:=nQ (w:=w3) (fun u=>Os u O7 xE) Ii.out (·.below);have SH:=nQ (w:=w3) (fun u=>Hs u K7 []) QU.out (·.below);obtain⟨w4,hw,wH,J2,-,kX⟩:=pO (jC O7 0 c7 K7 0 d7) qx w3;have bE:=iW aW wH;have kF:=iW fZ wH;have dJ:=bI w4;clear wH;clear zc;have zc:=kC.out _ bE;have sV:=kX.out _ dJ
        go_wp2_with fail
        clear hw
        go_wp2_with fail
        refine(ZU P Q G nd Cs cs cn cc Ks ks kn kc hcn hkn hQ O os n c K hs m d hn hm hI hb1 hb2 ii hi HT Na wT Ah Co cV cE zR zQ W_ _ (kV.out _ bE) (kD.out _ bE) (jb.out _ bE) (ja.out _ bE) (kO.out _ bE) (kH.out _ bE)).mono ?_;rintro e w5 ⟨O8,c8,K8,d8,zZ,rfl,KT,KR,KS,KV,hb0⟩;have Uk:=aa KT;have HS8:=aa KR;have J5:=aa KS;have Lj:=aa KV;clear KT KR KS KV;have iH:=bJ bE hb0;have jQ:=bJ kF hb0;have fB:=bJ dJ hb0;clear zc sV hb0;have zc:=kC.out _ iH;have sV:=kX.out _ fB;have h_:=bI w5;have SC:=nQ (w:=w5) (fun u=>Os u O8 zZ) J5.out (·.below);have SG:=nQ (w:=w5) (fun u=>Hs u K8 []) Lj.out (·.below);obtain⟨w6,hw,r9,Ig,-,kY⟩:=pO (jC O8 0 c8 K8 0 d8) qx w5;have jg:=iW iH r9;have fC:=iW jQ r9;have gH:=iW fB r9;have dV:=iW h_ r9;have gG:=bI w6;clear r9;clear zc sV;have zc:=kC.out _ jg;have sV:=kX.out _ gH;have Kg:=kY.out _ gG
        go_wp2_with fail
        clear hw;have ym:Hid (∀k,k<0→fE (bz xE k)∧fE (bz zZ k)∧dD (bz xE k)∧xJ (bz xE k)=xJ (bz zZ k)):=aa (fun k hk=>absurd hk (by omega))
        go_wp2_with fail
        refine(oQ O7 xE c7 K7 d7 O8 zZ c8 K8 d8 0 _ 0 Ul Uk (aa rfl) (by omega) (by omega) ym _ (SF.out _ fC) (SH.out _ fC) (SC.out _ dV) (SG.out _ dV)).mono ?_;rintro e w7 ⟨rfl,hb0⟩;have pW:=bJ jg hb0;have uU:=bJ fC hb0;have ow:=bJ gH hb0;have uT:=bJ dV hb0;have ou:=bJ gG hb0;clear zc sV Kg hb0;have zc:=kC.out _ pW;have sV:=kX.out _ ow;have Kg:=kY.out _ ou;go_wp2;go_ret;exact⟨rfl,f_ ai pW⟩
    ·
     clear her
     go_wp2_with fail
     refine(ZG P Q G need Cs cs cn cc Ks ks kn kc hcn hkn hQ O os n c K hs m d hn hm hI hb1 hb2 i er wT hne _ (kV.out _ az) (kD.out _ az) (jb.out _ az) (ja.out _ az) (kO.out _ az) (kH.out _ az)).mono ?_;rintro e w3 ⟨O7,c7,K7,d7,xE,rfl,KU,hs7,Fb,KW,hb0⟩;have Ul:=aa KU;have QD:=aa hs7;have Ii:=aa Fb;have QU:=aa KW;clear KU hs7 Fb KW;have aW:=bJ az hb0;clear zc hb0;have zc:=kC.out _ aW;have fZ:=bI w3;have SF:=nQ (w:=w3) (fun u=>Os u O7 xE) Ii.out (·.below);have SH:=nQ (w:=w3) (fun u=>Hs u K7 []) QU.out (·.below);obtain⟨w4,hw,wH,J2,-,kX⟩:=pO (jC O7 0 c7 K7 0 d7) qx w3;have bE:=iW aW wH;have kF:=iW fZ wH;have dJ:=bI w4;clear wH;clear zc;have zc:=kC.out _ bE;have sV:=kX.out _ dJ
     go_wp2_with fail
     clear hw
     go_wp2_with fail
     refine(ZR P Q G need Cs cs cn cc Ks ks kn kc hcn hkn hQ O os n c K hs m d hn hm hI hb1 hb2 i er wT hne _ (kV.out _ bE) (kD.out _ bE) (jb.out _ bE) (ja.out _ bE) (kO.out _ bE) (kH.out _ bE)).mono ?_;rintro e w5 ⟨O8,c8,K8,d8,zZ,rfl,KT,KR,KS,KV,hb0⟩;have Uk:=aa KT;have HS8:=aa KR;have J5:=aa KS;have Lj:=aa KV;clear KT KR KS KV;have iH:=bJ bE hb0;have jQ:=bJ kF hb0;have fB:=bJ dJ hb0;clear zc sV hb0;have zc:=kC.out _ iH;have sV:=kX.out _ fB;have h_:=bI w5;have SC:=nQ (w:=w5) (fun u=>Os u O8 zZ) J5.out (·.below);have SG:=nQ (w:=w5) (fun u=>Hs u K8 []) Lj.out (·.below);obtain⟨w6,hw,r9,Ig,-,kY⟩:=pO (jC O8 0 c8 K8 0 d8) qx w5;have jg:=iW iH r9;have fC:=iW jQ r9;have gH:=iW fB r9;have dV:=iW h_ r9;have gG:=bI w6;clear r9;clear zc sV;have zc:=kC.out _ jg;have sV:=kX.out _ gH;have Kg:=kY.out _ gG
     go_wp2_with fail
     clear hw;have ym:Hid (∀k,k<0→fE (bz xE k)∧fE (bz zZ k)∧dD (bz xE k)∧xJ (bz xE k)=xJ (bz zZ k)):=aa (fun k hk=>absurd hk (by omega))
     go_wp2_with fail
     refine(oQ O7 xE c7 K7 d7 O8 zZ c8 K8 d8 0 _ 0 Ul Uk (aa rfl) (by omega) (by omega) ym _ (SF.out _ fC) (SH.out _ fC) (SC.out _ dV) (SG.out _ dV)).mono ?_;rintro e w7 ⟨rfl,hb0⟩;have pW:=bJ jg hb0;have uU:=bJ fC hb0;have ow:=bJ gH hb0;have uT:=bJ dV hb0;have ou:=bJ gG hb0;clear zc sV Kg hb0;have zc:=kC.out _ pW;have sV:=kX.out _ ow;have Kg:=kY.out _ ou;go_wp2;go_ret;exact⟨rfl,f_ ai pW⟩
end Go.Proofs.YtchcllcbknfikaaGreatDoor