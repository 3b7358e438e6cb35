/- Contracts and lemmas: TrB, TrC, TrD, TrE, TrF, TrG, TrH, DrA, DrC, Two, TruD, Cmb, LcA, LcB, LinG, LinI. -/
import Derived.Laws.AppendOwnNone
import Derived.Deep.AppendLies
import Derived.Deep.MidRow
import Derived.Test.YtchcllcbknfikaaGreatDoorTc4
set_option linter.unusedVariables false
set_option linter.unusedSimpArgs false
set_option maxRecDepth 100000
set_option maxHeartbeats 25600000
namespace Go.Proofs.YtchcllcbknfikaaGreatDoor
open Go.RowKit sH
def dK (h:List Int)(c:Int):Array Value:=arr .u8 h ++ #[.int .i64 c]
theorem Jh:∀h:List Int,h.length=32→∃a0 a1 a2 a3 a4 a5 a6 a7 a8 a9 Zc Zb a12 Za Y_ Y9 a16 a17 Y8 Y7 a20 a21 a22 a23 a24 a25 a26 a27 a28 a29 a30 a31,h = [a0,a1,a2,a3,a4,a5,a6,a7,a8,a9,Zc,Zb,a12,Za,Y_,Y9,a16,a17,Y8,Y7,a20,a21,a22,a23,a24,a25,a26,a27,a28,a29,a30,a31]
 | [a0,a1,a2,a3,a4,a5,a6,a7,a8,a9,Zc,Zb,a12,Za,Y_,Y9,a16,a17,Y8,Y7,a20,a21,a22,a23,a24,a25,a26,a27,a28,a29,a30,a31],_=>⟨a0,a1,a2,a3,a4,a5,a6,a7,a8,a9,Zc,Zb,a12,Za,Y_,Y9,a16,a17,Y8,Y7,a20,a21,a22,a23,a24,a25,a26,a27,a28,a29,a30,a31,rfl⟩
theorem XF:Tryz.prog.built 237 []=some (dK (dL 32) 0):=by kernel_rfl
theorem Qm (h:List Int)(hl:h.length=32):Tryz.prog.built 237 [(0, .agg (arr .u8 h))]=some (dK h 0):=by
 obtain⟨a0,a1,a2,a3,a4,a5,a6,a7,a8,a9,Zc,Zb,a12,Za,Y_,Y9,a16,a17,Y8,Y7,a20,a21,a22,a23,a24,a25,a26,a27,a28,a29,a30,a31,rfl⟩:=Jh h hl
 kernel_rfl
theorem Ql (h:List Int)(hl:h.length=32)(c:Int):Tryz.prog.built 237 [(0, .agg (arr .u8 h)),(1, .int .i64 c)]=some (dK h c):=by
 obtain⟨a0,a1,a2,a3,a4,a5,a6,a7,a8,a9,Zc,Zb,a12,Za,Y_,Y9,a16,a17,Y8,Y7,a20,a21,a22,a23,a24,a25,a26,a27,a28,a29,a30,a31,rfl⟩:=Jh h hl
 kernel_rfl
theorem nU {P:Program} {ops:Array Oper} {rest:List Oper} {o:Oper} {a:Act} {w:World} {Q:Exit→Act→World→Prop} (hg:o.guard=none)(t:TypeId)(l:List (Nat × Operand))(ho:o.op = .build t l.toArray)(cells:Array Value)
  (hf:P.built t (l.map fun x=>(x.1,a.eval x.2))=some cells) (h:wpList P ops Q rest (a.put o.dst (.agg cells)) w):wpList P ops Q (o::rest) a w:=by
 have e:(l.toArray.map fun(x:Nat × Operand)=>(x.1,a.eval x.2)).toList=l.map fun x=>(x.1,a.eval x.2):=by simp
 refine wpList_build hg t l.toArray ho ?_ ?_
 ·
  show(P.built t (l.toArray.map fun(x:Nat × Operand)=>(x.1,a.eval x.2)).toList).isSome=true
  rw[e,hf];rfl
 ·
  show wpList P ops Q rest (a.put o.dst (.agg ((P.built t (l.toArray.map fun(x:Nat × Operand)=>(x.1,a.eval x.2)).toList).getD #[]))) w
  rw[e,hf];exact h
theorem wX {h:List Int} {c:Int} (hl:h.length=32):(dK h c).size=33:=by simp[dK,dW,hl]
theorem aam:(Tryz.prog.info? 237).map (·.size)=some 33:=by kernel_rfl
theorem aT {h:List Int} {c:Int} (hl:h.length=32):(Tryz.prog.info? 237).map (·.size)=some (dK h c).size:=aam.trans (congrArg some (wX hl).symm)
theorem eP (h:List Int)(c:Int):(dK h c).all (·.oneCell')=true:=by simp[dK,arr,Value.oneCell']
theorem Lt:(#[.int .u8 0, .int .u8 0, .int .u8 0, .int .u8 0, .int .u8 0, .int .u8 0, .int .u8 0, .int .u8 0, .int .u8 0, .int .u8 0, .int .u8 0, .int .u8 0, .int .u8 0, .int .u8 0, .int .u8 0, .int .u8 0, .int .u8 0, .int .u8 0, .int .u8 0, .int .u8 0, .int .u8 0, .int .u8 0, .int .u8 0, .int .u8 0, .int .u8 0, .int .u8 0, .int .u8 0, .int .u8 0, .int .u8 0, .int .u8 0, .int .u8 0, .int .u8 0, .int .i64 0]:Array Value)=dK (dL 32) 0:=rfl
theorem gP {h h':List Int} {c c':Int} (hl:h.length=32)(hl':h'.length=32):(dK h c).size=(dK h' c').size:=by rw[wX hl,wX hl']
def dX (w:World)(b:Nat)(h:List Int)(c:Int):Prop:=w.heap[b]? = some (.cells (dK h c) 237 (0,0))
theorem dX.below {w w':World} {b:Nat} {h:List Int} {c:Int} (hh:dX w b h c)(hb:Below w.heap.size w w'):dX w' b h c:=(hb.block b (Array.getElem?_eq_some_iff.1 hh).1).trans hh
theorem dX.new (w:World)(h:List Int)(c:Int):dX (w.alloc (.cells (dK h c) 237)) w.heap.size h c:=heap_alloc_new _ _
theorem dX.lt {w:World} {b:Nat} {h:List Int} {c:Int} (hh:dX w b h c):b<w.heap.size:=(Array.getElem?_eq_some_iff.1 hh).1
theorem dX.setRow {w:World} {b:Nat} {h h':List Int} {c c':Int} (hh:dX w b h c):dX (w.setRow b (dK h' c')) b h' c':=setRow_heap w b _ _ _ _ hh
theorem dX.count {w:World} {b:Nat} {h:List Int} {c:Int} (hh:dX w b h c)(hl:h.length=32):w.cell? ⟨b,32,none⟩=some (.int .i64 c):=by
 rw[au hh,dK,Array.getElem?_append_right (by rw[dW,hl];exact Nat.le_refl _),dW,hl]
 rfl
theorem dX.sk {w:World} {b:Nat} {h:List Int} {c:Int} (hh:dX w b h c):Sk .u8 w (some ⟨b,0,none⟩) h:=fun j hj=>⟨b,0,rfl,by
 rw[Nat.zero_add,au hh,dK,Array.getElem?_append_left (by rw[dW];exact hj)]
 exact Al hj⟩
theorem AR (h:List Int)(hl:Hid (h.length=32))(c:Int)(h0:0≤c)(h1:c≤1000)(w:World) :
  Calls Tryz.prog 262 #[.agg (dK h c)] w (Rt w (.bool true)):=by
 have hc:=(dX.new w h c).count hl.out;have d1:decide ((0:Int)≤c)=true:=by simp[h0]
 have d2:decide (c≤1000)=true:=by simp[h1]
 go_in;go_wp2;go_ret;exact⟨rfl,af _ _⟩
theorem ze (h:List Int)(hl:Hid (h.length=32))(c:Int)(h0:0≤c)(h1:c≤1000)(w:World) :
  Calls Tryz.prog 250 #[.agg (dK h c)] w (Rt w (.bool true)):=by
 have hc:=(dX.new w h c).count hl.out;have d1:decide ((0:Int)≤c)=true:=by simp[h0]
 have d2:decide (c≤1000)=true:=by simp[h1]
 go_in;go_wp2;go_ret;exact⟨rfl,af _ _⟩
def NA:ByteArray:=⟨#[115,112,101,99,105,101,47,116,114,97,110,115,99,114,105,112,116]⟩
def Am (h:List Int)(c e:Int):Value:= .tuple #[.agg (dK h c), .int .i64 e]
def newL (l:List Int):List Int:=tagged (bq NA) l
theorem Nw (s:ByteArray)(hs:s.size≤1000)(hr:Hid (iQ (bq s)=false))(w:World) :
  Calls Tryz.prog 243 #[.string s] w (Rt w (Am (dL 32) 0 1)):=by
 obtain⟨W,hW⟩:∃W,w.alloc (.cells #[.int .u8 0, .int .u8 0, .int .u8 0, .int .u8 0, .int .u8 0, .int .u8 0, .int .u8 0, .int .u8 0, .int .u8 0, .int .u8 0, .int .u8 0, .int .u8 0, .int .u8 0, .int .u8 0, .int .u8 0, .int .u8 0, .int .u8 0, .int .u8 0, .int .u8 0, .int .u8 0, .int .u8 0, .int .u8 0, .int .u8 0, .int .u8 0, .int .u8 0, .int .u8 0, .int .u8 0, .int .u8 0, .int .u8 0, .int .u8 0, .int .u8 0, .int .u8 0, .int .i64 0] 237)=W:=⟨_,rfl⟩;have cu:Hid (Below w.heap.size w W):=aa (by rw[←hW];exact af _ _);have HT0:Hid (dX W w.heap.size (dL 32) 0):=aa (by rw[←hW,Lt];exact dX.new _ _ _);have HW:=aa hW;clear hW;go_in
 go_wp2_with fail
 rw[HW.out];refine(ry s hs false hr _).mono ?_;rintro e w1 ⟨rfl,hb1⟩;have HT1:=aa (HT0.out.below hb1);have HB1:=aa (ag cu.out hb1);clear hb1
 go_wp2_with (first
  | ((with_reducible show wpList _ _ _ (⟨some 9,_,_,_,_,_⟩::_) _ _);refine nU rfl 237 _ rfl _ XF ?_)
  | ((with_reducible show wpList _ _ _ (⟨none,_,_,_,_,_⟩::_) _ _);refine wpList_store_row rfl 237 _ _ rfl w.heap.size (dK (dL 32) 0) rfl rfl _ _ HT1.out (aT rfl) rfl (eP _ _) ?_))
 have HRR:Hid (dX (w1.setRow w.heap.size (dK (dL 32) 0)) w.heap.size (dL 32) 0):=aa HT1.out.setRow;have gU:Below w.heap.size w (w1.setRow w.heap.size (dK (dL 32) 0)):=aj HB1.out (Nat.le_refl _);exact bodyPost_ret (v:=Am (dL 32) 0 1) (dH (p:=2) (q:=3) (ty:=237) rfl _ _ ⟨w.heap.size,0,none⟩ _ _ rfl rfl (run_loadVar_row _ _ _ _ _ _ _ HRR.out Tryz.underlying237 rfl (aT rfl))) rfl ⟨rfl,gU⟩
theorem RD (s:ByteArray)(hs:s.size≤1000)(hr:Hid (iQ (bq s)=true))(w:World)(hv:Hid (bB w)) :
  Calls Tryz.prog 243 #[.string s] w (Rt w (Am (newL (bq s)) 0 0)):=by
 have hs0:1≤s.size:=by
  have h:=hr.out;rw[iQ,bP]at h
  simp at h
  exact h.1.1
 obtain⟨W,hW⟩:∃W,w.alloc (.cells #[.int .u8 0, .int .u8 0, .int .u8 0, .int .u8 0, .int .u8 0, .int .u8 0, .int .u8 0, .int .u8 0, .int .u8 0, .int .u8 0, .int .u8 0, .int .u8 0, .int .u8 0, .int .u8 0, .int .u8 0, .int .u8 0, .int .u8 0, .int .u8 0, .int .u8 0, .int .u8 0, .int .u8 0, .int .u8 0, .int .u8 0, .int .u8 0, .int .u8 0, .int .u8 0, .int .u8 0, .int .u8 0, .int .u8 0, .int .u8 0, .int .u8 0, .int .u8 0, .int .i64 0] 237)=W:=⟨_,rfl⟩;have cu:Hid (Below w.heap.size w W):=aa (by rw[←hW];exact af _ _);have HT0:Hid (dX W w.heap.size (dL 32) 0):=aa (by rw[←hW,Lt];exact dX.new _ _ _);have HV:=aa (hv.out.below cu.out);have HW:=aa hW;have hcv:=fun w=>run_bytes_of_string (P:=Tryz.prog) w 9 114 5 s Tryz.underlying9 Tryz.underlying114 Tryz.underlying5;clear hW hv;go_in
 go_wp2_with fail
 rw[HW.out];refine(ry s hs true hr _).mono ?_;rintro e w1 ⟨rfl,hb1⟩;have HT1:=aa (HT0.out.below hb1);have HB1:=aa (ag cu.out hb1);have qV:=aa (HV.out.below hb1);clear hb1 HW
 go_wp2_with fail
 clear hcv;obtain⟨Wc,hWc⟩:∃u,(w1.alloc (.cells (bytesRow s (grownCap w1 s.size 0 5)) 5 ((bytesRow s (grownCap w1 s.size 0 5)).size,(bytesRow s (grownCap w1 s.size 0 5)).size+1))).drew=u:=⟨_,rfl⟩;have uC:Hid (Below w1.heap.size w1 Wc):=aa (by rw[←hWc];exact(af _ _).drew)
 have HSc:Hid (Sk .u8 Wc (some ⟨w1.heap.size,0,none⟩) (bq s)):=aa (by
  rw[←hWc]
  exact nN (heap_alloc_new w1 _))
 obtain⟨gc,hgc⟩:∃g,grownCap w1 s.size 0 5=g:=⟨_,rfl⟩;rw[hWc,hgc];clear hWc hgc;refine(rz NA (by decide) (by decide) w1.heap.size 0 gc (bq s) s.size (aa (bP s)) hs0 (by omega) (aa (jN s)) _ HSc (aa (qV.out.below uC.out))).mono ?_;rintro e w2 ⟨rfl,hb2⟩;have HT2:=aa ((HT1.out.below uC.out).below hb2);have HB2:=aa (ag (ag HB1.out uC.out) hb2);obtain⟨R,hR⟩:∃R,tagged (bq NA) (bq s)=R:=⟨_,rfl⟩;have hRl:R.length=32:=by rw[←hR];exact dR _ _
 have HN:Kp (newL (bq s)=R):=⟨hR⟩;have fQ:=aa hRl;rw[hR,show nO R = .tuple #[.agg (arr .u8 R), .int .i64 0]from rfl];clear hb2 HSc uC HT1 HB1 qV hR hRl
 go_upto_region 4 with((with_reducible show wpList _ _ _ (⟨none,_,_,_,_,_⟩::_) _ _);refine wpList_store_row rfl 41 _ _ rfl w2.heap.size (arr .u8 R) rfl rfl _ _ (heap_alloc_new _ _) (aH fQ.out) (fu (l:=dL 32) rfl fQ.out) (dG _) ?_)
 rw[World.setRow_alloc_new]
 try simp only[Act.put]
 have HH3:Hid (bS .u8 41 (w2.alloc (.cells (arr .u8 R) 41)) w2.heap.size R):=aa (bS.new _ _);have HT3:=aa (HT2.out.below (af w2 (.cells (arr .u8 R) 41)));have HB3:=aa (ag HB2.out (af w2 (.cells (arr .u8 R) 41)));obtain⟨W3,hW3⟩:∃u,w2.alloc (.cells (arr .u8 R) 41)=u:=⟨_,rfl⟩;rw[hW3]at HH3 HT3 HB3 ⊢;clear hW3
 go_wp2_with (first
  | ((with_reducible show wpList _ _ _ (⟨some 16,_,_,_,_,_⟩::_) _ _);refine wpList_load_row rfl 41 _ rfl w2.heap.size rfl _ _ _ _ HH3.out Tryz.underlying41 rfl (aH fQ.out) ?_)
  | ((with_reducible show wpList _ _ _ (⟨some 17,_,_,_,_,_⟩::_) _ _);refine nU rfl 237 _ rfl _ (Qm R fQ.out) ?_)
  | ((with_reducible show wpList _ _ _ (⟨none,_,_,_,_,_⟩::_) _ _);refine wpList_store_row rfl 237 _ _ rfl w.heap.size (dK R 0) rfl rfl _ _ HT3.out (aT fQ.out) (gP rfl fQ.out) (eP _ _) ?_))
 have HRR:Hid (dX (W3.setRow w.heap.size (dK R 0)) w.heap.size R 0):=aa HT3.out.setRow;have gU:Below w.heap.size w (W3.setRow w.heap.size (dK R 0)):=aj HB3.out (Nat.le_refl _);exact bodyPost_ret (v:=Am R 0 0) (dH (p:=2) (q:=3) (ty:=237) rfl _ _ ⟨w.heap.size,0,none⟩ _ _ rfl rfl (run_loadVar_row _ _ _ _ _ _ _ HRR.out Tryz.underlying237 rfl (aT fQ.out))) rfl ⟨by rw[HN.out],gU⟩
theorem N7 (s:ByteArray)(hs:s.size≤1000)(hs0:1≤s.size)(w:World) :
  Calls Tryz.prog 229 #[.string s] w (Rt w (.agg (dK (newL (bq s)) 0))):=by
 obtain⟨W,hW⟩:∃W,w.alloc (.cells #[.int .u8 0, .int .u8 0, .int .u8 0, .int .u8 0, .int .u8 0, .int .u8 0, .int .u8 0, .int .u8 0, .int .u8 0, .int .u8 0, .int .u8 0, .int .u8 0, .int .u8 0, .int .u8 0, .int .u8 0, .int .u8 0, .int .u8 0, .int .u8 0, .int .u8 0, .int .u8 0, .int .u8 0, .int .u8 0, .int .u8 0, .int .u8 0, .int .u8 0, .int .u8 0, .int .u8 0, .int .u8 0, .int .u8 0, .int .u8 0, .int .u8 0, .int .u8 0, .int .i64 0] 237)=W:=⟨_,rfl⟩;have cu:Hid (Below w.heap.size w W):=aa (by rw[←hW];exact af _ _);have HT0:Hid (dX W w.heap.size (dL 32) 0):=aa (by rw[←hW,Lt];exact dX.new _ _ _);have l8:Hid (W.heap.size=w.heap.size+1):=aa (by rw[←hW];simp);have HW:=aa hW;have hcv:=fun w=>run_bytes_of_string (P:=Tryz.prog) w 9 114 5 s Tryz.underlying9 Tryz.underlying114 Tryz.underlying5;clear hW;go_in
 go_wp2_with fail
 rw[HW.out];clear hcv HW;obtain⟨Wc,hWc⟩:∃u,(W.alloc (.cells (bytesRow s (grownCap W s.size 0 5)) 5 ((bytesRow s (grownCap W s.size 0 5)).size,(bytesRow s (grownCap W s.size 0 5)).size+1))).drew=u:=⟨_,rfl⟩;have uC:Hid (Below W.heap.size W Wc):=aa (by rw[←hWc];exact(af _ _).drew)
 have HSc:Hid (Sk .u8 Wc (some ⟨w.heap.size+1,0,none⟩) (bq s)):=aa (by
  rw[←hWc,←l8.out]
  exact nN (heap_alloc_new W _))
 obtain⟨gc,hgc⟩:∃g,grownCap W s.size 0 5=g:=⟨_,rfl⟩;rw[hWc,hgc];clear hWc hgc;refine(mY NA (by decide) (by decide) (w.heap.size+1) 0 gc (bq s) s.size (aa (bP s)) hs0 (by omega) (aa (jN s)) _ HSc).mono ?_;rintro e w2 ⟨rfl,hb2⟩;have HT2:=aa ((HT0.out.below uC.out).below hb2);have HB2:=aa (ag (ag cu.out uC.out) hb2);obtain⟨R,hR⟩:∃R,tagged (bq NA) (bq s)=R:=⟨_,rfl⟩;have hRl:R.length=32:=by rw[←hR];exact dR _ _
 have HN:Kp (newL (bq s)=R):=⟨hR⟩;have fQ:=aa hRl;rw[hR];clear hb2 HSc uC hR hRl
 go_wp2_with (first
  | ((with_reducible show wpList _ _ _ (⟨some 6,_,_,_,_,_⟩::_) _ _);refine nU rfl 237 _ rfl _ (Qm R fQ.out) ?_)
  | ((with_reducible show wpList _ _ _ (⟨none,_,_,_,_,_⟩::_) _ _);refine wpList_store_row rfl 237 _ _ rfl w.heap.size (dK R 0) rfl rfl _ _ HT2.out (aT fQ.out) (gP rfl fQ.out) (eP _ _) ?_))
 have HRR:Hid (dX (w2.setRow w.heap.size (dK R 0)) w.heap.size R 0):=aa HT2.out.setRow;have gU:Below w.heap.size w (w2.setRow w.heap.size (dK R 0)):=aj HB2.out (Nat.le_refl _);exact bodyPost_ret (v:= .agg (dK R 0)) (aK (p:=2) (ty:=237) rfl _ _ ⟨w.heap.size,0,none⟩ _ rfl (run_loadVar_row _ _ _ _ _ _ _ HRR.out Tryz.underlying237 rfl (aT fQ.out))) rfl ⟨by rw[HN.out],gU⟩
theorem tY {w:World} {base:Nat} {v:Value} {cs:List Ic} {l:List It} {n:Nat} (h:d_ w base v cs)(hc:cs.length=n)(hl:l.length=n)(hpos:0<n)(hr:∀k,k<n→pV w (l.getD k default) (cs.getD k default)) :
  ∃g cap,v = .slice (some ⟨g,0,none⟩) n cap∧pV w (.lst l) ⟨3,0,none,0,0,some ⟨g,0,none⟩,n,cap⟩:=by
 obtain⟨g,cap,e,_,_,hf⟩:=h.four (by omega);rw[hc]at e hf;exact⟨g,cap,e, .lst l _ rfl rfl rfl hl.symm (fun k=>cs.getD k default) (fun k hk=>⟨g,0,rfl,hf k (by omega)⟩) (fun k hk=>hr k (by omega))⟩
def aQ (A:Option Addr)(n c:Nat):Ic:=⟨2,0,A,n,c,none,0,0⟩
theorem kr {w:World} {A:Option Addr} {n c:Nat} {b:List Int} (h:Sk .u8 w A b)(hn:b.length=n):pV w (.byt b) (aQ A n c):= .byt b _ rfl rfl hn.symm rfl h
theorem xD (w:World)(a b:Ic):d_ (w.alloc (.cells #[.int .i64 a.kind, .int .i64 a.n, .slice a.B a.nb a.cb, .slice a.L a.nl a.cl, .int .i64 b.kind, .int .i64 b.n, .slice b.B b.nb b.cb, .slice b.L b.nl b.cl] 117)) w.heap.size (.slice (some ⟨w.heap.size,0,none⟩) 2 2) [a,b]:=
 ⟨rfl,Or.inr ⟨w.heap.size,2,_,rfl,Nat.le_refl _,heap_alloc_new _ _,Nat.le_refl _,by decide,rfl,rfl⟩⟩
theorem Dm {w:World} {b:Nat} {c:Ic} (h:Four w b 0 c)(j:Nat)(u:Value)(hj:(aY c)[j]? = some u):w.cell? ((⟨b,0,none⟩:Addr).add j)=some u:=by
 obtain⟨h0,h1,h2,h3⟩:=h
 match j,hj with
 | 0,e=>simp[aY]at e;subst e;exact h0
 | 1,e=>simp[aY]at e;subst e;exact h1
 | 2,e=>simp[aY]at e;subst e;exact h2
 | 3,e=>simp[aY]at e;subst e;exact h3
 | j+4,e=>simp[aY]at e
theorem vz (c:Ic):∀u∈aY c,u.oneCell'=true:=by
 intro u hu
 simp[aY]at hu
 rcases hu with rfl | rfl | rfl | rfl <;> rfl
theorem IU {K:IntKind} {w w':World} {B b:Nat} {l:List Int} (h:Sk K w (some ⟨b,0,none⟩) l)(hb:Below B w w')(hl:b<B):Sk K w' (some ⟨b,0,none⟩) l:=by
 intro j hj;obtain⟨b1,o,e,hc⟩:=h j hj;injection e with e;injection e with e1 e2 e3;subst e1;subst e2;exact⟨b,0,rfl,(hb.cell (p:=⟨b,0+j,none⟩) hl).trans hc⟩
theorem Mx (tg:ByteArray)(ht1:1≤tg.size)(ht2:tg.size≤100)(h:List Int)(hl:Hid (h.length=32))(hb:Hid (aF h=true))(c:Int)(s:ByteArray)(hs0:1≤s.size)(hs:s.size≤1000)(w:World)(hv:Hid (bB w)) :
  Calls Tryz.prog 263 #[.string tg, .agg (dK h c), .string s, .slice none 0 0] w (Rt w (nO (tagged (bq tg) (enc (.lst [.byt h, .byt (bq s)]))))):=by
 obtain⟨i0,hi,hz0,hz1,hz2⟩:=info_parts j_;obtain⟨RR,hRR⟩:∃R,tagged (bq tg) (enc (.lst [.byt h, .byt (bq s)]))=R:=⟨_,rfl⟩;rw[hRR];have QF:Kp (tagged (bq tg) (enc (.lst [.byt h, .byt (bq s)]))=RR):=⟨hRR⟩;clear hRR;obtain⟨W,hW⟩:∃W,(w.alloc (.cells (dK h c) 237)).alloc (.cells z32 41)=W:=⟨_,rfl⟩;have cu:Hid (Below w.heap.size w W):=aa (by rw[←hW];exact aO (Below.refl _ _));have HT0:Hid (dX W w.heap.size h c):=aa (by rw[←hW];exact heap_alloc2_old _ _ _);have fH:Hid (bS .u8 41 W (w.heap.size+1) (dL 32)):=aa (by rw[←hW,jR];exact heap_alloc2_new _ _ _);have l8:Hid (W.heap.size=w.heap.size+2):=aa (by rw[←hW];simp);have HV:=aa (hv.out.below cu.out);have HW:=aa hW;have hcv:=fun w=>run_bytes_of_string (P:=Tryz.prog) w 9 114 5 s Tryz.underlying9 Tryz.underlying114 Tryz.underlying5;clear hW hv;go_in
 go_upto_region 1 with(fail)
 rw[HW.out]
 go_upto_region 2 with(fail)
 clear hcv HW;obtain⟨gc,hgc⟩:∃g,grownCap W s.size 0 5=g:=⟨_,rfl⟩;rw[hgc];obtain⟨Wc,hWc⟩:∃u,W.alloc (.cells (bytesRow s gc) 5 ((bytesRow s gc).size,(bytesRow s gc).size+1))=u:=⟨_,rfl⟩;rw[hWc];have uC:Hid (Below W.heap.size W Wc):=aa (by rw[←hWc];exact af _ _);have HSc:Hid (Sk .u8 Wc (some ⟨W.heap.size,0,none⟩) (bq s)):=aa (by rw[←hWc];exact nN (heap_alloc_new W _));have Ik:Hid (Wc.heap.size=W.heap.size+1):=aa (by rw[←hWc];simp);obtain⟨W2,hW2⟩:∃u,(Wc.alloc (.cells #[.int .i64 2, .int .i64 0, .slice (some ⟨w.heap.size,0,none⟩) 32 32, .slice none 0 0, .int .i64 2, .int .i64 0, .slice (some ⟨W.heap.size,0,none⟩) s.size gc, .slice none 0 0] 117)).drew=u:=⟨_,rfl⟩
 have tu:Hid (d_ W2 Wc.heap.size (.slice (some ⟨W.heap.size+1,0,none⟩) 2 2) [aQ (some ⟨w.heap.size,0,none⟩) 32 32,aQ (some ⟨W.heap.size,0,none⟩) s.size gc]):=aa (by
  rw[←hW2];have h:=(xD Wc (aQ (some ⟨w.heap.size,0,none⟩) 32 32) (aQ (some ⟨W.heap.size,0,none⟩) s.size gc)).keep (Below.refl _ _).drew;rw[Ik.out]at h ⊢
  exact h)
 have HB2:Hid (Below W.heap.size W W2):=aa (ag uC.out (by rw[←hW2];exact(af _ _).drew));have HS2:Hid (Sk .u8 W2 (some ⟨W.heap.size,0,none⟩) (bq s)):=aa (HSc.out.below (by rw[←hW2];exact(af _ _).drew));have hzW:Wc.heap.size<W2.heap.size:=by rw[←hW2];simp
 rw[hW2];clear hW2 hWc hgc HSc uC;have hrow:W2.ownsRow Wc.heap.size 117 4 (.slice (some ⟨W.heap.size+1,0,none⟩) 2 2) 2 ([aQ (some ⟨w.heap.size,0,none⟩) 32 32,aQ (some ⟨W.heap.size,0,none⟩) s.size gc].flatMap aY):=tu.out;have aeZ:=hs
 go_wp2_with (at_builtin;refine wpList_append_own_none rfl _ _ 115 rfl Wc.heap.size 117 i0 4 Tryz.underlying115 hi _ _ _ rfl hrow rfl ?_)
 have QT:Hid (∃g cap,(Value.slice (some ⟨W.heap.size+1,0,none⟩) 2 2) = .slice (some ⟨g,0,none⟩) 2 cap∧pV W2 (.lst [.byt h, .byt (bq s)]) ⟨3,0,none,0,0,some ⟨g,0,none⟩,2,cap⟩):=aa (tY tu.out rfl rfl (by decide) (fun k hk=>by
  rcases (show k=0∨k=1 by omega)with rfl | rfl
  · exact kr (HT0.out.below HB2.out).sk hl.out
  · exact kr HS2.out (bP s)))
 obtain⟨g3,pU,e3,hit⟩:=QT.out
 simp only[Value.slice.injEq,Option.some.injEq,Addr.mk.injEq]at e3
 obtain⟨⟨rfl,-⟩,-,rfl⟩:=e3;have HIT:=aa hit;have HB3:=HB2
 have lX:Hid (fits 8 (.lst [.byt h, .byt (bq s)])):=aa (by
  refine⟨by simp,fun x hx=>?_⟩;rcases (by simpa using hx:x = .byt h∨x = .byt (bq s))with rfl | rfl
  · exact⟨⟨by rw[hl.out];decide,by rw[hl.out];decide⟩,hb.out⟩
  · exact⟨⟨by rw[bP];omega,by rw[bP];omega⟩,jN s⟩)
 have HLEN:Hid ((enc (.lst [.byt h, .byt (bq s)])).length≤16384):=aa (by
  rw[fV]
  simp only[gz,jh,List.length_cons,List.length_append,eX,hl.out,bP,List.length_nil]
  omega)
 clear hit QT hrow;rw[show(Value.agg #[.int .i64 3, .int .i64 0, .slice none 0 0, .slice (some ⟨W.heap.size+1,0,none⟩) 2 2])=(Ic.mk 3 0 none 0 0 (some ⟨W.heap.size+1,0,none⟩) 2 2).val from rfl];refine(vZ _ _ _ lX.out HIT.out HLEN.out).mono ?_;rintro e w4 ⟨v4,rfl,Cz,hb4⟩;obtain⟨E,hE⟩:∃E,enc (.lst [.byt h, .byt (bq s)])=E:=⟨_,rfl⟩;have MZ:Hid (aF E=true):=aa (by rw[←hE];exact mI lX.out);have yz:Hid (0<E.length∧E.length≤16384):=aa (by rw[←hE];exact⟨qd _,HLEN.out⟩);rw[hE]at Cz;obtain⟨g4,cap4,e4,hg4,-,-,t_⟩:=Cz.cells yz.out.1;obtain⟨n4,Pk⟩:∃n,E.length=n:=⟨_,rfl⟩;rw[Pk]at e4 yz;subst e4;have QJ:=aa Pk;have Ap:=aa t_;have l5:=aa (ag HB3.out hb4);have J_:Kp (enc (.lst [.byt h, .byt (bq s)])=E):=⟨hE⟩;clear hE t_ Cz hb4 Pk HIT HLEN lX;obtain⟨he0,he1⟩:=yz.out
 go_wp2_with fail
 refine(rz tg ht1 ht2 g4 0 cap4 E n4 QJ he0 (by omega) MZ _ Ap (aa (HV.out.below l5.out))).mono ?_;rintro e w5 ⟨rfl,hb5⟩;have l9:=aa (ag l5.out hb5);obtain⟨R,hR⟩:∃R,tagged (bq tg) E=R:=⟨_,rfl⟩;have fQ:Hid (R.length=32):=aa (by rw[←hR];exact dR _ _);have hRe:RR=R:=by rw[←QF.1,J_.1,hR]
 subst hRe;rw[hR,show nO RR = .tuple #[.agg (arr .u8 RR), .int .i64 0]from rfl];clear hb5 hR Ap l5;have wE:Hid (bS .u8 41 w5 (w.heap.size+1) (dL 32)):=aa (fH.out.below l9.out)
 go_wp2_with ((with_reducible show wpList _ _ _ (⟨none,_,_,_,_,_⟩::_) _ _);refine wpList_store_row rfl 41 _ _ rfl (w.heap.size+1) (arr .u8 RR) rfl rfl _ _ wE.out (aH fQ.out) (fu (l:=dL 32) rfl fQ.out) (dG _) ?_)
 have HRR:Hid (bS .u8 41 (w5.setRow (w.heap.size+1) (arr .u8 RR)) (w.heap.size+1) RR):=aa wE.out.setRow;have gU:Below w.heap.size w (w5.setRow (w.heap.size+1) (arr .u8 RR)):=aj (ag cu.out l9.out) (Nat.le_succ _);exact bodyPost_ret (v:=nO RR) (dH (p:=8) (q:=9) (ty:=41) rfl _ _ ⟨w.heap.size+1,0,none⟩ _ _ rfl rfl (run_loadVar_row _ _ _ _ _ _ _ HRR.out Tryz.underlying41 rfl (aH fQ.out))) rfl ⟨rfl,gU⟩
theorem Mw (tg:ByteArray)(ht1:1≤tg.size)(ht2:tg.size≤100)(h:List Int)(hl:Hid (h.length=32))(hb:Hid (aF h=true))(c:Int)(s:ByteArray)(hs0:1≤s.size)(hs:s.size≤1000)(item:It)(cI:Ic)(gm cm:Nat)(w:World)(hv:Hid (bB w))(hF:Hid (Four w gm 0 cI))(hI:Hid (pV w item cI))(hfi:Hid (fits 7 item))(hle:Hid ((enc item).length≤14000)) :
  Calls Tryz.prog 263 #[.string tg, .agg (dK h c), .string s, .slice (some ⟨gm,0,none⟩) 1 cm] w (Rt w (nO (tagged (bq tg) (enc (.lst [.byt h, .byt (bq s),item]))))):=by
 obtain⟨i0,hi,hz0,hz1,hz2⟩:=info_parts j_;obtain⟨RR,hRR⟩:∃R,tagged (bq tg) (enc (.lst [.byt h, .byt (bq s),item]))=R:=⟨_,rfl⟩;rw[hRR];have QF:Kp (tagged (bq tg) (enc (.lst [.byt h, .byt (bq s),item]))=RR):=⟨hRR⟩;clear hRR;obtain⟨W,hW⟩:∃W,(w.alloc (.cells (dK h c) 237)).alloc (.cells z32 41)=W:=⟨_,rfl⟩;have cu:Hid (Below w.heap.size w W):=aa (by rw[←hW];exact aO (Below.refl _ _));have HT0:Hid (dX W w.heap.size h c):=aa (by rw[←hW];exact heap_alloc2_old _ _ _);have fH:Hid (bS .u8 41 W (w.heap.size+1) (dL 32)):=aa (by rw[←hW,jR];exact heap_alloc2_new _ _ _);have l8:Hid (W.heap.size=w.heap.size+2):=aa (by rw[←hW];simp);have HV:=aa (hv.out.below cu.out);have HW:=aa hW;have hcv:=fun w=>run_bytes_of_string (P:=Tryz.prog) w 9 114 5 s Tryz.underlying9 Tryz.underlying114 Tryz.underlying5;clear hW hv;go_in
 go_upto_region 1 with(fail)
 rw[HW.out]
 go_upto_region 2 with(fail)
 clear hcv HW;obtain⟨gc,hgc⟩:∃g,grownCap W s.size 0 5=g:=⟨_,rfl⟩;rw[hgc];obtain⟨Wc,hWc⟩:∃u,W.alloc (.cells (bytesRow s gc) 5 ((bytesRow s gc).size,(bytesRow s gc).size+1))=u:=⟨_,rfl⟩;rw[hWc];have uC:Hid (Below W.heap.size W Wc):=aa (by rw[←hWc];exact af _ _);have HSc:Hid (Sk .u8 Wc (some ⟨W.heap.size,0,none⟩) (bq s)):=aa (by rw[←hWc];exact nN (heap_alloc_new W _));have Ik:Hid (Wc.heap.size=W.heap.size+1):=aa (by rw[←hWc];simp);obtain⟨W2,hW2⟩:∃u,(Wc.alloc (.cells #[.int .i64 2, .int .i64 0, .slice (some ⟨w.heap.size,0,none⟩) 32 32, .slice none 0 0, .int .i64 2, .int .i64 0, .slice (some ⟨W.heap.size,0,none⟩) s.size gc, .slice none 0 0] 117)).drew=u:=⟨_,rfl⟩
 have tu:Hid (d_ W2 Wc.heap.size (.slice (some ⟨W.heap.size+1,0,none⟩) 2 2) [aQ (some ⟨w.heap.size,0,none⟩) 32 32,aQ (some ⟨W.heap.size,0,none⟩) s.size gc]):=aa (by
  rw[←hW2];have h:=(xD Wc (aQ (some ⟨w.heap.size,0,none⟩) 32 32) (aQ (some ⟨W.heap.size,0,none⟩) s.size gc)).keep (Below.refl _ _).drew;rw[Ik.out]at h ⊢
  exact h)
 have HB2:Hid (Below W.heap.size W W2):=aa (ag uC.out (by rw[←hW2];exact(af _ _).drew));have HS2:Hid (Sk .u8 W2 (some ⟨W.heap.size,0,none⟩) (bq s)):=aa (HSc.out.below (by rw[←hW2];exact(af _ _).drew));have hzW:Wc.heap.size<W2.heap.size:=by rw[←hW2];simp
 rw[hW2];clear hW2 hWc hgc HSc uC;have hrow:W2.ownsRow Wc.heap.size 117 4 (.slice (some ⟨W.heap.size+1,0,none⟩) 2 2) 2 ([aQ (some ⟨w.heap.size,0,none⟩) 32 32,aQ (some ⟨W.heap.size,0,none⟩) s.size gc].flatMap aY):=tu.out;have aeZ:=hs;have Zm:Hid (Four W2 gm 0 cI):=aa ((hF.out.below cu.out).below HB2.out);have HI2:Hid (pV W2 item cI):=aa ((hI.out.kept cu.out).kept HB2.out);have u_:Wc.heap.size≤W2.heap.size:=by omega
 have b1:2+1≤maxLen:=by unfold maxLen;omega
 have b2:(2+1)*64≤140737488355328:=by omega
 have HNW:∀(j:Nat) (u:Value),(aY cI)[j]? = some u→W2.cell? ((⟨gm,0,none⟩:Addr).add j)=some u:=Dm Zm.out
 go_wp2_with (at_builtin;refine wpList_append_lies rfl _ _ 115 rfl Wc.heap.size 117 i0 (.agg #[.int .i64 0, .int .i64 0, .slice none 0 0, .slice none 0 0]) 4 64 Tryz.underlying115 hi hz0 hz1 hz2 rfl (by decide) _ _ _ rfl hrow ⟨gm,0,none⟩ 1 cm (aY cI) rfl rfl HNW (vz cI) (by decide) b1 b2 u_ _ rfl ?_;intro g3 pU w3 hown3 hgrow3 Xc hlt3)
 have HB3:Hid (Below W.heap.size W w3):=aa (HB2.out.grown hgrow3 (by have:=Ik.out;omega) (fun j hj=>by have:=Ik.out;have:=(World.ownsRow.lt hrow j hj).1;omega));have Q5:Hid (Below (W.heap.size+1) W2 w3):=aa ((Below.refl _ _).grown hgrow3 (by have:=Ik.out;omega) (fun j hj=>by have:=Ik.out;have:=(World.ownsRow.lt hrow j hj).1;omega));have om:Hid (d_ w3 Wc.heap.size (.slice (some ⟨g3,0,none⟩) 3 pU) [aQ (some ⟨w.heap.size,0,none⟩) 32 32,aQ (some ⟨W.heap.size,0,none⟩) s.size gc,cI]):=aa hown3
 have QT:Hid (∃g cap,(Value.slice (some ⟨g3,0,none⟩) 3 pU) = .slice (some ⟨g,0,none⟩) 3 cap∧pV w3 (.lst [.byt h, .byt (bq s),item]) ⟨3,0,none,0,0,some ⟨g,0,none⟩,3,cap⟩):=aa (tY om.out rfl rfl (by decide) (fun k hk=>by
  rcases (show k=0∨k=1∨k=2 by omega)with rfl | rfl | rfl
  · exact kr (HT0.out.below HB3.out).sk hl.out
  · exact kr (IU HS2.out Q5.out (by omega)) (bP s)
  · exact((hI.out.kept cu.out).kept HB3.out)))
 obtain⟨g,cap,e3,hit⟩:=QT.out
 simp only[Value.slice.injEq,Option.some.injEq,Addr.mk.injEq]at e3
 obtain⟨⟨rfl,-⟩,-,rfl⟩:=e3;have HIT:=aa hit
 have lX:Hid (fits 8 (.lst [.byt h, .byt (bq s),item])):=aa (by
  refine⟨by simp,fun x hx=>?_⟩;rcases (by simpa using hx:x = .byt h∨x = .byt (bq s)∨x=item)with rfl | rfl | rfl
  · exact⟨⟨by rw[hl.out];decide,by rw[hl.out];decide⟩,hb.out⟩
  · exact⟨⟨by rw[bP];omega,by rw[bP];omega⟩,jN s⟩
  · exact hfi.out)
 have HLEN:Hid ((enc (.lst [.byt h, .byt (bq s),item])).length≤16384):=aa (by
  have:=hle.out;rw[fV]
  simp only[gz,jh,List.length_cons,List.length_append,eX,hl.out,bP,List.length_nil]
  omega)
 clear hit QT hrow om hown3 hgrow3 Xc hlt3 HNW Zm HI2 Q5;rw[show(Value.agg #[.int .i64 3, .int .i64 0, .slice none 0 0, .slice (some ⟨g3,0,none⟩) 3 pU])=(Ic.mk 3 0 none 0 0 (some ⟨g3,0,none⟩) 3 pU).val from rfl];refine(vZ _ _ _ lX.out HIT.out HLEN.out).mono ?_;rintro e w4 ⟨v4,rfl,Cz,hb4⟩;obtain⟨E,hE⟩:∃E,enc (.lst [.byt h, .byt (bq s),item])=E:=⟨_,rfl⟩;have MZ:Hid (aF E=true):=aa (by rw[←hE];exact mI lX.out);have yz:Hid (0<E.length∧E.length≤16384):=aa (by rw[←hE];exact⟨qd _,HLEN.out⟩);rw[hE]at Cz;obtain⟨g4,cap4,e4,hg4,-,-,t_⟩:=Cz.cells yz.out.1;obtain⟨n4,Pk⟩:∃n,E.length=n:=⟨_,rfl⟩;rw[Pk]at e4 yz;subst e4;have QJ:=aa Pk;have Ap:=aa t_;have l5:=aa (ag HB3.out hb4);have J_:Kp (enc (.lst [.byt h, .byt (bq s),item])=E):=⟨hE⟩;clear hE t_ Cz hb4 Pk HIT HLEN lX;obtain⟨he0,he1⟩:=yz.out
 go_wp2_with fail
 refine(rz tg ht1 ht2 g4 0 cap4 E n4 QJ he0 (by omega) MZ _ Ap (aa (HV.out.below l5.out))).mono ?_;rintro e w5 ⟨rfl,hb5⟩;have l9:=aa (ag l5.out hb5);obtain⟨R,hR⟩:∃R,tagged (bq tg) E=R:=⟨_,rfl⟩;have fQ:Hid (R.length=32):=aa (by rw[←hR];exact dR _ _);have hRe:RR=R:=by rw[←QF.1,J_.1,hR]
 subst hRe;rw[hR,show nO RR = .tuple #[.agg (arr .u8 RR), .int .i64 0]from rfl];clear hb5 hR Ap l5;have wE:Hid (bS .u8 41 w5 (w.heap.size+1) (dL 32)):=aa (fH.out.below l9.out)
 go_wp2_with ((with_reducible show wpList _ _ _ (⟨none,_,_,_,_,_⟩::_) _ _);refine wpList_store_row rfl 41 _ _ rfl (w.heap.size+1) (arr .u8 RR) rfl rfl _ _ wE.out (aH fQ.out) (fu (l:=dL 32) rfl fQ.out) (dG _) ?_)
 have HRR:Hid (bS .u8 41 (w5.setRow (w.heap.size+1) (arr .u8 RR)) (w.heap.size+1) RR):=aa wE.out.setRow;have gU:Below w.heap.size w (w5.setRow (w.heap.size+1) (arr .u8 RR)):=aj (ag cu.out l9.out) (Nat.le_succ _);exact bodyPost_ret (v:=nO RR) (dH (p:=8) (q:=9) (ty:=41) rfl _ _ ⟨w.heap.size+1,0,none⟩ _ _ rfl rfl (run_loadVar_row _ _ _ _ _ _ _ HRR.out Tryz.underlying41 rfl (aH fQ.out))) rfl ⟨rfl,gU⟩
def FQ:ByteArray:= { data:=#[115,112,101,99,105,101,47,97,98,115,111,114,98] }
def H_ (h s:List Int)(i:It):List Int:=tagged (bq FQ) (enc (.lst [.byt h, .byt s,i]))
theorem qg (h s:List Int)(i:It):(H_ h s i).length=32:=dR _ _
theorem rP {w:World} {b:Nat} {c:Ic} {t:TypeId} (h:w.heap[b]? = some (.cells #[.int .i64 c.kind, .int .i64 c.n, .slice c.B c.nb c.cb, .slice c.L c.nl c.cl] t)):Four w b 0 c:=
 ⟨au h 0,au h 1,au h 2,au h 3⟩
theorem AY (h:List Int)(hl:Hid (h.length=32))(hb:Hid (aF h=true))(c:Int)(hc0:0≤c)(hc1:c<1000)(s:ByteArray)(hs:s.size≤1000)(hr:Hid (iQ (bq s)=true))(item:It)(cI:Ic)(w:World)(hv:Hid (bB w))(hI:Hid (pV w item cI))(hfi:Hid (fits 7 item))(hle:Hid ((enc item).length≤14000)) :
  Calls Tryz.prog 261 #[.agg (dK h c), .string s, .agg #[.int .i64 cI.kind, .int .i64 cI.n, .slice cI.B cI.nb cI.cb, .slice cI.L cI.nl cI.cl]] w (Rt w (Am (H_ h (bq s) item) (c+1) 0)):=by
 have hs0:1≤s.size:=by
  have h:=hr.out;rw[iQ,bP]at h
  simp at h
  exact h.1.1
 obtain⟨i0,hi,hz0,hz1,hz2⟩:=info_parts j_;obtain⟨W,hW⟩:∃W,((w.alloc (.cells (dK h c) 237)).alloc (.cells #[.int .i64 cI.kind, .int .i64 cI.n, .slice cI.B cI.nb cI.cb, .slice cI.L cI.nl cI.cl] 117)).alloc (.cells #[.int .u8 0, .int .u8 0, .int .u8 0, .int .u8 0, .int .u8 0, .int .u8 0, .int .u8 0, .int .u8 0, .int .u8 0, .int .u8 0, .int .u8 0, .int .u8 0, .int .u8 0, .int .u8 0, .int .u8 0, .int .u8 0, .int .u8 0, .int .u8 0, .int .u8 0, .int .u8 0, .int .u8 0, .int .u8 0, .int .u8 0, .int .u8 0, .int .u8 0, .int .u8 0, .int .u8 0, .int .u8 0, .int .u8 0, .int .u8 0, .int .u8 0, .int .u8 0, .int .i64 0] 237)=W:=⟨_,rfl⟩;have cu:Hid (Below w.heap.size w W):=aa (by rw[←hW];exact ag (aO (Below.refl _ _)) (af _ _));have HT0:Hid (dX W w.heap.size h c):=aa (by rw[←hW];exact((dX.new _ _ _).below (af _ _)).below (af _ _));have HIB:Hid (W.heap[w.heap.size+1]? = some (.cells #[.int .i64 cI.kind, .int .i64 cI.n, .slice cI.B cI.nb cI.cb, .slice cI.L cI.nl cI.cl] 117 (0,0))):=aa (by rw[←hW,←(show(w.alloc (.cells (dK h c) 237)).heap.size=w.heap.size+1 by simp)];exact heap_alloc2_old _ _ _);have fH:Hid (dX W (w.heap.size+1+1) (dL 32) 0):=aa (by rw[←hW,Lt,show w.heap.size+1+1=(w.alloc (.cells (dK h c) 237)).heap.size+1 by simp];exact heap_alloc2_new _ _ _);have l8:Hid (W.heap.size=w.heap.size+3):=aa (by rw[←hW];simp);have HV:=aa (hv.out.below cu.out);have HII:=aa (hI.out.kept cu.out);have HW:=aa hW;clear hW hv;go_in
 go_upto_region 1 with(fail)
 rw[HW.out];clear HW
 go_wp2_with ((with_reducible show wpList _ _ _ (⟨some 10,_,_,_,_,_⟩::_) _ _);refine wpList_load_row rfl 237 _ rfl w.heap.size rfl _ _ _ _ HT0.out Tryz.underlying237 rfl (aT hl.out) ?_)
 refine(AR h hl c hc0 (by omega) _).mono ?_;rintro e w1 ⟨rfl,hb1⟩;have HB1:=aa (ag cu.out hb1);have HT1:=aa (HT0.out.below hb1);have HI1:=aa (HII.out.kept hb1);have qV:=aa (HV.out.below hb1);have HR1:=aa (fH.out.below hb1);have ab5:Hid (Four w1 (w.heap.size+1) 0 cI):=aa (rP ((hb1.block _ (by have:=l8.out;omega)).trans HIB.out));clear hb1 HT0 HII HV fH HIB cu
 go_wp2_with fail
 refine(ry s hs true hr _).mono ?_;rintro e w2 ⟨rfl,hb2⟩;have HT2:=aa (HT1.out.below hb2);have HI2:=aa (HI1.out.kept hb2);have zN:=aa (qV.out.below hb2);have HR2:=aa (HR1.out.below hb2);have ab4:=aa (ab5.out.below hb2);have HB2:=aa (ag HB1.out hb2);clear hb2 HT1 HI1 qV HR1 ab5 HB1;obtain⟨f0,f1,f2,f3⟩:=ab4.out
 go_wp2_with ((with_reducible show wpList _ _ _ (⟨some 20,_,_,_,_,_⟩::_) _ _);refine wpList_load_row rfl 237 _ rfl w.heap.size rfl _ _ _ _ HT2.out Tryz.underlying237 rfl (aT hl.out) ?_)
 clear f0 f1 f2 f3;obtain⟨W3,hW3⟩:∃u,w2.alloc (.cells #[.int .i64 cI.kind, .int .i64 cI.n, .slice cI.B cI.nb cI.cb, .slice cI.L cI.nl cI.cl] 117)=u:=⟨_,rfl⟩;have HF3:Hid (Four W3 w2.heap.size 0 cI):=aa (by rw[←hW3];exact rP (heap_alloc_new _ _));have hb3:Below w2.heap.size w2 W3:=by rw[←hW3];exact af _ _
 rw[hW3];have HI3:=aa (HI2.out.kept hb3);have zM:=aa (zN.out.below hb3);refine(Mw FQ (by decide) (by decide) h hl hb c s hs0 hs item cI w2.heap.size 1 W3 zM HF3 HI3 hfi hle).mono ?_;rintro e w4 ⟨rfl,hb4⟩;have MS:=aa ((HT2.out.below hb3).below hb4);have HR4:=aa ((HR2.out.below hb3).below hb4);have l5:=aa (ag (ag HB2.out hb3) hb4);obtain⟨R,hR⟩:∃R,tagged (bq FQ) (enc (.lst [.byt h, .byt (bq s),item]))=R:=⟨_,rfl⟩;have hRl:R.length=32:=by rw[←hR];exact dR _ _
 have HN:Kp (H_ h (bq s) item=R):=⟨hR⟩;have fQ:=aa hRl;rw[hR,show nO R = .tuple #[.agg (arr .u8 R), .int .i64 0]from rfl];clear hb3 hb4 hW3 HF3 HI3 zM HT2 HI2 zN HR2 HB2 ab4 hR hRl
 go_upto_region 4 with((with_reducible show wpList _ _ _ (⟨none,_,_,_,_,_⟩::_) _ _);refine wpList_store_row rfl 41 _ _ rfl w4.heap.size (arr .u8 R) rfl rfl _ _ (heap_alloc_new _ _) (aH fQ.out) (fu (l:=dL 32) rfl fQ.out) (dG _) ?_)
 rw[World.setRow_alloc_new]
 try simp only[Act.put]
 have HK3:Hid (bS .u8 41 (w4.alloc (.cells (arr .u8 R) 41)) w4.heap.size R):=aa (bS.new _ _);have Rb:=aa (MS.out.below (af w4 (.cells (arr .u8 R) 41)));have wE:=aa (HR4.out.below (af w4 (.cells (arr .u8 R) 41)));have l9:=aa (ag l5.out (af w4 (.cells (arr .u8 R) 41)));obtain⟨W5,Px⟩:∃u,w4.alloc (.cells (arr .u8 R) 41)=u:=⟨_,rfl⟩;rw[Px]at HK3 Rb wE l9 ⊢;clear Px;have hcnt:=Rb.out.count hl.out;have hcn:¬(c=1000):=by omega
 have hwr:IntKind.i64.wrap (c+1)=c+1:=IntWalk.i64_in _ (by omega)
 go_wp2_with (first
  | ((with_reducible show wpList _ _ _ (⟨some 40,_,_,_,_,_⟩::_) _ _);refine wpList_load_row rfl 41 _ rfl w4.heap.size rfl _ _ _ _ HK3.out Tryz.underlying41 rfl (aH fQ.out) ?_)
  | ((with_reducible show wpList _ _ _ (⟨some 44,_,_,_,_,_⟩::_) _ _);refine nU rfl 237 _ rfl _ (Ql R fQ.out (c+1)) ?_)
  | ((with_reducible show wpList _ _ _ (⟨none,_,_,_,_,_⟩::_) _ _);refine wpList_store_row rfl 237 _ _ rfl (w.heap.size+1+1) (dK R (c+1)) rfl rfl _ _ wE.out (aT fQ.out) (gP rfl fQ.out) (eP _ _) ?_))
 have HRR:Hid (dX (W5.setRow (w.heap.size+1+1) (dK R (c+1))) (w.heap.size+1+1) R (c+1)):=aa wE.out.setRow;have gU:Below w.heap.size w (W5.setRow (w.heap.size+1+1) (dK R (c+1))):=aj l9.out (by omega);exact bodyPost_ret (v:=Am R (c+1) 0) (dH (p:=6) (q:=7) (ty:=237) rfl _ _ ⟨w.heap.size+1+1,0,none⟩ _ _ rfl rfl (run_loadVar_row _ _ _ _ _ _ _ HRR.out Tryz.underlying237 rfl (aT fQ.out))) rfl ⟨by rw[HN.out],gU⟩
theorem Ny (h:List Int)(hl:Hid (h.length=32))(hb:Hid (aF h=true))(c:Int)(hc0:0≤c)(hc1:c<1000)(s:ByteArray)(hs:s.size≤1000)(hr:Hid (iQ (bq s)=true))(A:Option Addr)(l:List Int)(n cA:Nat)(hn:Hid (l.length=n))(hbig:n≤1000)(w:World)(hv:Hid (bB w))(hS:Hid (Sl w A l))(hfi:Hid (fits 7 (.lst (l.map .int))))(hle:Hid ((enc (.lst (l.map .int))).length≤14000)) :
  Calls Tryz.prog 245 #[.agg (dK h c), .string s, .slice A n cA] w (Rt w (Am (H_ h (bq s) (.lst (l.map .int))) (c+1) 0)):=by
 obtain⟨W,hW⟩:∃W,(w.alloc (.cells (dK h c) 237)).alloc (.cells #[.int .u8 0, .int .u8 0, .int .u8 0, .int .u8 0, .int .u8 0, .int .u8 0, .int .u8 0, .int .u8 0, .int .u8 0, .int .u8 0, .int .u8 0, .int .u8 0, .int .u8 0, .int .u8 0, .int .u8 0, .int .u8 0, .int .u8 0, .int .u8 0, .int .u8 0, .int .u8 0, .int .u8 0, .int .u8 0, .int .u8 0, .int .u8 0, .int .u8 0, .int .u8 0, .int .u8 0, .int .u8 0, .int .u8 0, .int .u8 0, .int .u8 0, .int .u8 0, .int .i64 0] 237)=W:=⟨_,rfl⟩;have cu:Hid (Below w.heap.size w W):=aa (by rw[←hW];exact aO (Below.refl _ _));have HT0:Hid (dX W w.heap.size h c):=aa (by rw[←hW];exact heap_alloc2_old _ _ _);have fH:Hid (dX W (w.heap.size+1) (dL 32) 0):=aa (by rw[←hW,Lt];exact heap_alloc2_new _ _ _);have HV:=aa (hv.out.below cu.out);have Ya:=aa (hS.out.below cu.out);have HW:=aa hW;clear hW hv;go_in
 go_upto_region 1 with(fail)
 rw[HW.out];clear HW;have qC:=aa ((Below.refl W.heap.size W).drew);have CL:=aa (HT0.out.below qC.out);have HRd:=aa (fH.out.below qC.out);have HVd:=aa (HV.out.below qC.out);have HSd:=aa (Ya.out.below qC.out);have HB3:=aa (ag cu.out qC.out);obtain⟨Wd,hWd⟩:∃u,W.drew=u:=⟨_,rfl⟩;refine bV (S:=fun w'=>w'.heap[w.heap.size]? = some (.cells (dK h c) 237 (0,0))) (E:= [7,8]) (by kernel_rfl) (CL.out) (fun hHeld=>?_);refine Cf 0 (.agg (dK h c)) rfl (ig 237 _ rfl w.heap.size rfl _ _ _ _ (fun _ h=>h) Tryz.underlying237 rfl (aT hl.out)) ?_;refine b_ 1 ?_;refine b_ 2 ?_;refine dh 3 fun K hK=>?_;go_simp
 try rw[hWd]
 rw[hWd]at qC CL HRd HVd HSd HB3;refine(OY A l n cA hn (by omega) _ HSd).mono ?_;rintro e w4 ⟨cI,rfl,Tq,hb4⟩;refine hK.out _ _ ?_ (fun hHeld=>?_)
 · exact CL.out.below hb4
 clear hK K
 try simp only[qq]
 refine dh 4 fun K hK=>?_;go_simp;have wu:=aa (HVd.out.below hb4);rw[show cI.val=(.agg #[.int .i64 cI.kind, .int .i64 cI.n, .slice cI.B cI.nb cI.cb, .slice cI.L cI.nl cI.cl]:Value)from rfl];refine(AY h hl hb c hc0 hc1 s hs hr _ cI _ wu (aa Tq) hfi hle).mono ?_;rintro e w5 ⟨rfl,hb5⟩;have wE:=aa ((HRd.out.below hb4).below hb5);have l9:=aa (ag (ag HB3.out hb4) hb5);obtain⟨R,hR⟩:∃R,H_ h (bq s) (.lst (l.map .int))=R:=⟨_,rfl⟩;have hRl:R.length=32:=by rw[←hR];exact qg _ _ _
 have HN:Kp (H_ h (bq s) (.lst (l.map .int))=R):=⟨hR⟩;have fQ:=aa hRl;rw[hR,show Am R (c+1) 0 = .tuple #[.agg (dK R (c+1)), .int .i64 0]from rfl];refine hK.out _ _ ?_ (fun hHeld=>?_)
 · exact(CL.out.below hb4).below hb5
 clear hK K
 try simp only[qq]
 refine b_ 5 ?_;refine b_ 6 ?_;refine oz 7 fun K hK=>?_;rw[show(if Region.wanted _ _=true then _ else _:Prop)=_ from if_pos rfl];refine wp_store_row 237 _ _ rfl (w.heap.size+1) (dK R (c+1)) rfl rfl 237 _ wE.out (aT fQ.out) (gP rfl fQ.out) (eP _ _) ?_;refine hK.out _ _ ?_;clear hK K
 try simp only[qq]
 refine oz 8 fun K hK=>?_;go_simp;refine hK.out _ _ ?_;clear hK K
 try simp only[qq]
 refine gM ?_;have HRR:Hid (dX (w5.setRow (w.heap.size+1) (dK R (c+1))) (w.heap.size+1) R (c+1)):=aa wE.out.setRow;have gU:Below w.heap.size w (w5.setRow (w.heap.size+1) (dK R (c+1))):=aj l9.out (by omega);clear hR hRl hb4 hb5 Tq wu l9 wE hWd;go_wp2;exact bodyPost_ret (v:=Am R (c+1) 0) (dH (p:=6) (q:=7) (ty:=237) rfl _ _ ⟨w.heap.size+1,0,none⟩ _ _ rfl rfl (run_loadVar_row _ _ _ _ _ _ _ HRR.out Tryz.underlying237 rfl (aT fQ.out))) rfl ⟨by rw[HN.out],gU⟩
def FP:ByteArray:= { data:=#[115,112,101,99,105,101,47,99,104,97,108,108,101,110,103,101] }
def chD (h s:List Int):List Int:=tagged (bq FP) (enc (.lst [.byt h, .byt s]))
def Dw (q:Int)(h s:List Int):Int:=Je q (chD h s)
def U6 (q:Int)(h s:List Int):List Int:=H_ h s (.int (Dw q h s))
theorem MM (h s:List Int):aF (chD h s)=true:=jJ _
theorem bH {P:Program} {fn:Func} {p q r:Tmp} {ty:TypeId} (h:fn.results = #[.cell p ty, .tmp q, .tmp r])(tmps:Array Value)(w:World)(a:Addr)(v u x:Value)
  (hp:tmps.getD p undef = .pointer (some a)) (hq:tmps.getD q undef=u) (hr:tmps.getD r undef=x) (hl:(loadVar ty a).run P w = .ok v w):(results fn tmps).run P w = .ok (.tuple #[v,u,x]) w:=by
 have hp':tmps[p]?.getD undef = .pointer (some a):=by simpa using hp
 have hq':tmps[q]?.getD undef=u:=by simpa using hq
 have hr':tmps[r]?.getD undef=x:=by simpa using hr
 simp[results,h,hp',hq',hr',asAddr,hl]
def Zq (h:List Int)(c n e:Int):Value:= .tuple #[.agg (dK h c), .int .i64 n, .int .i64 e]
theorem Nz (h:List Int)(hl:Hid (h.length=32))(hb:Hid (aF h=true))(c:Int)(hc0:0≤c)(hc1:c<1000)(s:ByteArray)(hs:s.size≤1000)(hr:Hid (iQ (bq s)=true))(q:Int)(hq1:2≤q)(hq2:q<2305843009213693952)(w:World)(hv:Hid (bB w)) :
  Calls Tryz.prog 246 #[.agg (dK h c), .string s, .int .i64 q] w (Rt w (Zq (U6 q h (bq s)) (c+1) (Dw q h (bq s)) 0)):=by
 have hs0:1≤s.size:=by
  have h:=hr.out;rw[iQ,bP]at h
  simp at h
  exact h.1.1
 obtain⟨W,hW⟩:∃W,(w.alloc (.cells (dK h c) 237)).alloc (.cells #[.int .u8 0, .int .u8 0, .int .u8 0, .int .u8 0, .int .u8 0, .int .u8 0, .int .u8 0, .int .u8 0, .int .u8 0, .int .u8 0, .int .u8 0, .int .u8 0, .int .u8 0, .int .u8 0, .int .u8 0, .int .u8 0, .int .u8 0, .int .u8 0, .int .u8 0, .int .u8 0, .int .u8 0, .int .u8 0, .int .u8 0, .int .u8 0, .int .u8 0, .int .u8 0, .int .u8 0, .int .u8 0, .int .u8 0, .int .u8 0, .int .u8 0, .int .u8 0, .int .i64 0] 237)=W:=⟨_,rfl⟩;have cu:Hid (Below w.heap.size w W):=aa (by rw[←hW];exact aO (Below.refl _ _));have HT0:Hid (dX W w.heap.size h c):=aa (by rw[←hW];exact heap_alloc2_old _ _ _);have fH:Hid (dX W (w.heap.size+1) (dL 32) 0):=aa (by rw[←hW,Lt];exact heap_alloc2_new _ _ _);have HV:=aa (hv.out.below cu.out);have HW:=aa hW;have hcn:¬(c=1000):=by omega
 have hqa:¬(q<2):=by omega
 have hqb:¬(2305843009213693952≤q):=by omega
 clear hW hv;go_in
 go_upto_region 1 with(fail)
 rw[HW.out];clear HW
 go_wp2_with ((with_reducible show wpList _ _ _ (⟨some 14,_,_,_,_,_⟩::_) _ _);refine wpList_load_row rfl 237 _ rfl w.heap.size rfl _ _ _ _ HT0.out Tryz.underlying237 rfl (aT hl.out) ?_)
 refine(AR h hl c hc0 (by omega) _).mono ?_;rintro e w1 ⟨rfl,hb1⟩;have HB1:=aa (ag cu.out hb1);have HT1:=aa (HT0.out.below hb1);have qV:=aa (HV.out.below hb1);have HR1:=aa (fH.out.below hb1);clear hb1 HT0 HV fH cu
 go_wp2_with fail
 refine(ry s hs true hr _).mono ?_;rintro e w2 ⟨rfl,hb2⟩;have HT2:=aa (HT1.out.below hb2);have zN:=aa (qV.out.below hb2);have HR2:=aa (HR1.out.below hb2);have HB2:=aa (ag HB1.out hb2);clear hb2 HT1 qV HR1 HB1;have hcnt:=HT2.out.count hl.out
 go_wp2_with ((with_reducible show wpList _ _ _ (⟨some 37,_,_,_,_,_⟩::_) _ _);refine wpList_load_row rfl 237 _ rfl w.heap.size rfl _ _ _ _ HT2.out Tryz.underlying237 rfl (aT hl.out) ?_)
 clear hcnt;refine(Mx FP (by decide) (by decide) h hl hb c s hs0 hs _ zN).mono ?_;rintro e w4 ⟨rfl,hb4⟩;have MS:=aa (HT2.out.below hb4);have HR4:=aa (HR2.out.below hb4);have wu:=aa (zN.out.below hb4);have l5:=aa (ag HB2.out hb4);obtain⟨R,hR⟩:∃R,tagged (bq FP) (enc (.lst [.byt h, .byt (bq s)]))=R:=⟨_,rfl⟩;have hRl:R.length=32:=by rw[←hR];exact dR _ _
 have Fq:Hid (aF R=true):=aa (by rw[←hR];exact MM _ _);have HN:Kp (chD h (bq s)=R):=⟨hR⟩;have fQ:=aa hRl;rw[hR,show nO R = .tuple #[.agg (arr .u8 R), .int .i64 0]from rfl];clear hb4 HT2 zN HR2 HB2 hR hRl
 go_upto_region 8 with((with_reducible show wpList _ _ _ (⟨none,_,_,_,_,_⟩::_) _ _);refine wpList_store_row rfl 41 _ _ rfl w4.heap.size (arr .u8 R) rfl rfl _ _ (heap_alloc_new _ _) (aH fQ.out) (fu (l:=dL 32) rfl fQ.out) (dG _) ?_)
 rw[World.setRow_alloc_new]
 try simp only[Act.put]
 have MV:Hid (bS .u8 41 (w4.alloc (.cells (arr .u8 R) 41)) w4.heap.size R):=aa (bS.new _ _);have Rb:=aa (MS.out.below (af w4 (.cells (arr .u8 R) 41)));have wE:=aa (HR4.out.below (af w4 (.cells (arr .u8 R) 41)));have HV5:=aa (wu.out.below (af w4 (.cells (arr .u8 R) 41)));have l9:=aa (ag l5.out (af w4 (.cells (arr .u8 R) 41)));obtain⟨W5,Px⟩:∃u,w4.alloc (.cells (arr .u8 R) 41)=u:=⟨_,rfl⟩;rw[Px]at MV Rb wE l9 HV5 ⊢;clear Px MS HR4 wu l5
 go_wp2_with ((with_reducible show wpList _ _ _ (⟨some 47,_,_,_,_,_⟩::_) _ _);refine wpList_load_row rfl 41 _ rfl w4.heap.size rfl _ _ _ _ MV.out Tryz.underlying41 rfl (aH fQ.out) ?_)
 refine(Jf R fQ Fq q (by omega) hq2 _).mono ?_;rintro e w6 ⟨rfl,hb6⟩;have CO:=aa (Rb.out.below hb6);have QH:=aa (wE.out.below hb6);have HV6:=aa (HV5.out.below hb6);have oM:=aa (ag l9.out hb6);obtain⟨n,hn⟩:∃n,Je q R=n:=⟨_,rfl⟩;have hn0:0≤n∧n<q:=by rw[←hn];exact Ab (by omega) 16
 obtain⟨hn1,hn2⟩:=hn0;have Rh:Kp (Dw q h (bq s)=n):=⟨by rw[Dw,HN.1];exact hn⟩;rw[hn];clear hb6 hn Rb wE HV5 l9 MV
 go_wp2_with ((with_reducible show wpList _ _ _ (⟨some 57,_,_,_,_,_⟩::_) _ _);refine wpList_load_row rfl 237 _ rfl w.heap.size rfl _ _ _ _ CO.out Tryz.underlying237 rfl (aT hl.out) ?_)
 refine(AY h hl hb c hc0 hc1 s hs hr (.int n) ⟨1,n,none,0,0,none,0,0⟩ _ HV6 (aa (.int n _ rfl rfl rfl rfl)) (aa ⟨by omega,by omega⟩) (aa (by rw[og,List.length_cons,g_];decide))).mono ?_;rintro e w7 ⟨rfl,Fe⟩;have Yh:=aa (QH.out.below Fe);have vK:=aa (ag oM.out Fe);obtain⟨G,hG⟩:∃G,H_ h (bq s) (.int n)=G:=⟨_,rfl⟩;have MW:Hid (G.length=32):=aa (by rw[←hG];exact qg _ _ _);have HNG:Kp (U6 q h (bq s)=G):=⟨by rw[U6,Rh.1];exact hG⟩;rw[hG,show Am G (c+1) 0 = .tuple #[.agg (dK G (c+1)), .int .i64 0]from rfl];clear Fe hG QH oM CO HV6
 go_upto_region 14 with((with_reducible show wpList _ _ _ (⟨none,_,_,_,_,_⟩::_) _ _);refine wpList_store_row rfl 237 _ _ rfl w7.heap.size (dK G (c+1)) rfl rfl _ _ (heap_alloc_new _ _) (aT MW.out) (gP (h:=dL 32) (c:=0) rfl MW.out) (eP _ _) ?_)
 rw[World.setRow_alloc_new]
 try simp only[Act.put]
 have HK8:Hid (dX (w7.alloc (.cells (dK G (c+1)) 237)) w7.heap.size G (c+1)):=aa (dX.new _ _ _);have Rf:=aa (Yh.out.below (af w7 (.cells (dK G (c+1)) 237)));have sK:=aa (ag vK.out (af w7 (.cells (dK G (c+1)) 237)));obtain⟨W8,UT⟩:∃u,w7.alloc (.cells (dK G (c+1)) 237)=u:=⟨_,rfl⟩;rw[UT]at HK8 Rf sK ⊢;clear UT Yh vK
 go_wp2_with (first
  | ((with_reducible show wpList _ _ _ (⟨some 68,_,_,_,_,_⟩::_) _ _);refine wpList_load_row rfl 237 _ rfl w7.heap.size rfl _ _ _ _ HK8.out Tryz.underlying237 rfl (aT MW.out) ?_)
  | ((with_reducible show wpList _ _ _ (⟨none,_,_,_,_,_⟩::_) _ _);refine wpList_store_row rfl 237 _ _ rfl (w.heap.size+1) (dK G (c+1)) rfl rfl _ _ Rf.out (aT MW.out) (gP rfl MW.out) (eP _ _) ?_))
 have HRR:Hid (dX (W8.setRow (w.heap.size+1) (dK G (c+1))) (w.heap.size+1) G (c+1)):=aa Rf.out.setRow;have gU:Below w.heap.size w (W8.setRow (w.heap.size+1) (dK G (c+1))):=aj sK.out (by omega);exact bodyPost_ret (v:=Zq G (c+1) n 0) (bH (p:=6) (q:=7) (r:=8) (ty:=237) rfl _ _ ⟨w.heap.size+1,0,none⟩ _ _ _ rfl rfl rfl (run_loadVar_row _ _ _ _ _ _ _ HRR.out Tryz.underlying237 rfl (aT MW.out))) rfl ⟨by rw[HNG.out,Rh.out],gU⟩
theorem iR (w:World)(a:Nat)(cs:Array Value):w.grownBy (w.setRow a cs) (some a):=
 ⟨rfl,rfl,rfl,by simp[World.setRow],fun k hk hne=>setRow_other w a k cs (fun e=>hne (by rw[e]))⟩
theorem d_.setRow {w:World} {base a:Nat} {v:Value} {cs:List Ic} {r:Array Value} (h:d_ w base v cs)(ha:a<base):d_ (w.setRow a r) base v cs:=
 World.ownsRow.kept h (iR w a r) (Or.inr (h.no ha))
theorem Sk.setRow {K:IntKind} {w:World} {b a:Nat} {l:List Int} {r:Array Value} (h:Sk K w (some ⟨b,0,none⟩) l)(hne:a≠b):Sk K (w.setRow a r) (some ⟨b,0,none⟩) l:=
 h.grown (iR w a r) (fun b' o' e _ e2=>by cases e;cases e2;exact hne rfl)
theorem dz (c:Ic):(Tryz.prog.info? 117).map (·.size)=some c.cs.size:=by
 have h:(Tryz.prog.info? 117).map (·.size)=some 4:=by kernel_rfl
 exact h
theorem kQ (c:Ic):c.cs.all (·.oneCell')=true:=by simp[Ic.cs,Value.oneCell']
theorem R7 (h:List Int)(hl:Hid (h.length=32))(hb:Hid (aF h=true))(c:Int)(s:ByteArray)(hs0:1≤s.size)(hs:s.size≤1000)(w:World) :
  Calls Tryz.prog 252 #[.agg (dK h c), .string s, .slice none 0 0] w (Ia (.lst [.byt h, .byt (bq s)]) w):=by
 obtain⟨i0,hi,hz0,hz1,hz2⟩:=info_parts j_;obtain⟨i1,hi1,hy0,hy1,hy2⟩:=info_parts eB;obtain⟨W,hW⟩:∃W,(w.alloc (.cells (dK h c) 237)).alloc (.cells #[.int .i64 0, .int .i64 0, .slice none 0 0, .slice none 0 0] 117)=W:=⟨_,rfl⟩;have cu:Hid (Below w.heap.size w W):=aa (by rw[←hW];exact aO (Below.refl _ _));have HT0:Hid (dX W w.heap.size h c):=aa (by rw[←hW];exact heap_alloc2_old _ _ _);have fH:Hid (W.heap[w.heap.size+1]? = some (.cells #[.int .i64 0, .int .i64 0, .slice none 0 0, .slice none 0 0] 117 (0,0))):=aa (by rw[←hW];exact heap_alloc2_new _ _ _);have l8:Hid (W.heap.size=w.heap.size+2):=aa (by rw[←hW];simp);have HW:=aa hW;have hcv:=fun w=>run_bytes_of_string (P:=Tryz.prog) w 9 114 5 s Tryz.underlying9 Tryz.underlying114 Tryz.underlying5;clear hW;go_in
 go_upto_region 1 with(fail)
 rw[HW.out];clear HW;have HT1:=aa (HT0.out.below (af W (.cells #[] 5)));have hrow:(W.alloc (.cells #[] 5)).ownsRow W.heap.size 5 1 (.slice (some ⟨W.heap.size,0,none⟩) 0 0) 0 []:=⟨rfl,Or.inr ⟨W.heap.size,0,#[],rfl,Nat.le_refl _,heap_alloc_new _ _,Nat.le_refl _,by decide,rfl,rfl⟩⟩;have b1:0+32≤maxLen:=by unfold maxLen;omega
 have b2:(0+32)*1≤140737488355328:=by omega
 have b3:W.heap.size≤(W.alloc (.cells #[] 5)).heap.size:=by simp
 have hlen:(h.map (Value.int .u8)).length=32*1:=by simp[hl.out]
 go_upto_region 2 with(at_builtin;refine wpList_append_lies rfl _ _ 114 rfl W.heap.size 5 i1 (.int .u8 0) 1 1 Tryz.underlying114 hi1 hy0 hy1 hy2 rfl (by decide) (.slice (some ⟨W.heap.size,0,none⟩) 0 0) _ _ rfl hrow ⟨w.heap.size,0,none⟩ 32 32 (h.map (.int .u8)) rfl hlen HT1.out.sk.news (ints_oneCell .u8 _) (by decide) b1 b2 b3 _ rfl ?_;intro g1 uq w1 hown1 hgrow1 Xd hlt1)
 have Yn:Hid (aV .u8 5 w1 W.heap.size (.slice (some ⟨g1,0,none⟩) 32 uq) h):=aa (by unfold aV;rw[hl.out];simpa using hown1);have HB1:Hid (Below W.heap.size W w1):=aa (((Below.refl W.heap.size W).alloc (Nat.le_refl _) (.cells #[] 5)).grown hgrow1 (by simp) (fun j hj=>by cases hj;exact Nat.le_refl _));have QW:Hid (W.heap.size≤g1):=aa (Yn.out.lt g1 rfl).1
 have HSH:Hid (Sk .u8 w1 (some ⟨g1,0,none⟩) h):=aa (by
  obtain⟨g,cap,e,_,_,_,hsk⟩:=Yn.out.cells (by rw[hl.out];decide)
  simp only[Value.slice.injEq,Option.some.injEq,Addr.mk.injEq]at e
  obtain⟨⟨rfl,-⟩,-,-⟩:=e
  exact hsk)
 have Nc:=aa hlt1;clear hown1 hgrow1 Xd hlt1 hrow b1 b2 b3 hlen HT1 hcv Yn;obtain⟨gc,hgc⟩:∃g,grownCap w1 s.size 0 5=g:=⟨_,rfl⟩;rw[hgc];obtain⟨Wc,hWc⟩:∃u,w1.alloc (.cells (bytesRow s gc) 5 ((bytesRow s gc).size,(bytesRow s gc).size+1))=u:=⟨_,rfl⟩;rw[hWc];have uC:Hid (Below w1.heap.size w1 Wc):=aa (by rw[←hWc];exact af _ _);have HSc:Hid (Sk .u8 Wc (some ⟨w1.heap.size,0,none⟩) (bq s)):=aa (by rw[←hWc];exact nN (heap_alloc_new w1 _));have Ik:Hid (Wc.heap.size=w1.heap.size+1):=aa (by rw[←hWc];simp);obtain⟨W2,hW2⟩:∃u,(Wc.alloc (.cells #[.int .i64 2, .int .i64 0, .slice (some ⟨g1,0,none⟩) 32 uq, .slice none 0 0, .int .i64 2, .int .i64 0, .slice (some ⟨w1.heap.size,0,none⟩) s.size gc, .slice none 0 0] 117)).drew=u:=⟨_,rfl⟩
 have tu:Hid (d_ W2 Wc.heap.size (.slice (some ⟨w1.heap.size+1,0,none⟩) 2 2) [aQ (some ⟨g1,0,none⟩) 32 uq,aQ (some ⟨w1.heap.size,0,none⟩) s.size gc]):=aa (by
  rw[←hW2];have h:=(xD Wc (aQ (some ⟨g1,0,none⟩) 32 uq) (aQ (some ⟨w1.heap.size,0,none⟩) s.size gc)).keep (Below.refl _ _).drew;rw[Ik.out]at h ⊢
  exact h)
 have Kc:Hid (Below w1.heap.size w1 W2):=aa (ag uC.out (by rw[←hW2];exact(af _ _).drew));have HB2:Hid (Below W.heap.size W W2):=aa (ag HB1.out Kc.out);have HS2:Hid (Sk .u8 W2 (some ⟨w1.heap.size,0,none⟩) (bq s)):=aa (HSc.out.below (by rw[←hW2];exact(af _ _).drew));have Ye:Hid (Sk .u8 W2 (some ⟨g1,0,none⟩) h):=aa (HSH.out.below Kc.out);have HZ1:Hid (W.heap.size≤w1.heap.size):=aa HB1.out.size;have hzW:Wc.heap.size<W2.heap.size:=by rw[←hW2];simp
 rw[hW2];clear hW2 hWc hgc HSc uC HSH;have hrow:W2.ownsRow Wc.heap.size 117 4 (.slice (some ⟨w1.heap.size+1,0,none⟩) 2 2) 2 ([aQ (some ⟨g1,0,none⟩) 32 uq,aQ (some ⟨w1.heap.size,0,none⟩) s.size gc].flatMap aY):=tu.out;have jU:Hid (W2.heap[w.heap.size+1]? = some (.cells #[.int .i64 0, .int .i64 0, .slice none 0 0, .slice none 0 0] 117 (0,0))):=aa ((HB2.out.block _ (by have:=l8.out;omega)).trans fH.out);have HOL:=tu;have Yb:=Ye;have Ya:=HS2;have Rk:=HB2
 go_wp2_with (first
  | (at_builtin;refine wpList_append_own_none rfl _ _ 115 rfl Wc.heap.size 117 i0 4 Tryz.underlying115 hi _ _ _ rfl hrow rfl ?_)
  | ((with_reducible show wpList _ _ _ (⟨none,_,_,_,_,_⟩::_) _ _);refine wpList_store_row rfl 117 _ _ rfl (w.heap.size+1) (Ic.cs ⟨3,0,none,0,0,some ⟨w1.heap.size+1,0,none⟩,2,2⟩) rfl rfl _ _ jU.out (dz _) rfl (kQ _) ?_))
 skip
 obtain⟨WF,uY⟩:∃u,W2.setRow (w.heap.size+1) (Ic.cs ⟨3,0,none,0,0,some ⟨w1.heap.size+1,0,none⟩,2,2⟩)=u:=⟨_,rfl⟩;have Yo:Hid (d_ WF Wc.heap.size (.slice (some ⟨w1.heap.size+1,0,none⟩) 2 2) [aQ (some ⟨g1,0,none⟩) 32 uq,aQ (some ⟨w1.heap.size,0,none⟩) s.size gc]):=aa (by rw[←uY];exact HOL.out.setRow (by have:=Ik.out;have:=l8.out;have:=HZ1.out;omega));have Yc:Hid (Sk .u8 WF (some ⟨g1,0,none⟩) h):=aa (by rw[←uY];exact Yb.out.setRow (by have:=QW.out;have:=l8.out;omega));have HSF:Hid (Sk .u8 WF (some ⟨w1.heap.size,0,none⟩) (bq s)):=aa (by rw[←uY];exact Ya.out.setRow (by have:=HZ1.out;have:=l8.out;omega));have gU:Hid (Below w.heap.size w WF):=aa (by rw[←uY];exact aj (ag cu.out Rk.out) (Nat.le_succ _));have HRW:Hid (WF.heap[w.heap.size+1]? = some (.cells (Ic.cs ⟨3,0,none,0,0,some ⟨w1.heap.size+1,0,none⟩,2,2⟩) 117 (0,0))):=aa (by rw[←uY];exact setRow_heap _ _ _ _ _ _ jU.out)
 have QT:Hid (∃g cap,(Value.slice (some ⟨w1.heap.size+1,0,none⟩) 2 2) = .slice (some ⟨g,0,none⟩) 2 cap∧pV WF (.lst [.byt h, .byt (bq s)]) ⟨3,0,none,0,0,some ⟨g,0,none⟩,2,cap⟩):=aa (tY Yo.out rfl rfl (by decide) (fun k hk=>by
  rcases (show k=0∨k=1 by omega)with rfl | rfl
  · exact kr Yc.out hl.out
  · exact kr HSF.out (bP s)))
 obtain⟨g,cap,e3,hit⟩:=QT.out
 simp only[Value.slice.injEq,Option.some.injEq,Addr.mk.injEq]at e3
 obtain⟨⟨rfl,-⟩,-,rfl⟩:=e3;have HIT:=aa hit;clear hit QT;rw[uY];clear uY;exact bodyPost_ret (v:= .agg (Ic.cs ⟨3,0,none,0,0,some ⟨w1.heap.size+1,0,none⟩,2,2⟩)) (aK (p:=6) (ty:=117) rfl _ _ ⟨w.heap.size+1,0,none⟩ _ rfl (run_loadVar_row _ _ _ _ _ _ _ HRW.out Tryz.underlying117 rfl (dz _))) rfl ⟨⟨3,0,none,0,0,some ⟨w1.heap.size+1,0,none⟩,2,2⟩,rfl,HIT.out,gU.out⟩
theorem R6 (h:List Int)(hl:Hid (h.length=32))(hb:Hid (aF h=true))(c:Int)(s:ByteArray)(hs0:1≤s.size)(hs:s.size≤1000)(item:It)(cI:Ic)(gm cm:Nat)(w:World)(hF:Hid (Four w gm 0 cI))(hI:Hid (pV w item cI)) :
  Calls Tryz.prog 252 #[.agg (dK h c), .string s, .slice (some ⟨gm,0,none⟩) 1 cm] w (Ia (.lst [.byt h, .byt (bq s),item]) w):=by
 obtain⟨i0,hi,hz0,hz1,hz2⟩:=info_parts j_;obtain⟨i1,hi1,hy0,hy1,hy2⟩:=info_parts eB;obtain⟨W,hW⟩:∃W,(w.alloc (.cells (dK h c) 237)).alloc (.cells #[.int .i64 0, .int .i64 0, .slice none 0 0, .slice none 0 0] 117)=W:=⟨_,rfl⟩;have cu:Hid (Below w.heap.size w W):=aa (by rw[←hW];exact aO (Below.refl _ _));have HT0:Hid (dX W w.heap.size h c):=aa (by rw[←hW];exact heap_alloc2_old _ _ _);have fH:Hid (W.heap[w.heap.size+1]? = some (.cells #[.int .i64 0, .int .i64 0, .slice none 0 0, .slice none 0 0] 117 (0,0))):=aa (by rw[←hW];exact heap_alloc2_new _ _ _);have l8:Hid (W.heap.size=w.heap.size+2):=aa (by rw[←hW];simp);have HW:=aa hW;have hcv:=fun w=>run_bytes_of_string (P:=Tryz.prog) w 9 114 5 s Tryz.underlying9 Tryz.underlying114 Tryz.underlying5;clear hW;go_in
 go_upto_region 1 with(fail)
 rw[HW.out];clear HW;have HT1:=aa (HT0.out.below (af W (.cells #[] 5)));have hrow:(W.alloc (.cells #[] 5)).ownsRow W.heap.size 5 1 (.slice (some ⟨W.heap.size,0,none⟩) 0 0) 0 []:=⟨rfl,Or.inr ⟨W.heap.size,0,#[],rfl,Nat.le_refl _,heap_alloc_new _ _,Nat.le_refl _,by decide,rfl,rfl⟩⟩;have b1:0+32≤maxLen:=by unfold maxLen;omega
 have b2:(0+32)*1≤140737488355328:=by omega
 have b3:W.heap.size≤(W.alloc (.cells #[] 5)).heap.size:=by simp
 have hlen:(h.map (Value.int .u8)).length=32*1:=by simp[hl.out]
 go_upto_region 2 with(at_builtin;refine wpList_append_lies rfl _ _ 114 rfl W.heap.size 5 i1 (.int .u8 0) 1 1 Tryz.underlying114 hi1 hy0 hy1 hy2 rfl (by decide) (.slice (some ⟨W.heap.size,0,none⟩) 0 0) _ _ rfl hrow ⟨w.heap.size,0,none⟩ 32 32 (h.map (.int .u8)) rfl hlen HT1.out.sk.news (ints_oneCell .u8 _) (by decide) b1 b2 b3 _ rfl ?_;intro g1 uq w1 hown1 hgrow1 Xd hlt1)
 have Yn:Hid (aV .u8 5 w1 W.heap.size (.slice (some ⟨g1,0,none⟩) 32 uq) h):=aa (by unfold aV;rw[hl.out];simpa using hown1);have HB1:Hid (Below W.heap.size W w1):=aa (((Below.refl W.heap.size W).alloc (Nat.le_refl _) (.cells #[] 5)).grown hgrow1 (by simp) (fun j hj=>by cases hj;exact Nat.le_refl _));have QW:Hid (W.heap.size≤g1):=aa (Yn.out.lt g1 rfl).1
 have HSH:Hid (Sk .u8 w1 (some ⟨g1,0,none⟩) h):=aa (by
  obtain⟨g,cap,e,_,_,_,hsk⟩:=Yn.out.cells (by rw[hl.out];decide)
  simp only[Value.slice.injEq,Option.some.injEq,Addr.mk.injEq]at e
  obtain⟨⟨rfl,-⟩,-,-⟩:=e
  exact hsk)
 have Nc:=aa hlt1;clear hown1 hgrow1 Xd hlt1 hrow b1 b2 b3 hlen HT1 hcv Yn;obtain⟨gc,hgc⟩:∃g,grownCap w1 s.size 0 5=g:=⟨_,rfl⟩;rw[hgc];obtain⟨Wc,hWc⟩:∃u,w1.alloc (.cells (bytesRow s gc) 5 ((bytesRow s gc).size,(bytesRow s gc).size+1))=u:=⟨_,rfl⟩;rw[hWc];have uC:Hid (Below w1.heap.size w1 Wc):=aa (by rw[←hWc];exact af _ _);have HSc:Hid (Sk .u8 Wc (some ⟨w1.heap.size,0,none⟩) (bq s)):=aa (by rw[←hWc];exact nN (heap_alloc_new w1 _));have Ik:Hid (Wc.heap.size=w1.heap.size+1):=aa (by rw[←hWc];simp);obtain⟨W2,hW2⟩:∃u,(Wc.alloc (.cells #[.int .i64 2, .int .i64 0, .slice (some ⟨g1,0,none⟩) 32 uq, .slice none 0 0, .int .i64 2, .int .i64 0, .slice (some ⟨w1.heap.size,0,none⟩) s.size gc, .slice none 0 0] 117)).drew=u:=⟨_,rfl⟩
 have tu:Hid (d_ W2 Wc.heap.size (.slice (some ⟨w1.heap.size+1,0,none⟩) 2 2) [aQ (some ⟨g1,0,none⟩) 32 uq,aQ (some ⟨w1.heap.size,0,none⟩) s.size gc]):=aa (by
  rw[←hW2];have h:=(xD Wc (aQ (some ⟨g1,0,none⟩) 32 uq) (aQ (some ⟨w1.heap.size,0,none⟩) s.size gc)).keep (Below.refl _ _).drew;rw[Ik.out]at h ⊢
  exact h)
 have Kc:Hid (Below w1.heap.size w1 W2):=aa (ag uC.out (by rw[←hW2];exact(af _ _).drew));have HB2:Hid (Below W.heap.size W W2):=aa (ag HB1.out Kc.out);have HS2:Hid (Sk .u8 W2 (some ⟨w1.heap.size,0,none⟩) (bq s)):=aa (HSc.out.below (by rw[←hW2];exact(af _ _).drew));have Ye:Hid (Sk .u8 W2 (some ⟨g1,0,none⟩) h):=aa (HSH.out.below Kc.out);have HZ1:Hid (W.heap.size≤w1.heap.size):=aa HB1.out.size;have hzW:Wc.heap.size<W2.heap.size:=by rw[←hW2];simp
 rw[hW2];clear hW2 hWc hgc HSc uC HSH;have hrow:W2.ownsRow Wc.heap.size 117 4 (.slice (some ⟨w1.heap.size+1,0,none⟩) 2 2) 2 ([aQ (some ⟨g1,0,none⟩) 32 uq,aQ (some ⟨w1.heap.size,0,none⟩) s.size gc].flatMap aY):=tu.out;have Zm:Hid (Four W2 gm 0 cI):=aa ((hF.out.below cu.out).below HB2.out);have u_:Wc.heap.size≤W2.heap.size:=by omega
 have b1:2+1≤maxLen:=by unfold maxLen;omega
 have b2:(2+1)*64≤140737488355328:=by omega
 have HNW:∀(j:Nat) (u:Value),(aY cI)[j]? = some u→W2.cell? ((⟨gm,0,none⟩:Addr).add j)=some u:=Dm Zm.out
 go_wp2_with (first
  | (at_builtin;refine wpList_append_lies rfl _ _ 115 rfl Wc.heap.size 117 i0 (.agg #[.int .i64 0, .int .i64 0, .slice none 0 0, .slice none 0 0]) 4 64 Tryz.underlying115 hi hz0 hz1 hz2 rfl (by decide) (.slice (some ⟨w1.heap.size+1,0,none⟩) 2 2) _ _ rfl hrow ⟨gm,0,none⟩ 1 cm (aY cI) rfl rfl HNW (vz cI) (by decide) b1 b2 u_ _ rfl ?_;intro g3 pU w3 hown3 hgrow3 Xc hlt3;have Rk:Hid (Below W.heap.size W w3):=aa (HB2.out.grown hgrow3 (by have:=Ik.out;have:=HZ1.out;omega) (fun j hj=>by have:=Ik.out;have:=HZ1.out;have:=(World.ownsRow.lt hrow j hj).1;omega));have jU:Hid (w3.heap[w.heap.size+1]? = some (.cells #[.int .i64 0, .int .i64 0, .slice none 0 0, .slice none 0 0] 117 (0,0))):=aa ((Rk.out.block _ (by have:=l8.out;omega)).trans fH.out))
  | ((with_reducible show wpList _ _ _ (⟨none,_,_,_,_,_⟩::_) _ _);refine wpList_store_row rfl 117 _ _ rfl (w.heap.size+1) (Ic.cs ⟨3,0,none,0,0,some ⟨g3,0,none⟩,3,pU⟩) rfl rfl _ _ jU.out (dz _) rfl (kQ _) ?_))
 have Q5:Hid (Below (w1.heap.size+1) W2 w3):=aa ((Below.refl _ _).grown hgrow3 (by have:=Ik.out;omega) (fun j hj=>by have:=Ik.out;have:=(World.ownsRow.lt hrow j hj).1;omega));have HOL:Hid (d_ w3 Wc.heap.size (.slice (some ⟨g3,0,none⟩) 3 pU) [aQ (some ⟨g1,0,none⟩) 32 uq,aQ (some ⟨w1.heap.size,0,none⟩) s.size gc,cI]):=aa hown3;have Yb:Hid (Sk .u8 w3 (some ⟨g1,0,none⟩) h):=aa (IU Ye.out Q5.out (by have:=Nc.out;omega));have Ya:Hid (Sk .u8 w3 (some ⟨w1.heap.size,0,none⟩) (bq s)):=aa (IU HS2.out Q5.out (by omega));clear hown3 hgrow3 Xc hlt3 HNW;obtain⟨WF,uY⟩:∃u,w3.setRow (w.heap.size+1) (Ic.cs ⟨3,0,none,0,0,some ⟨g3,0,none⟩,3,pU⟩)=u:=⟨_,rfl⟩;have Yo:Hid (d_ WF Wc.heap.size (.slice (some ⟨g3,0,none⟩) 3 pU) [aQ (some ⟨g1,0,none⟩) 32 uq,aQ (some ⟨w1.heap.size,0,none⟩) s.size gc,cI]):=aa (by rw[←uY];exact HOL.out.setRow (by have:=Ik.out;have:=l8.out;have:=HZ1.out;omega));have Yc:Hid (Sk .u8 WF (some ⟨g1,0,none⟩) h):=aa (by rw[←uY];exact Yb.out.setRow (by have:=QW.out;have:=l8.out;omega));have HSF:Hid (Sk .u8 WF (some ⟨w1.heap.size,0,none⟩) (bq s)):=aa (by rw[←uY];exact Ya.out.setRow (by have:=HZ1.out;have:=l8.out;omega));have gU:Hid (Below w.heap.size w WF):=aa (by rw[←uY];exact aj (ag cu.out Rk.out) (Nat.le_succ _));have HRW:Hid (WF.heap[w.heap.size+1]? = some (.cells (Ic.cs ⟨3,0,none,0,0,some ⟨g3,0,none⟩,3,pU⟩) 117 (0,0))):=aa (by rw[←uY];exact setRow_heap _ _ _ _ _ _ jU.out)
 have QT:Hid (∃g cap,(Value.slice (some ⟨g3,0,none⟩) 3 pU) = .slice (some ⟨g,0,none⟩) 3 cap∧pV WF (.lst [.byt h, .byt (bq s),item]) ⟨3,0,none,0,0,some ⟨g,0,none⟩,3,cap⟩):=aa (tY Yo.out rfl rfl (by decide) (fun k hk=>by
  rcases (show k=0∨k=1∨k=2 by omega)with rfl | rfl | rfl
  · exact kr Yc.out hl.out
  · exact kr HSF.out (bP s)
  · exact hI.out.kept gU.out))
 obtain⟨g,cap,e3,hit⟩:=QT.out
 simp only[Value.slice.injEq,Option.some.injEq,Addr.mk.injEq]at e3
 obtain⟨⟨rfl,-⟩,-,rfl⟩:=e3;have HIT:=aa hit;clear hit QT;rw[uY];clear uY;exact bodyPost_ret (v:= .agg (Ic.cs ⟨3,0,none,0,0,some ⟨g3,0,none⟩,3,pU⟩)) (aK (p:=6) (ty:=117) rfl _ _ ⟨w.heap.size+1,0,none⟩ _ rfl (run_loadVar_row _ _ _ _ _ _ _ HRW.out Tryz.underlying117 rfl (dz _))) rfl ⟨⟨3,0,none,0,0,some ⟨g3,0,none⟩,3,pU⟩,rfl,HIT.out,gU.out⟩
theorem LU (A:Option Addr)(l:List Int)(n c:Nat)(hn:Hid (l.length=n))(hbig:n≤1000000)(w:World)(hs:Hid (Sl w A l)) :
  Calls Tryz.prog 249 #[.slice A n c] w (Ia (.lst (l.map .int)) w):=by
 obtain⟨i0,hi,hz0,hz1,hz2⟩:=info_parts j_;obtain⟨W,hW⟩:∃W,(w.alloc (.cells #[.int .i64 0, .int .i64 0, .slice none 0 0, .slice none 0 0] 117)).alloc (.cells #[.int .i64 3, .int .i64 0, .slice none 0 0, .slice none 0 0] 117)=W:=⟨_,rfl⟩;have cu:Hid (Below w.heap.size w W):=aa (by rw[←hW];exact aO (Below.refl _ _));have l8:Hid (W.heap.size=w.heap.size+2):=aa (by rw[←hW];simp)
 have hF:Four W (w.heap.size+1) 0 ⟨3,0,none,0,0,none,0,0⟩:=by
  rw[←hW];have h:=heap_alloc2_new w (.cells #[.int .i64 0, .int .i64 0, .slice none 0 0, .slice none 0 0] 117) (.cells #[.int .i64 3, .int .i64 0, .slice none 0 0, .slice none 0 0] 117);exact⟨au h 0,au h 1,au h 2,au h 3⟩
 have hf0:∀j,W.frozen? ⟨w.heap.size+1,j,none⟩=false:=by
  rw[←hW];exact fun j=>ay (heap_alloc2_new _ _ _) j
 have HG:Hid ((Four W w.heap.size 0 ⟨0,0,none,0,0,none,0,0⟩)∧∀j,W.frozen? ⟨w.heap.size,j,none⟩=false):=aa (by
  rw[←hW];have h:=heap_alloc2_old w (.cells #[.int .i64 0, .int .i64 0, .slice none 0 0, .slice none 0 0] 117) (.cells #[.int .i64 3, .int .i64 0, .slice none 0 0, .slice none 0 0] 117)
  exact⟨⟨au h 0,au h 1,au h 2,au h 3⟩,fun j=>ay h j⟩)
 have MX:Hid (W.heap[w.heap.size]? = some (.cells #[.int .i64 0, .int .i64 0, .slice none 0 0, .slice none 0 0] 117 (0,0))):=aa (by rw[←hW];exact heap_alloc2_old w _ _);have HS:=aa hs.out;have HW:=aa hW;have HX:Hid (Own W ⟨w.heap.size+1,0,none⟩ (.int .i64 3)∧Own W ⟨w.heap.size+1,1,none⟩ (.int .i64 0)∧Own W ⟨w.heap.size+1,2,none⟩ (.slice none 0 0)):=aa ⟨⟨hF.1,hf0 0⟩,⟨hF.2.1,hf0 1⟩,⟨hF.2.2.1,hf0 2⟩⟩;have HL:Hid (Own W ⟨w.heap.size+1,3,none⟩ (.slice none 0 0)):=aa ⟨hF.2.2.2,hf0 3⟩;clear hW hs hF hf0;go_in;go_wp2;rw[HW.out]
 go_loopw [4] (fun i u=>∃(k:Nat) (v:Value),k≤n∧i = .int .i64 k∧Hid (Own u ⟨w.heap.size+1,3,none⟩ v)∧Hid (d_ u (w.heap.size+2) v ((l.take k).map aR))∧Hid (Own u ⟨w.heap.size+1,0,none⟩ (.int .i64 3)∧Own u ⟨w.heap.size+1,1,none⟩ (.int .i64 0)∧Own u ⟨w.heap.size+1,2,none⟩ (.slice none 0 0))∧Hid (Below (w.heap.size+1) W u)) (fun i _=>n-(intOf i).toNat)
 case atStart=>exact⟨0,_,by omega,rfl,HL,aa (tV _ _),HX,aa (Below.refl _ _)⟩
 case round=>
  obtain⟨k,v,hk,rfl,HV,HO,qh,aD⟩:=hrel
  by_cases hlt:k<n
  ·
   have hkl:k<l.length:=by rw[hn.out];exact hlt
   obtain⟨b,o,hA,hc⟩:=(HS.out.below (cu.out.trans (aD.out.mono (Nat.le_succ _)))) k hkl;subst hA;have zO:=aa (vV hkl);obtain⟨x,hx⟩:∃x,l.getD k 0=x:=⟨_,rfl⟩;rw[hx]at hc zO;have tC:Hid (((l.take k).map aR).length=k):=aa (by rw[List.length_map,List.length_take];omega);have hown:wr.ownsRow (w.heap.size+2) 117 4 v k (((l.take k).map aR).flatMap aY):=by have h:=HO.out;unfold d_ at h;rwa [tC.out]at h
   have hbs:w.heap.size+2≤wr.heap.size:=by have:=aD.out.size;have:=l8.out;omega
   have hno:v.ownBlock≠some (w.heap.size+1):=HO.out.no (by omega);obtain⟨v3,IQ⟩:=HV.out;have hS:=aa (show ∀u1:World,Hid (Below wr.drew.heap.size wr.drew u1)→(u1.cell? ⟨w.heap.size+1,3,none⟩=some v∧u1.cell? ⟨b,o+k,none⟩=some (.int .i64 x)∧Hid (Below wr.drew.heap.size wr.drew u1))from fun u1 h1=>⟨cell_below (w:=wr.drew) v3 h1.out,cell_below (w:=wr.drew) hc h1.out,h1⟩);have HOWN:=aa hown;clear hx hkl hown v3 IQ hc;go_wp2;refine bV (S:=fun w'=>w'.cell? ⟨w.heap.size+1,3,none⟩=some v∧w'.cell? ⟨b,o+k,none⟩=some (.int .i64 x)∧Hid (Below wr.drew.heap.size wr.drew w')) (E:= [8,9,10]) (by kernel_rfl) (hS.out _ (aa (Below.refl _ _))) (fun hHeld=>?_);refine b_ 0 ?_;refine b_ 1 ?_;refine b_ 2 ?_;refine b_ 3 ?_;refine b_ 4 ?_;refine b_ 5 ?_;refine b_ 6 ?_;refine dh 7 fun K hK=>?_;go_simp;refine hK.out _ _ ?_ (fun hHeld=>?_)
   · exact hS.out _ (aa (af _ _))
   clear hK K
   try simp only[qq]
   refine oz 8 fun K hK=>?_
   refine step_append_lies _ (by rfl) _ _ _ (by rfl) (w.heap.size+2) 117 i0 _ 4 64 Tryz.underlying115 hi hz0 hz1 hz2 rfl (by omega) v k (((l.take k).map aR).flatMap aY) (by rfl) ((HOWN.out.alloc _).drew)
    ⟨wr.heap.size,0,none⟩ 1 1 [.int .i64 1, .int .i64 x, .slice none 0 0, .slice none 0 0] (by rfl) (by rfl) (World.news_of_block (cs:=#[.int .i64 1, .int .i64 x, .slice none 0 0, .slice none 0 0]) (t:=117) (fr:=(0,0)) (heap_alloc_new wr _)) (by simp[Value.oneCell'])
    (by omega) (by unfold maxLen;omega) (by omega) (by simp;omega) (wr.heap.size+1) (by simp) ?_;intro gg cap wz hown1 hgrow hat hlt2
   have JZ:=aJ (w:=(wr.alloc (.cells #[.int .i64 1, .int .i64 x, .slice none 0 0, .slice none 0 0] 117)).drew) (HV.out.below (af wr (.cells #[.int .i64 1, .int .i64 x, .slice none 0 0, .slice none 0 0] 117)).drew) hgrow hno;have XQ:=JZ;obtain⟨p2,f2⟩:=XQ;refine hK.out _ _ ?_;clear hK K
   try simp only[qq]
   refine oz 9 fun K hK=>?_;go_simp;refine hK.out _ _ ?_;clear hK K
   try simp only[qq]
   refine oz 10 fun K hK=>?_;go_simp;refine hK.out _ _ ?_;clear hK K
   try simp only[qq]
   refine gM ?_;have HB2:Hid (Below (w.heap.size+1) W wz):=aa (((aD.out.alloc (by omega) (.cells #[.int .i64 1, .int .i64 x, .slice none 0 0, .slice none 0 0] 117)).drew).grown hgrow (by simp;omega) (fun j hj=>by have:=(World.ownsRow.lt HOWN.out j hj).1;omega))
   have tu:Hid (d_ wz (w.heap.size+2) (.slice (some ⟨gg,0,none⟩) (k+1) cap) ((l.take (k+1)).map aR)):=aa (by
    rw[zO.out]
    exact d_.app tC.out.symm hown1)
   have hd:=(Below.refl wr.heap.size wr);have a0:=aJ (w:=(wr.alloc (.cells #[.int .i64 1, .int .i64 x, .slice none 0 0, .slice none 0 0] 117)).drew) (qh.out.1.below (af wr (.cells #[.int .i64 1, .int .i64 x, .slice none 0 0, .slice none 0 0] 117)).drew) hgrow hno;have a1:=aJ (w:=(wr.alloc (.cells #[.int .i64 1, .int .i64 x, .slice none 0 0, .slice none 0 0] 117)).drew) (qh.out.2.1.below (af wr (.cells #[.int .i64 1, .int .i64 x, .slice none 0 0, .slice none 0 0] 117)).drew) hgrow hno;have a2:=aJ (w:=(wr.alloc (.cells #[.int .i64 1, .int .i64 x, .slice none 0 0, .slice none 0 0] 117)).drew) (qh.out.2.2.below (af wr (.cells #[.int .i64 1, .int .i64 x, .slice none 0 0, .slice none 0 0] 117)).drew) hgrow hno;have wu:Hid (Own (wz.setCell ⟨w.heap.size+1,3,none⟩ (.slice (some ⟨gg,0,none⟩) (k+1) cap)) ⟨w.heap.size+1,3,none⟩ (.slice (some ⟨gg,0,none⟩) (k+1) cap)):=aa (bu JZ);have Aq:Hid (d_ (wz.setCell ⟨w.heap.size+1,3,none⟩ (.slice (some ⟨gg,0,none⟩) (k+1) cap)) (w.heap.size+2) (.slice (some ⟨gg,0,none⟩) (k+1) cap) ((l.take (k+1)).map aR)):=aa (tu.out.set (by omega))
   have TZ:Hid (Own (wz.setCell ⟨w.heap.size+1,3,none⟩ (.slice (some ⟨gg,0,none⟩) (k+1) cap)) ⟨w.heap.size+1,0,none⟩ (.int .i64 3)∧Own (wz.setCell ⟨w.heap.size+1,3,none⟩ (.slice (some ⟨gg,0,none⟩) (k+1) cap)) ⟨w.heap.size+1,1,none⟩ (.int .i64 0)∧Own (wz.setCell ⟨w.heap.size+1,3,none⟩ (.slice (some ⟨gg,0,none⟩) (k+1) cap)) ⟨w.heap.size+1,2,none⟩ (.slice none 0 0)):=
    aa ⟨ak a0 (by simp),ak a1 (by simp),ak a2 (by simp)⟩
   have l5:Hid (Below (w.heap.size+1) W (wz.setCell ⟨w.heap.size+1,3,none⟩ (.slice (some ⟨gg,0,none⟩) (k+1) cap))):=aa (HB2.out.setCell (Nat.le_refl _) _);clear hown1 hgrow HO qh HV p2 f2 a0 a1 a2 HB2 tu JZ hd;go_wp2
   go_roundw
   case rel=>exact⟨k+1,_,by omega,by go_num,wu,Aq,TZ,l5⟩
   case measure=>simp[intOf];omega
  ·
   have yY:Hid (d_ wr (w.heap.size+2) v (l.map aR)):=aa (by
    have h:=HO.out
    rwa [List.take_of_length_le (by have:=hn.out;omega)]at h)
   obtain⟨L,cl,UX⟩:=yY.out.len;rw[List.length_map,hn.out]at UX;subst UX;obtain⟨p0,p0f⟩:=qh.out.1;obtain⟨p1,p1f⟩:=qh.out.2.1;obtain⟨p2,p2f⟩:=qh.out.2.2;obtain⟨p3,p3f⟩:=HV.out;have HGr:=HG.out;have r0:=(aD.out.cell (p:=⟨w.heap.size,0,none⟩) (Nat.lt_succ_self _)).trans HG.out.1.1;have r1:=(aD.out.cell (p:=⟨w.heap.size,1,none⟩) (Nat.lt_succ_self _)).trans HG.out.1.2.1;have r2:=(aD.out.cell (p:=⟨w.heap.size,2,none⟩) (Nat.lt_succ_self _)).trans HG.out.1.2.2.1;have r3:=(aD.out.cell (p:=⟨w.heap.size,3,none⟩) (Nat.lt_succ_self _)).trans HG.out.1.2.2.2;have z0:=(aD.out.frozen (p:=⟨w.heap.size,0,none⟩) (Nat.lt_succ_self _)).trans (HG.out.2 0);have z1:=(aD.out.frozen (p:=⟨w.heap.size,1,none⟩) (Nat.lt_succ_self _)).trans (HG.out.2 1);have z2:=(aD.out.frozen (p:=⟨w.heap.size,2,none⟩) (Nat.lt_succ_self _)).trans (HG.out.2 2);have z3:=(aD.out.frozen (p:=⟨w.heap.size,3,none⟩) (Nat.lt_succ_self _)).trans (HG.out.2 3);have u_:=aa (cu.out.trans (aD.out.mono (Nat.le_succ _)));clear qh HV HO HGr;obtain⟨WF,uY⟩:∃u,(((wr.setCell ⟨w.heap.size,0,none⟩ (.int .i64 3)).setCell ⟨w.heap.size,1,none⟩ (.int .i64 0)).setCell ⟨w.heap.size,2,none⟩ (.slice none 0 0)).setCell ⟨w.heap.size,3,none⟩ (.slice L n cl)=u:=⟨_,rfl⟩
   have hgB:WF.heap[w.heap.size]? = some (.cells #[.int .i64 3, .int .i64 0, .slice none 0 0, .slice L n cl] 117 (0,0)):=by
    have h0:=(aD.out.block w.heap.size (Nat.lt_succ_self _)).trans MX.out;rw[←uY,heap_setCell_same _ _ _ _ _ _ (heap_setCell_same _ _ _ _ _ _ (heap_setCell_same _ _ _ _ _ _ (heap_setCell_same _ _ _ _ _ _ h0)))]
    rfl
   have Fs:Hid (d_ WF (w.heap.size+2) (.slice L n cl) (l.map aR)):=aa (by
    rw[←uY]
    exact(((yY.out.set (by omega)).set (by omega)).set (by omega)).set (by omega))
   have gU:Hid (Below w.heap.size w WF):=aa (by
    rw[←uY]
    exact(((u_.out.setCell (Nat.le_refl _) _).setCell (Nat.le_refl _) _).setCell (Nat.le_refl _) _).setCell (Nat.le_refl _) _)
   obtain⟨L',cl',e,Bz⟩:=Gx Fs.out;rw[hn.out]at e Bz
   simp only[Value.slice.injEq]at e
   obtain⟨rfl,_,rfl⟩:=e;have HIT:=aa Bz;have Yu:Kp ((loadVar 117 ⟨w.heap.size,0,none⟩).run Tryz.prog WF = .ok (.agg #[.int .i64 3, .int .i64 0, .slice none 0 0, .slice L n cl]) WF):=⟨run_loadVar_row _ _ _ _ _ _ _ hgB Tryz.underlying117 rfl (by kernel_rfl)⟩;have HWF:=aa uY;clear Bz yY Fs hgB uY;go_wp2;rw[HWF.out];exact bodyPost_ret (v:= .agg #[.int .i64 3, .int .i64 0, .slice none 0 0, .slice L n cl]) (aK (p:=2) (ty:=117) rfl _ _ ⟨w.heap.size,0,none⟩ _ rfl Yu.out) rfl ⟨⟨3,0,none,0,0,L,n,cl⟩,rfl,HIT.out,gU.out⟩
def yt (w:World)(b:Nat)(h:List Int)(c:Int):Prop:=w.heap[b]? = some (.cells (dK h c) 43 (0,0))
theorem yt.below {w w':World} {b:Nat} {h:List Int} {c:Int} (hh:yt w b h c)(hb:Below w.heap.size w w'):yt w' b h c:=(hb.block b (Array.getElem?_eq_some_iff.1 hh).1).trans hh
theorem yt.new (w:World)(h:List Int)(c:Int):yt (w.alloc (.cells (dK h c) 43)) w.heap.size h c:=heap_alloc_new _ _
theorem yt.lt {w:World} {b:Nat} {h:List Int} {c:Int} (hh:yt w b h c):b<w.heap.size:=(Array.getElem?_eq_some_iff.1 hh).1
theorem yt.count {w:World} {b:Nat} {h:List Int} {c:Int} (hh:yt w b h c)(hl:h.length=32):w.cell? ⟨b,32,none⟩=some (.int .i64 c):=by
 rw[au hh,dK,Array.getElem?_append_right (by rw[dW,hl];exact Nat.le_refl _),dW,hl]
 rfl
theorem yt.sk {w:World} {b:Nat} {h:List Int} {c:Int} (hh:yt w b h c):Sk .u8 w (some ⟨b,0,none⟩) h:=fun j hj=>⟨b,0,rfl,by
 rw[Nat.zero_add,au hh,dK,Array.getElem?_append_left (by rw[dW];exact hj)]
 exact Al hj⟩
theorem yt.setRow {w:World} {b:Nat} {h h':List Int} {c c':Int} (hh:yt w b h c):yt (w.setRow b (dK h' c')) b h' c':=setRow_heap w b _ _ _ _ hh
def YX (h:List Int)(c:Int)(f:Bool):Array Value:=arr .u8 h ++ #[.int .i64 c, .bool f]
def BP (w:World)(b:Nat)(h:List Int)(c:Int)(f:Bool):Prop:=w.heap[b]? = some (.cells (YX h c f) 135 (0,0))
variable {w : World} {b : Nat} {h : List Int} {c : Int} {f : Bool}
theorem BP.lt (hh:BP w b h c f):b<w.heap.size:=(Array.getElem?_eq_some_iff.1 hh).1
theorem BP.below {w':World} (hh:BP w b h c f)(hb:Below w.heap.size w w'):BP w' b h c f:=(hb.block b hh.lt).trans hh
theorem FX (hl:h.length=32):(YX h c f)[32]? = some (.int .i64 c):=by
 rw[YX,Array.getElem?_append_right (by rw[dW,hl];exact Nat.le_refl _),dW,hl];rfl
theorem ND (hl:h.length=32):(YX h c f)[33]? = some (.bool f):=by
 rw[YX,Array.getElem?_append_right (by rw[dW,hl];decide),dW,hl];rfl
theorem BP.count (hh:BP w b h c f)(hl:h.length=32):Own w ⟨b,32,none⟩ (.int .i64 c):=⟨(au hh 32).trans (FX hl),ay hh 32⟩
theorem BP.full (hh:BP w b h c f)(hl:h.length=32):Own w ⟨b,33,none⟩ (.bool f):=⟨(au hh 33).trans (ND hl),ay hh 33⟩
theorem BP.range (hh:BP w b h c f)(hl:h.length=32):w.rangeAt b 0 (dK h c).toList:=fun j v hj=>by
 have hlt:j<33:=by
  have h2:=(List.getElem?_eq_some_iff.1 hj).1;rw[Array.length_toList,wX hl]at h2;exact h2
 rw[Nat.zero_add,au hh,←hj,Array.getElem?_toList]
 by_cases h3:j<32
 · rw[YX,dK,Array.getElem?_append_left (by rw[dW,hl];exact h3),Array.getElem?_append_left (by rw[dW,hl];exact h3)]
 ·
  obtain rfl:j=32:=by omega
  rw[FX hl,dK,Array.getElem?_append_right (by rw[dW,hl];exact Nat.le_refl _),dW,hl]
  rfl
theorem lQ {w w':World} (h:Below w.heap.size w w')(r:Option Nat):w.grownBy w' r:=⟨h.os,h.tape,h.output,h.size,fun k hk _=>h.block k hk⟩
theorem BC {w:World} (b j:Nat)(v:Value):w.grownBy (w.setCell ⟨b,j,none⟩ v) (some b):=jF w b j v
structure TS (w0:World) (hb:Nat) (box:Obj) (vX:Value) (nX:Nat) (xs:List Int) (vY:Value) (nY:Nat) (ys:List Int) (u:World):Prop where
 b:Below w0.heap.size w0 u
 x:u.heap[hb]? = some box
 ox:u.ownsRow w0.heap.size 3 1 vX nX (xs.map (Value.int .i64))
 oy:u.ownsRow w0.heap.size 3 1 vY nY (ys.map (Value.int .i64))
 nxy:∀j,vX.ownBlock=some j→vY.ownBlock≠some j
 nx:vX.ownBlock≠some hb
 ny:vY.ownBlock≠some hb
theorem lM (v:Value):v.ownBlock=none∨v.ownBlock≠none:=by
 cases h:v.ownBlock with
 | none=>exact .inl rfl
 | some j=>exact .inr (by simp)
theorem Ey {u:World} {g:Nat} {o:Obj} (h:u.heap[g]? = some o):g<u.heap.size:=(Array.getElem?_eq_some_iff.1 h).1
section
variable {w0 : World} {hb : Nat} {box : Obj} {vX vY : Value} {nX nY : Nat} {xs ys : List Int} {u u2 : World}
theorem TS.below (h:TS w0 hb box vX nX xs vY nY ys u)(hq:Below u.heap.size u u2):TS w0 hb box vX nX xs vY nY ys u2:=
 ⟨ag h.b hq,(hq.block hb (Ey h.x)).trans h.x,h.ox.kept (lQ hq none) (lM _),h.oy.kept (lQ hq none) (lM _),h.nxy,h.nx,h.ny⟩
structure BR (u:World) (g:Nat) (a:Int) (vX vY:Value):Prop where
 c:u.heap[g]? = some (.cells #[.int .i64 a] 3)
 nx:vX.ownBlock≠some g
 ny:vY.ownBlock≠some g
theorem BR.new (h:TS w0 hb box vX nX xs vY nY ys u)(a:Int):BR (u.alloc (.cells #[.int .i64 a] 3)) u.heap.size a vX vY:=
 ⟨heap_alloc_new _ _,fun e=>by have:=(h.ox.lt _ e).2;omega,fun e=>by have:=(h.oy.lt _ e).2;omega⟩
theorem BR.below {g:Nat} {a:Int} (h:BR u g a vX vY)(hq:Below u.heap.size u u2):BR u2 g a vX vY:=
 ⟨(hq.block g (Ey h.c)).trans h.c,h.nx,h.ny⟩
theorem BR.news {g:Nat} {a:Int} (h:BR u g a vX vY):∀j v, [Value.int .i64 a][j]? = some v→u.cell? ((⟨g,0,none⟩:Addr).add j)=some v:=
 World.news_of_block (cs:=#[.int .i64 a]) (t:=3) (fr:=(0,0)) h.c
end
def Sh (w:World)(A:Option Addr)(l:List (Int × Int)):Prop:=∀k,k<l.length→∃b o,A=some ⟨b,o,none⟩∧w.cell? ⟨b,o+k*2,none⟩=some (.int .i64 (l.getD k (0,0)).1)∧w.cell? ⟨b,o+k*2+1,none⟩=some (.int .i64 (l.getD k (0,0)).2)
theorem Sh.below {w w':World} {A:Option Addr} {l:List (Int × Int)} (h:Sh w A l)(hb:Below w.heap.size w w'):Sh w' A l:=fun k hk=>by
 obtain⟨b,o,h1,h2,h3⟩:=h k hk;exact⟨b,o,h1,cell_below h2 hb,cell_below h3 hb⟩
theorem FD {P Q G:Int} (h:a_ P Q G=true):qc Q=true:=by
 simp[a_]at h
 exact h.2.2.2.2.1
theorem zY {w:World} {B:Nat} {v:Value} {n:Nat} {xs:List Int} (h:w.ownsRow B 3 1 v n (xs.map (Value.int .i64)))(hn:xs.length=n):∃A c,v = .slice A n c∧Sl w A xs∧n≤c:=by
 have ho:iD w B v xs:=by unfold iD;rw[hn];exact h
 obtain⟨A,c,hv,hs,_⟩:=ho.sl;rw[hn]at hv;refine⟨A,c,hv,hs, ?_⟩;rcases h.2 with⟨h1,h2⟩ | ⟨g,cap,cur,h1,_,_,h2,_⟩
 · omega
 ·
  rw[hv]at h1
  cases h1
  exact h2
theorem Eh {xs:List Int} {m:Nat} (h:mQ xs):mQ (xs.take m):=fun i j hi hj=>by
 have hi2:i<m∧i<xs.length:=by rw[List.length_take]at hi;omega
 have:=h i j hi2.2 hj;rw[List.getD_eq_getElem?_getD,List.getElem?_take_of_lt hi2.1,←List.getD_eq_getElem?_getD,List.getD_eq_getElem?_getD (l:=xs.take m),List.getElem?_take_of_lt (by omega),←List.getD_eq_getElem?_getD];exact this
theorem lu {P Q G need:Int} {cs ks:List Int} {cn kn:Nat} (h:pQ P Q G need cs ks=true)(hcn:cs.length=cn)(hkn:ks.length=kn):Hid (a_ P Q G=true)∧1≤kn∧kn≤8∧(kn:Int)<Q∧1≤need∧need≤kn∧Hid ((cn:Int)=need):=by
 unfold pQ at h
 simp only[Bool.and_eq_true,decide_eq_true_eq]at h
 obtain⟨n1,n2,n3,n4,n5⟩:=jE h.2.1;rw[hkn]at n1 n2 n3 n5;exact⟨aa h.1,n1,n2,n3,n4,n5,aa (by rw[←hcn];exact h.2.2.1)⟩
def Mg (P Q:Int)(vs ws:Nat→Int):Nat→Int
 | 0=>1
 | m+1=>Mg P Q vs ws m*pw (vs m) (ws m%Q) P%P
def E8 (P Q E:Int)(vs ws:Nat→Int):Nat→Int
 | 0=>E
 | m+1=>E8 P Q E vs ws m*pw (vs m) ((0-ws m)%Q) P%P
theorem Sa {P Q v a:Int} (hP:2≤P)(hQ:1≤Q)(hv:pw v Q P=1):Cg P (pw v ((0-a)%Q) P*pw v (a%Q) P) 1:=by
 have h1:0≤(0-a)%Q:=Int.emod_nonneg _ (by omega);have h2:0≤a%Q:=Int.emod_nonneg _ (by omega);refine(Cg.mod P _).symm.trans (Cg.of_eq ?_);rw[←I9 _ _ _ _ h1 h2,Oo hP hQ (by omega) hv];rw[show((0-a)%Q+a%Q)%Q=0 by rw[←Int.add_emod,show 0-a+a=0 by omega,Int.zero_emod]];exact R_ _ _ hP
theorem UE {P Q E:Int} {vs ws:Nat→Int} (hP:2≤P)(hQ:1≤Q):∀n,(∀k,k<n→pw (vs k) Q P=1)→Cg P (E8 P Q E vs ws n*Mg P Q vs ws n) E
 | 0,_=>Cg.of_eq (by rw[E8,Mg,Int.mul_one])
 | n+1,h=>by
  have ih:=UE (E:=E) (vs:=vs) (ws:=ws) hP hQ n fun k hk=>h k (by omega);have hu:=Sa (a:=ws n) hP hQ (h n (by omega));have h1:Cg P (E8 P Q E vs ws (n+1)) (E8 P Q E vs ws n*pw (vs n) ((0-ws n)%Q) P):=Cg.mod _ _;have h2:Cg P (Mg P Q vs ws (n+1)) (Mg P Q vs ws n*pw (vs n) (ws n%Q) P):=Cg.mod _ _;exact(h1.mul h2).trans ((Cg.of_eq (by grind)).trans ((ih.mul hu).trans (Cg.of_eq (by grind))))
theorem vN {P Q E:Int} {vs ws:Nat→Int} (hP:2≤P)(h0:0≤E)(h1:E<P):∀n,0≤E8 P Q E vs ws n∧E8 P Q E vs ws n<P
 | 0=>⟨h0,h1⟩
 | n+1=>⟨Int.emod_nonneg _ (by omega),Int.emod_lt_of_pos _ (by omega)⟩
theorem KE {P Q:Int} {vs ws:Nat→Int} (hP:2≤P)(hQ:1≤Q):∀n,(∀k,k<n→aN P Q (vs k)=true)→aN P Q (Mg P Q vs ws n)=true
 | 0,_=>Em hP
 | n+1,h=>Ad hP hQ (KE hP hQ n fun k hk=>h k (by omega)) (yM hP hQ (Int.emod_nonneg _ (by omega)) (h n (by omega)))
theorem G_ {P Q E x:Int} {vs ws:Nat→Int} {n:Nat} (hP:2≤P)(hQ:1≤Q)(h0:0≤E)(h1:E<P)(hv:∀k,k<n→pw (vs k) Q P=1)(hx:x*Mg P Q vs ws n%P=1) :
  E*x%P=E8 P Q E vs ws n:=by
 have h:=UE (E:=E) (ws:=ws) hP hQ n hv;have hx':Cg P (x*Mg P Q vs ws n) 1:=(Cg.mod P _).symm.trans (Cg.of_eq hx);have h2:Cg P (E*x) (E8 P Q E vs ws n):=(h.symm.mul (Cg.refl P x)).trans ((Cg.of_eq (by grind)).trans (((Cg.refl P (E8 P Q E vs ws n)).mul hx').trans (Cg.of_eq (Int.mul_one _))));have hb:=vN (E:=E) (vs:=vs) (ws:=ws) (Q:=Q) hP h0 h1 n;rw[h2.eq,Int.emod_eq_of_lt hb.1 hb.2]
theorem oW {w:World} {p:Addr} {v:Value} {a:Nat} {cs:Array Value} (h:Own w p v)(hne:p.block≠a):Own (w.setRow a cs) p v:=by
 have hb:=setRow_other w a p.block cs hne
 exact⟨(World.cell?_of_block hb).trans h.1,by
  have h2:=h.2
  simp only[World.frozen?]at h2 ⊢
  rw[hb]
  exact h2⟩
def vR (l:List Int):Prop:=l.length≤1000∧∀x∈l,-9223372036854775808≤x∧x<9223372036854775808
theorem vR.fits {l:List Int} (h:vR l):Hid (fits 7 (.lst (l.map .int))):=aa (by
 refine⟨by rw[List.length_map];exact h.1,fun x hx=>?_⟩;obtain⟨y,hy,rfl⟩:=List.mem_map.1 hx
 exact h.2 y hy)
theorem MG (l:List Int):(gz (l.map .int)).length=9*l.length:=by
 induction l with
 | nil=>rfl
 | cons x l ih=>rw[List.map_cons,gz,List.length_append,ih,og,List.length_cons,g_,List.length_cons];omega
theorem vR.len {l:List Int} (h:vR l):Hid ((enc (.lst (l.map .int))).length≤14000):=aa (by
 rw[fV,List.length_cons,List.length_append,eX,MG];have:=h.1
 omega)
def jv (h s l:List Int):List Int:=H_ h s (.lst (l.map .int))
theorem Qu (h s l:List Int):(jv h s l).length=32:=qg _ _ _
theorem JY (h s l:List Int):aF (jv h s l)=true:=jJ _
theorem uS (A:Option Addr)(n cA:Nat)(s:ByteArray)(a e0:Nat)(x:Int)(hx:(x == 0)=false)(w:World)(hE:Hid (Own w ⟨e0,0,none⟩ (.int .i64 x))) :
  Calls Tryz.prog 244 #[.string s, .slice A n cA, .pointer (some ⟨e0,0,none⟩), .pointer (some ⟨a,0,none⟩)] w fun e w'=>(∃v,e = .returned v)∧w'=w:=by
 obtain⟨hc,hf⟩:=hE.out;go_in;go_wp2
 go_end0
 exact⟨⟨_,rfl⟩,rfl⟩
theorem MQ (h:List Int)(hl:Hid (h.length=32))(hb:Hid (aF h=true))(c:Int)(hc0:0≤c)(hc1:c<1000)(s:ByteArray)(hs:s.size≤1000)(hr:Hid (iQ (bq s)=true))(A:Option Addr)(l:List Int)(n cA:Nat)(hn:Hid (l.length=n))(hok:Hid (vR l))(a e0 B:Nat)(w:World)(hv:Hid (bB w))(hS:Hid (Sl w A l))
  (hT:Hid (dX w a h c)) (hE:Hid (Own w ⟨e0,0,none⟩ (.int .i64 0))) (hne:e0≠a) (hBa:B≤a) (Y5:B≤e0) :
  Calls Tryz.prog 244 #[.string s, .slice A n cA, .pointer (some ⟨e0,0,none⟩), .pointer (some ⟨a,0,none⟩)] w fun e w'=>(∃v,e = .returned v)∧dX w' a (jv h (bq s) l) (c+1)∧Own w' ⟨e0,0,none⟩ (.int .i64 0)∧Below B w w':=by
 have hbig:n≤1000:=by rw[←hn.out];exact hok.out.1
 have HF:=hok.out.fits;have tC:=hok.out.len;obtain⟨hc,hf⟩:=hE.out;have YS:Hid (B≤w.heap.size):=aa (by have:=hT.out.lt;omega);go_in
 go_wp2_with ((with_reducible show wpList _ _ _ (⟨some 9,_,_,_,_,_⟩::_) _ _);refine wpList_load_row rfl 237 _ rfl a rfl _ _ _ _ hT.out Tryz.underlying237 rfl (aT hl.out) ?_)
 refine(Ny h hl hb c hc0 hc1 s hs hr A l n cA hn hbig _ hv hS HF tC).mono ?_;rintro e w1 ⟨rfl,hb1⟩;have HT1:=aa (hT.out.below hb1);have HE1:=aa (hE.out.below hb1);have HB1:Hid (Below B w w1):=aa (hb1.mono YS.out);obtain⟨R,hR⟩:∃R,H_ h (bq s) (.lst (l.map .int))=R:=⟨_,rfl⟩;have hRl:R.length=32:=by rw[←hR];exact qg _ _ _
 have HN:Kp (jv h (bq s) l=R):=⟨hR⟩;have fQ:=aa hRl;rw[hR,show Am R (c+1) 0 = .tuple #[.agg (dK R (c+1)), .int .i64 0]from rfl];have HE2:=aa (oW (cs:=dK R (c+1)) HE1.out (show(⟨e0,0,none⟩:Addr).block≠a from hne));clear hb1 hc hf hR hRl;obtain⟨q1,q2⟩:=HE2.out
 go_wp2_with ((with_reducible show wpList _ _ _ (⟨none,_,_,_,_,_⟩::_) _ _);refine wpList_store_row rfl 237 _ _ rfl a (dK R (c+1)) rfl rfl _ _ HT1.out (aT fQ.out) (gP hl.out fQ.out) (eP _ _) ?_)
 have HT2:Hid (dX (w1.setRow a (dK R (c+1))) a R (c+1)):=aa HT1.out.setRow;have hT3:dX ((w1.setRow a (dK R (c+1))).setCell ⟨e0,0,none⟩ (.int .i64 0)) a R (c+1):=(heap_setCell_other _ _ _ _ (Ne.symm hne)).trans HT2.out;have hE3:=bu (u:= .int .i64 0) HE2.out;have hB3:Below B w ((w1.setRow a (dK R (c+1))).setCell ⟨e0,0,none⟩ (.int .i64 0)):=(aj HB1.out hBa).setCell Y5 _
 go_end0
 exact⟨⟨_,rfl⟩,by rw[HN.out];exact hT3,hE3,hB3⟩
def nW:ByteArray:= { data:=#[103,114,111,117,112] }
def OL:ByteArray:= { data:=#[121] }
def qa:ByteArray:= { data:=#[98,97,115,101,115] }
def fG:ByteArray:= { data:=#[99,111,109,109,105,116] }
def sQ:ByteArray:= { data:=#[99,104,97,108,108,101,110,103,101] }
theorem Gt:Hid (iQ (bq nW)=true):=aa (by kernel_rfl)
theorem aag:Hid (iQ (bq OL)=true):=aa (by kernel_rfl)
theorem Gu:Hid (iQ (bq qa)=true):=aa (by kernel_rfl)
theorem Dj:Hid (iQ (bq fG)=true):=aa (by kernel_rfl)
theorem UJ:Hid (iQ (bq sQ)=true):=aa (by kernel_rfl)
def jf (h:List Int):List Row→List Int
 | []=>h
 | r::rs=>jf (jv h (bq qa) r.xs) rs
def BJ (P Q G:Int)(lb:List Int)(ys:List Int)(rows:List Row)(al:List Int):Int:=
 Dw Q (jv (jf (jv (jv (newL lb) (bq nW) [P,Q,G]) (bq OL) ys) rows) (bq fG) al) (bq sQ)
theorem zo {h:List Int} {rows:List Row} {k:Nat} (hk:k<rows.length):jf h (rows.drop k)=jf (jv h (bq qa) (rows.getD k dI).xs) (rows.drop (k+1)):=by
 rw[List.drop_eq_getElem_cons hk,List.getD_eq_getElem?_getD,List.getElem?_eq_getElem hk]
 rfl
def uZ (h:List Int):Prop:=h.length=32∧aF h=true
theorem tH (h s l:List Int):uZ (jv h s l):=⟨Qu _ _ _,JY _ _ _⟩
theorem NB (l:List Int):uZ (newL l):=⟨dR _ _,jJ _⟩
def MR (W:World)(a:Nat)(h:List Int)(c:Int)(x:Int)(u:World):Prop:=dX u a h c∧Own u ⟨a+1,0,none⟩ (.int .i64 x)∧Below W.heap.size W u
theorem MR.alloc {W:World} {a:Nat} {h:List Int} {c x:Int} {u:World} (hI:MR W a h c x u)(o:Obj):MR W a h c x (u.alloc o):=
 ⟨hI.1.below (af _ _),hI.2.1.below (af _ _),ag hI.2.2 (af _ _)⟩
theorem MR.below {W:World} {a:Nat} {h:List Int} {c x:Int} {u u':World} (hI:MR W a h c x u)(hb:Below u.heap.size u u'):MR W a h c x u':=
 ⟨hI.1.below hb,hI.2.1.below hb,ag hI.2.2 hb⟩
theorem uR (W:World)(a:Nat)(hWa:W.heap.size≤a)(h:List Int)(hst:Hid (uZ h))(c:Int)(hc0:0≤c)(hc1:c<1000)(s:ByteArray)(hs:s.size≤1000)(hr:Hid (iQ (bq s)=true))(A:Option Addr)(l:List Int)(n cA:Nat)(hn:Hid (l.length=n))(hok:Hid (vR l))(u:World)(hv:Hid (bB W))(hS:Hid (Sl u A l))(hI:Hid (MR W a h c 0 u)) :
  Calls Tryz.prog 244 #[.string s, .slice A n cA, .pointer (some ⟨a+1,0,none⟩), .pointer (some ⟨a,0,none⟩)] u fun e u'=>(∃v,e = .returned v)∧MR W a (jv h (bq s) l) (c+1) 0 u':=by
 refine(MQ h (aa hst.out.1) (aa hst.out.2) c hc0 hc1 s hs hr A l n cA hn hok a (a+1) a u (aa (hv.out.below hI.out.2.2)) hS (aa hI.out.1) (aa hI.out.2.1) (by omega) (Nat.le_refl _) (by omega)).mono ?_;rintro e u' ⟨he,hT,hE,hb⟩;exact⟨he,hT,hE,hI.out.2.2.trans (hb.mono hWa)⟩
theorem La (w:World)(T:TypeId)(a b c:Int):Cells (w.alloc (.cells #[.int .i64 a, .int .i64 b, .int .i64 c] T)) w.heap.size [a,b,c]:=by
 intro k hk;rw[World.cell?_alloc_at _ _ _ _ rfl]
 match k,hk with
 | 0,_=>rfl
 | 1,_=>rfl
 | 2,_=>rfl
theorem CX {w1:World} {S0:List Int} {c x:Int} (hl:S0.length=32) :
  MR w1 w1.heap.size S0 c x ((((w1.alloc (.cells #[.int .u8 0, .int .u8 0, .int .u8 0, .int .u8 0, .int .u8 0, .int .u8 0, .int .u8 0, .int .u8 0, .int .u8 0, .int .u8 0, .int .u8 0, .int .u8 0, .int .u8 0, .int .u8 0, .int .u8 0, .int .u8 0, .int .u8 0, .int .u8 0, .int .u8 0, .int .u8 0, .int .u8 0, .int .u8 0, .int .u8 0, .int .u8 0, .int .u8 0, .int .u8 0, .int .u8 0, .int .u8 0, .int .u8 0, .int .u8 0, .int .u8 0, .int .u8 0, .int .i64 0] 237)).alloc (.cells #[.int .i64 0] 30)).setRow w1.heap.size (dK S0 c)).setCell ⟨w1.heap.size+1,0,none⟩ (.int .i64 x)):=by
 have hT:dX ((w1.alloc (.cells #[.int .u8 0, .int .u8 0, .int .u8 0, .int .u8 0, .int .u8 0, .int .u8 0, .int .u8 0, .int .u8 0, .int .u8 0, .int .u8 0, .int .u8 0, .int .u8 0, .int .u8 0, .int .u8 0, .int .u8 0, .int .u8 0, .int .u8 0, .int .u8 0, .int .u8 0, .int .u8 0, .int .u8 0, .int .u8 0, .int .u8 0, .int .u8 0, .int .u8 0, .int .u8 0, .int .u8 0, .int .u8 0, .int .u8 0, .int .u8 0, .int .u8 0, .int .u8 0, .int .i64 0] 237)).alloc (.cells #[.int .i64 0] 30)) w1.heap.size (dL 32) 0:=by rw[Lt];exact heap_alloc2_old _ _ _
 have hE:Own ((w1.alloc (.cells #[.int .u8 0, .int .u8 0, .int .u8 0, .int .u8 0, .int .u8 0, .int .u8 0, .int .u8 0, .int .u8 0, .int .u8 0, .int .u8 0, .int .u8 0, .int .u8 0, .int .u8 0, .int .u8 0, .int .u8 0, .int .u8 0, .int .u8 0, .int .u8 0, .int .u8 0, .int .u8 0, .int .u8 0, .int .u8 0, .int .u8 0, .int .u8 0, .int .u8 0, .int .u8 0, .int .u8 0, .int .u8 0, .int .u8 0, .int .u8 0, .int .u8 0, .int .u8 0, .int .i64 0] 237)).alloc (.cells #[.int .i64 0] 30)) ⟨w1.heap.size+1,0,none⟩ (.int .i64 0):=⟨au (heap_alloc2_new _ _ _) 0,ay (heap_alloc2_new _ _ _) 0⟩;have hb:Below w1.heap.size w1 ((w1.alloc (.cells #[.int .u8 0, .int .u8 0, .int .u8 0, .int .u8 0, .int .u8 0, .int .u8 0, .int .u8 0, .int .u8 0, .int .u8 0, .int .u8 0, .int .u8 0, .int .u8 0, .int .u8 0, .int .u8 0, .int .u8 0, .int .u8 0, .int .u8 0, .int .u8 0, .int .u8 0, .int .u8 0, .int .u8 0, .int .u8 0, .int .u8 0, .int .u8 0, .int .u8 0, .int .u8 0, .int .u8 0, .int .u8 0, .int .u8 0, .int .u8 0, .int .u8 0, .int .u8 0, .int .i64 0] 237)).alloc (.cells #[.int .i64 0] 30)):=aO (Below.refl _ _);refine⟨(heap_setCell_other _ _ _ _ (show w1.heap.size≠w1.heap.size+1 by omega)).trans hT.setRow,bu (oW hE (show w1.heap.size+1≠w1.heap.size by omega)),(aj hb (Nat.le_refl _)).setCell (Nat.le_succ _) _⟩
theorem OJ (P Q G:Int)(Y:Option Addr)(ys:List Int)(yn yc:Nat)(B:Option Addr)(rows:List Row)(bn bc:Nat)(A:Option Addr)(al:List Int)(na ca:Nat)(s:ByteArray)(hs:s.size≤1000)(hr:Hid (iQ (bq s)=true))
  (hyn:Hid (ys.length=yn)) (hbn:Hid (rows.length=bn)) (hna:Hid (al.length=na)) (yN:bn≤900) (OA:Hid (vR [P,Q,G])) (Oy:Hid (vR ys)) (OB:Hid (vR al)) (Oz:Hid (∀k,k<rows.length→vR (rows.getD k dI).xs))
  (UW:2≤Q) (UU:Q<2305843009213693952) (V:Int) (hV:Kp (BJ P Q G (bq s) ys rows al=V)) (w:World) (hv:Hid (bB w)) (hY:Hid (Sl w Y ys)) (hB:Hid (Rw w B rows)) (hA:Hid (Sl w A al)) :
  Calls Tryz.prog 223 #[gv P Q G, .agg #[.slice Y yn yc, .slice B bn bc], .slice A na ca, .string s] w (Rt w (.tuple #[.int .i64 V, .int .i64 0])):=by
 obtain⟨W,hW⟩:∃W,(w.alloc (bg P Q G)).alloc (.cells #[.slice Y yn yc, .slice B bn bc] 189)=W:=⟨_,rfl⟩;have cu:Hid (Below w.heap.size w W):=aa (by rw[←hW];exact aO (Below.refl _ _));have YF:Hid (qz W w.heap.size P Q G):=aa (by rw[←hW];exact(bD w P Q G).below (af _ _));have Yg:Hid (rX W (w.heap.size+1) (.slice Y yn yc) (.slice B bn bc)):=aa (by rw[←hW];exact ek w _ _ _ _);have HV:=aa (hv.out.below cu.out);have HYY:=aa (hY.out.below cu.out);have II:=aa (hB.out.below cu.out);have HAA:=aa (hA.out.below cu.out);have HW:=aa hW;clear hW hv hY hB hA;go_in
 go_upto_region 1 with(fail)
 rw[HW.out];clear HW
 go_wp2_with fail
 refine(RD s hs hr _ HV).mono ?_;rintro e w1 ⟨rfl,hb1⟩;obtain⟨S0,hS0⟩:∃S,newL (bq s)=S:=⟨_,rfl⟩;have Lh:Hid (uZ S0):=aa (by rw[←hS0];exact NB _);have qW:Kp (Dw Q (jv (jf (jv (jv S0 (bq nW) [P,Q,G]) (bq OL) ys) rows) (bq fG) al) (bq sQ)=V):=⟨by rw[←hS0];exact hV.1⟩;rw[hS0,show Am S0 0 0 = .tuple #[.agg (dK S0 0), .int .i64 0]from rfl];have HB1:=aa hb1;have IG:=aa Lh.out.1;clear hb1 hS0 hV;have HTz:Hid (dX ((w1.alloc (.cells #[.int .u8 0, .int .u8 0, .int .u8 0, .int .u8 0, .int .u8 0, .int .u8 0, .int .u8 0, .int .u8 0, .int .u8 0, .int .u8 0, .int .u8 0, .int .u8 0, .int .u8 0, .int .u8 0, .int .u8 0, .int .u8 0, .int .u8 0, .int .u8 0, .int .u8 0, .int .u8 0, .int .u8 0, .int .u8 0, .int .u8 0, .int .u8 0, .int .u8 0, .int .u8 0, .int .u8 0, .int .u8 0, .int .u8 0, .int .u8 0, .int .u8 0, .int .u8 0, .int .i64 0] 237)).alloc (.cells #[.int .i64 0] 30)) w1.heap.size (dL 32) 0):=aa (by rw[Lt];exact heap_alloc2_old _ _ _);have HEz:Hid (Own ((w1.alloc (.cells #[.int .u8 0, .int .u8 0, .int .u8 0, .int .u8 0, .int .u8 0, .int .u8 0, .int .u8 0, .int .u8 0, .int .u8 0, .int .u8 0, .int .u8 0, .int .u8 0, .int .u8 0, .int .u8 0, .int .u8 0, .int .u8 0, .int .u8 0, .int .u8 0, .int .u8 0, .int .u8 0, .int .u8 0, .int .u8 0, .int .u8 0, .int .u8 0, .int .u8 0, .int .u8 0, .int .u8 0, .int .u8 0, .int .u8 0, .int .u8 0, .int .u8 0, .int .u8 0, .int .i64 0] 237)).alloc (.cells #[.int .i64 0] 30)) ⟨w1.heap.size+1,0,none⟩ (.int .i64 0)):=aa ⟨au (heap_alloc2_new _ _ _) 0,ay (heap_alloc2_new _ _ _) 0⟩;have HEy:=aa (oW (a:=w1.heap.size) (cs:=dK S0 0) HEz.out (show w1.heap.size+1≠w1.heap.size by omega));obtain⟨q1,q2⟩:=HEy.out
 go_upto_region 2 with((with_reducible show wpList _ _ _ (⟨none,_,_,_,_,_⟩::_) _ _);refine wpList_store_row rfl 237 _ _ rfl w1.heap.size (dK S0 0) rfl rfl _ _ HTz.out (aT IG.out) (gP (h:=dL 32) (c:=0) rfl IG.out) (eP _ _) ?_)
 clear q1 q2 HTz HEz HEy;have hI2:=CX (w1:=w1) (c:=0) (x:=0) IG.out;obtain⟨W2,hW2⟩:∃u,((((w1.alloc (.cells #[.int .u8 0, .int .u8 0, .int .u8 0, .int .u8 0, .int .u8 0, .int .u8 0, .int .u8 0, .int .u8 0, .int .u8 0, .int .u8 0, .int .u8 0, .int .u8 0, .int .u8 0, .int .u8 0, .int .u8 0, .int .u8 0, .int .u8 0, .int .u8 0, .int .u8 0, .int .u8 0, .int .u8 0, .int .u8 0, .int .u8 0, .int .u8 0, .int .u8 0, .int .u8 0, .int .u8 0, .int .u8 0, .int .u8 0, .int .u8 0, .int .u8 0, .int .u8 0, .int .i64 0] 237)).alloc (.cells #[.int .i64 0] 30)).setRow w1.heap.size (dK S0 0)).setCell ⟨w1.heap.size+1,0,none⟩ (.int .i64 0))=u:=⟨_,rfl⟩;rw[hW2]at hI2 ⊢;obtain⟨a,ha⟩:∃a,w1.heap.size=a:=⟨_,rfl⟩;have hWa:W.heap.size≤a:=by rw[←ha];exact HB1.out.size
 have Py:MR W a S0 0 0 W2:=⟨by rw[←ha];exact hI2.1,by rw[←ha];exact hI2.2.1,ag HB1.out hI2.2.2⟩;rw[ha];have HI2:=aa Py;clear hW2 hI2 Py ha HB1;obtain⟨c0,c1,c2⟩:=YF.out.below HI2.out.2.2
 go_wp2_with fail
 refine(uR W a hWa S0 Lh 0 (by omega) (by omega) nW (by decide) Gt (some ⟨W2.heap.size,0,none⟩) [P,Q,G] 3 3 (aa rfl) OA _ HV (aa (iN (La W2 _ P Q G))) (aa (HI2.out.alloc _))).mono ?_;rintro e w3 ⟨⟨v3,rfl⟩,hI3⟩;clear c0 c1 c2 HI2;obtain⟨S1,hS1⟩:∃S,jv S0 (bq nW) [P,Q,G]=S:=⟨_,rfl⟩;have HS1:Hid (uZ S1):=aa (by rw[←hS1];exact tH _ _ _);have qV:Kp (Dw Q (jv (jf (jv S1 (bq OL) ys) rows) (bq fG) al) (bq sQ)=V):=⟨by rw[←hS1];exact qW.1⟩;rw[hS1]at hI3;have HI3:=aa hI3;clear hI3 hS1 qW;obtain⟨d0,d1⟩:=Yg.out.below HI3.out.2.2
 go_wp2_with fail
 refine(uR W a hWa S1 HS1 (0+1) (by omega) (by omega) OL (by decide) aag Y ys yn yc hyn Oy _ HV (aa (HYY.out.below HI3.out.2.2)) HI3).mono ?_;rintro e w4 ⟨⟨v4,rfl⟩,Tq⟩;clear d0 d1 HI3;obtain⟨S2,hS2⟩:∃S,jv S1 (bq OL) ys=S:=⟨_,rfl⟩;have HS2:Hid (uZ S2):=aa (by rw[←hS2];exact tH _ _ _);have zN:Kp (Dw Q (jv (jf S2 rows) (bq fG) al) (bq sQ)=V):=⟨by rw[←hS2];exact qV.1⟩;rw[hS2]at Tq;have HI4:=aa Tq;clear Tq hS2 qV;obtain⟨S3,Xf⟩:∃S,jf S2 rows=S:=⟨_,rfl⟩;have HR3:Kp (jf S2 (rows.drop 0)=S3):=⟨Xf⟩;have zM:Kp (Dw Q (jv S3 (bq fG) al) (bq sQ)=V):=⟨by rw[←Xf];exact zN.1⟩;clear Xf zN;obtain⟨d0,d1⟩:=Yg.out.below HI4.out.2.2
 go_wp2_with fail
 clear d0 d1
 go_loopw [39] (fun i u=>∃(k:Nat) (S:List Int),k≤bn∧i = .int .i64 k∧Hid (uZ S)∧Kp (jf S (rows.drop k)=S3)∧Hid (MR W a S (2+k) 0 u)) (fun i _=>bn-(intOf i).toNat)
 case atStart=>exact⟨0,S2,by omega,rfl,HS2,HR3,HI4⟩
 case round=>
  obtain⟨k,S,hk,rfl,HS,HR,HI⟩:=hrel
  by_cases hlt:k<bn
  ·
   have hkl:k<rows.length:=by rw[hbn.out];exact hlt
   obtain⟨⟨b,o,hA,hi0⟩,hok⟩:=II.out.below HI.out.2.2 k hkl;subst hA;have QG:=Kp.mk ((zo (h:=S) hkl).symm.trans HR.1);have jy:=aa (Oz.out k hkl);obtain⟨R,hR⟩:∃R,rows.getD k dI=R:=⟨_,rfl⟩;rw[hR]at hi0 hok QG jy;obtain⟨p,rn,rc,xs⟩:=R;have HL:=aa hok.1;have HX:=aa hok.2
   dsimp only[Row.val]at hi0 QG jy
   clear hR hok hkl
   go_wp2_with fail
   refine(uR W a hWa S HS (2+k) (by omega) (by omega) qa (by decide) Gu p xs rn rc HL jy _ HV HX HI).mono ?_;rintro e w5 ⟨⟨v5,rfl⟩,hI5⟩;obtain⟨S',hS'⟩:∃S',jv S (bq qa) xs=S':=⟨_,rfl⟩;have Ze:Hid (uZ S'):=aa (by rw[←hS'];exact tH _ _ _);have HRR:Kp (jf S' (rows.drop (k+1))=S3):=⟨by rw[←hS'];exact QG.1⟩;rw[hS',show(2+(k:Int)+1)=2+((k+1:Nat):Int) by omega]at hI5;have HI5:=aa hI5;clear hI5 hS' QG hi0;go_wp2
   go_roundw
   case rel=>exact⟨k+1,S',by omega,by go_num,Ze,HRR,HI5⟩
   case measure=>simp[intOf];omega
  ·
   obtain rfl:k=bn:=by omega
   have hd:rows.drop k = []:=List.drop_of_length_le (by rw[hbn.out];exact Nat.le_refl _);have Vd:Kp (S=S3):=⟨by have h:=HR.1;rwa [hd]at h⟩;have wu:Kp (Dw Q (jv S (bq fG) al) (bq sQ)=V):=⟨by rw[Vd.1];exact zM.1⟩;clear hd HR Vd zM hlt
   go_wp2_with fail
   refine(uR W a hWa S HS (2+k) (by omega) (by omega) fG (by decide) Dj A al na ca hna OB _ HV (aa (HAA.out.below HI.out.2.2)) HI).mono ?_;rintro e w6 ⟨⟨v6,rfl⟩,hI6⟩;obtain⟨S4,Tn⟩:∃S',jv S (bq fG) al=S':=⟨_,rfl⟩;have Ap:Hid (uZ S4):=aa (by rw[←Tn];exact tH _ _ _);have HV5:Kp (Dw Q S4 (bq sQ)=V):=⟨by rw[←Tn];exact wu.1⟩;rw[Tn]at hI6;have ET:=aa hI6;have Yy:=aa Ap.out.1;clear hI6 Tn wu HI;obtain⟨z0,z1⟩:=ET.out.2.1;obtain⟨c0,c1,c2⟩:=YF.out.below ET.out.2.2;have CO:=aa ET.out.1
   go_wp2_with ((with_reducible show wpList _ _ _ (⟨some 54,_,_,_,_,_⟩::_) _ _);refine wpList_load_row rfl 237 _ rfl a rfl _ _ _ _ CO.out Tryz.underlying237 rfl (aT Yy.out) ?_)
   refine(Nz S4 Yy (aa Ap.out.2) (2+k+1) (by omega) (by omega) sQ (by decide) UJ Q UW UU _ (aa (HV.out.below ET.out.2.2))).mono ?_;rintro e w7 ⟨rfl,Fe⟩;obtain⟨G4,hG4⟩:∃G4,U6 Q S4 (bq sQ)=G4:=⟨_,rfl⟩;have Uo:Hid (G4.length=32):=aa (by rw[←hG4];exact qg _ _ _);rw[hG4,HV5.1,show Zq G4 (2+(k:Int)+1+1) V 0 = .tuple #[.agg (dK G4 (2+(k:Int)+1+1)), .int .i64 V, .int .i64 0]from rfl];have HI7:=aa (ET.out.below Fe);obtain⟨y0,y1⟩:=HI7.out.2.1;clear Fe hG4 z0 z1 c0 c1 c2;have HTy:Hid (dX (w7.alloc (.cells #[.int .u8 0, .int .u8 0, .int .u8 0, .int .u8 0, .int .u8 0, .int .u8 0, .int .u8 0, .int .u8 0, .int .u8 0, .int .u8 0, .int .u8 0, .int .u8 0, .int .u8 0, .int .u8 0, .int .u8 0, .int .u8 0, .int .u8 0, .int .u8 0, .int .u8 0, .int .u8 0, .int .u8 0, .int .u8 0, .int .u8 0, .int .u8 0, .int .u8 0, .int .u8 0, .int .u8 0, .int .u8 0, .int .u8 0, .int .u8 0, .int .u8 0, .int .u8 0, .int .i64 0] 237)) w7.heap.size (dL 32) 0):=aa (by rw[Lt];exact heap_alloc_new _ _);have HEw:=aa (oW (a:=w7.heap.size) (cs:=dK G4 (2+(k:Int)+1+1)) (HI7.out.2.1.below (af w7 (.cells #[.int .u8 0, .int .u8 0, .int .u8 0, .int .u8 0, .int .u8 0, .int .u8 0, .int .u8 0, .int .u8 0, .int .u8 0, .int .u8 0, .int .u8 0, .int .u8 0, .int .u8 0, .int .u8 0, .int .u8 0, .int .u8 0, .int .u8 0, .int .u8 0, .int .u8 0, .int .u8 0, .int .u8 0, .int .u8 0, .int .u8 0, .int .u8 0, .int .u8 0, .int .u8 0, .int .u8 0, .int .u8 0, .int .u8 0, .int .u8 0, .int .u8 0, .int .u8 0, .int .i64 0] 237))) (show a+1≠w7.heap.size by have:=HI7.out.1.lt;have:=World.block_lt_of_cell? _ _ y0;simp at this;omega));obtain⟨x0,x1⟩:=HEw.out
   go_wp2_with ((with_reducible show wpList _ _ _ (⟨none,_,_,_,_,_⟩::_) _ _);refine wpList_store_row rfl 237 _ _ rfl w7.heap.size (dK G4 (2+(k:Int)+1+1)) rfl rfl _ _ HTy.out (aT Uo.out) (gP (h:=dL 32) (c:=0) rfl Uo.out) (eP _ _) ?_)
   have hZ:=bu (u:= .int .i64 0) HEw.out
   have hBF:Below w.heap.size w (((w7.alloc (.cells #[.int .u8 0, .int .u8 0, .int .u8 0, .int .u8 0, .int .u8 0, .int .u8 0, .int .u8 0, .int .u8 0, .int .u8 0, .int .u8 0, .int .u8 0, .int .u8 0, .int .u8 0, .int .u8 0, .int .u8 0, .int .u8 0, .int .u8 0, .int .u8 0, .int .u8 0, .int .u8 0, .int .u8 0, .int .u8 0, .int .u8 0, .int .u8 0, .int .u8 0, .int .u8 0, .int .u8 0, .int .u8 0, .int .u8 0, .int .u8 0, .int .u8 0, .int .u8 0, .int .i64 0] 237)).setRow w7.heap.size (dK G4 (2+(k:Int)+1+1))).setCell ⟨a+1,0,none⟩ (.int .i64 0)):=by
    have h1:=ag HI7.out.2.2 (aj (cs:=dK G4 (2+(k:Int)+1+1)) (af w7 (.cells #[.int .u8 0, .int .u8 0, .int .u8 0, .int .u8 0, .int .u8 0, .int .u8 0, .int .u8 0, .int .u8 0, .int .u8 0, .int .u8 0, .int .u8 0, .int .u8 0, .int .u8 0, .int .u8 0, .int .u8 0, .int .u8 0, .int .u8 0, .int .u8 0, .int .u8 0, .int .u8 0, .int .u8 0, .int .u8 0, .int .u8 0, .int .u8 0, .int .u8 0, .int .u8 0, .int .u8 0, .int .u8 0, .int .u8 0, .int .u8 0, .int .u8 0, .int .u8 0, .int .i64 0] 237)) (Nat.le_refl _));exact ag cu.out (h1.setCell (by show W.heap.size≤a+1;omega) _)
   have gU:=aa hBF;have hz0:=hZ.1;obtain⟨W8,UT⟩:∃u,(((w7.alloc (.cells #[.int .u8 0, .int .u8 0, .int .u8 0, .int .u8 0, .int .u8 0, .int .u8 0, .int .u8 0, .int .u8 0, .int .u8 0, .int .u8 0, .int .u8 0, .int .u8 0, .int .u8 0, .int .u8 0, .int .u8 0, .int .u8 0, .int .u8 0, .int .u8 0, .int .u8 0, .int .u8 0, .int .u8 0, .int .u8 0, .int .u8 0, .int .u8 0, .int .u8 0, .int .u8 0, .int .u8 0, .int .u8 0, .int .u8 0, .int .u8 0, .int .u8 0, .int .u8 0, .int .i64 0] 237)).setRow w7.heap.size (dK G4 (2+(k:Int)+1+1))).setCell ⟨a+1,0,none⟩ (.int .i64 0))=u:=⟨_,rfl⟩;rw[UT]at hz0 gU ⊢;clear hZ hBF UT x0 x1 HEw HTy y0 y1
   go_region
   go_wp2;go_ret2;exact⟨rfl,aI gU.out _⟩
theorem Mm (P Q G:Int)(Y:Option Addr)(ys:List Int)(yn yc:Nat)(B:Option Addr)(rows:List Row)(bn bc:Nat)(A:Option Addr)(al:List Int)(na ca:Nat)(s:ByteArray)(hs:s.size≤1000)(hr:Hid (iQ (bq s)=false))
  (hbn:Hid (rows.length=bn)) (yN:bn≤900) (w:World) (hB:Hid (Rw w B rows)) :
  Calls Tryz.prog 223 #[gv P Q G, .agg #[.slice Y yn yc, .slice B bn bc], .slice A na ca, .string s] w (Rt w (.tuple #[.int .i64 0, .int .i64 1])):=by
 obtain⟨W,hW⟩:∃W,(w.alloc (bg P Q G)).alloc (.cells #[.slice Y yn yc, .slice B bn bc] 189)=W:=⟨_,rfl⟩;have cu:Hid (Below w.heap.size w W):=aa (by rw[←hW];exact aO (Below.refl _ _));have YF:Hid (qz W w.heap.size P Q G):=aa (by rw[←hW];exact(bD w P Q G).below (af _ _));have Yg:Hid (rX W (w.heap.size+1) (.slice Y yn yc) (.slice B bn bc)):=aa (by rw[←hW];exact ek w _ _ _ _);have II:=aa (hB.out.below cu.out);have HW:=aa hW;clear hW hB;go_in
 go_upto_region 1 with(fail)
 rw[HW.out];clear HW
 go_wp2_with fail
 refine(Nw s hs hr _).mono ?_;rintro e w1 ⟨rfl,hb1⟩;obtain⟨S0,hS0⟩:∃S,dL 32=S:=⟨_,rfl⟩;have IG:Hid (S0.length=32):=aa (by rw[←hS0];rfl);rw[hS0,show Am S0 0 1 = .tuple #[.agg (dK S0 0), .int .i64 1]from rfl];have HB1:=aa hb1;clear hb1 hS0;have HTz:Hid (dX ((w1.alloc (.cells #[.int .u8 0, .int .u8 0, .int .u8 0, .int .u8 0, .int .u8 0, .int .u8 0, .int .u8 0, .int .u8 0, .int .u8 0, .int .u8 0, .int .u8 0, .int .u8 0, .int .u8 0, .int .u8 0, .int .u8 0, .int .u8 0, .int .u8 0, .int .u8 0, .int .u8 0, .int .u8 0, .int .u8 0, .int .u8 0, .int .u8 0, .int .u8 0, .int .u8 0, .int .u8 0, .int .u8 0, .int .u8 0, .int .u8 0, .int .u8 0, .int .u8 0, .int .u8 0, .int .i64 0] 237)).alloc (.cells #[.int .i64 0] 30)) w1.heap.size (dL 32) 0):=aa (by rw[Lt];exact heap_alloc2_old _ _ _);have HEz:Hid (Own ((w1.alloc (.cells #[.int .u8 0, .int .u8 0, .int .u8 0, .int .u8 0, .int .u8 0, .int .u8 0, .int .u8 0, .int .u8 0, .int .u8 0, .int .u8 0, .int .u8 0, .int .u8 0, .int .u8 0, .int .u8 0, .int .u8 0, .int .u8 0, .int .u8 0, .int .u8 0, .int .u8 0, .int .u8 0, .int .u8 0, .int .u8 0, .int .u8 0, .int .u8 0, .int .u8 0, .int .u8 0, .int .u8 0, .int .u8 0, .int .u8 0, .int .u8 0, .int .u8 0, .int .u8 0, .int .i64 0] 237)).alloc (.cells #[.int .i64 0] 30)) ⟨w1.heap.size+1,0,none⟩ (.int .i64 0)):=aa ⟨au (heap_alloc2_new _ _ _) 0,ay (heap_alloc2_new _ _ _) 0⟩;have HEy:=aa (oW (a:=w1.heap.size) (cs:=dK S0 0) HEz.out (show w1.heap.size+1≠w1.heap.size by omega));obtain⟨q1,q2⟩:=HEy.out
 go_upto_region 2 with((with_reducible show wpList _ _ _ (⟨none,_,_,_,_,_⟩::_) _ _);refine wpList_store_row rfl 237 _ _ rfl w1.heap.size (dK S0 0) rfl rfl _ _ HTz.out (aT IG.out) (gP (h:=dL 32) (c:=0) rfl IG.out) (eP _ _) ?_)
 clear q1 q2 HTz HEz HEy;have hI2:=CX (w1:=w1) (c:=0) (x:=1) IG.out;obtain⟨W2,hW2⟩:∃u,((((w1.alloc (.cells #[.int .u8 0, .int .u8 0, .int .u8 0, .int .u8 0, .int .u8 0, .int .u8 0, .int .u8 0, .int .u8 0, .int .u8 0, .int .u8 0, .int .u8 0, .int .u8 0, .int .u8 0, .int .u8 0, .int .u8 0, .int .u8 0, .int .u8 0, .int .u8 0, .int .u8 0, .int .u8 0, .int .u8 0, .int .u8 0, .int .u8 0, .int .u8 0, .int .u8 0, .int .u8 0, .int .u8 0, .int .u8 0, .int .u8 0, .int .u8 0, .int .u8 0, .int .u8 0, .int .i64 0] 237)).alloc (.cells #[.int .i64 0] 30)).setRow w1.heap.size (dK S0 0)).setCell ⟨w1.heap.size+1,0,none⟩ (.int .i64 1))=u:=⟨_,rfl⟩;rw[hW2]at hI2 ⊢;obtain⟨a,ha⟩:∃a,w1.heap.size=a:=⟨_,rfl⟩;have Py:MR W a S0 0 1 W2:=⟨by rw[←ha];exact hI2.1,by rw[←ha];exact hI2.2.1,ag HB1.out hI2.2.2⟩;rw[ha];have HI2:=aa Py;clear hW2 hI2 Py ha HB1;obtain⟨c0,c1,c2⟩:=YF.out.below HI2.out.2.2
 go_wp2_with fail
 refine(uS (some ⟨W2.heap.size,0,none⟩) 3 3 nW a (a+1) 1 rfl _ (aa (HI2.out.alloc _).2.1)).mono ?_;rintro e w3 ⟨⟨v3,rfl⟩,rfl⟩;have HI3:=aa (HI2.out.alloc (.cells #[.int .i64 P, .int .i64 Q, .int .i64 G] 3));obtain⟨W3,hW3⟩:∃u,W2.alloc (.cells #[.int .i64 P, .int .i64 Q, .int .i64 G] 3)=u:=⟨_,rfl⟩;rw[hW3]at HI3 ⊢;clear c0 c1 c2 HI2 hW3;obtain⟨d0,d1⟩:=Yg.out.below HI3.out.2.2
 go_wp2_with fail
 refine(uS Y yn yc OL a (a+1) 1 rfl _ (aa HI3.out.2.1)).mono ?_;rintro e w4 ⟨⟨v4,rfl⟩,rfl⟩
 go_wp2_with fail
 clear d0 d1
 go_loopw [39] (fun i u=>∃(k:Nat),k≤bn∧i = .int .i64 k∧Hid (MR W a S0 0 1 u)) (fun i _=>bn-(intOf i).toNat)
 case atStart=>exact⟨0,by omega,rfl,HI3⟩
 case round=>
  obtain⟨k,hk,rfl,HI⟩:=hrel
  by_cases hlt:k<bn
  ·
   have hkl:k<rows.length:=by rw[hbn.out];exact hlt
   obtain⟨⟨b,o,hA,hi0⟩,hok⟩:=II.out.below HI.out.2.2 k hkl;subst hA;obtain⟨R,hR⟩:∃R,rows.getD k dI=R:=⟨_,rfl⟩;rw[hR]at hi0 hok;obtain⟨p,rn,rc,xs⟩:=R
   dsimp only[Row.val]at hi0
   clear hR hok hkl
   go_wp2_with fail
   refine(uS p rn rc qa a (a+1) 1 rfl _ (aa HI.out.2.1)).mono ?_;rintro e w5 ⟨⟨v5,rfl⟩,rfl⟩;clear hi0;go_wp2
   go_roundw
   case rel=>exact⟨k+1,by omega,by go_num,HI⟩
   case measure=>simp[intOf];omega
  ·
   go_wp2_with fail
   refine(uS A na ca fG a (a+1) 1 rfl _ (aa HI.out.2.1)).mono ?_;rintro e w6 ⟨⟨v6,rfl⟩,rfl⟩;obtain⟨z0,z1⟩:=HI.out.2.1;have gU:=aa (ag cu.out HI.out.2.2);go_wp2
   go_region
   go_wp2;go_ret2;exact⟨rfl,aI gU.out _⟩
theorem RH {Q x:Int} (h:x<0):jc Q x=false:=by simp[jc];omega
theorem RI {Q x:Int} (h:Q≤x):jc Q x=false:=by simp[jc];omega
theorem VA {Q x:Int} (h0:¬x<0)(h1:¬Q≤x):jc Q x=true:=by simp[jc];omega
theorem Qq {f:Int→Bool} {xs:List Int} {k:Nat} (hk:k<xs.length)(h:f (xs.getD k 0)=true):(xs.drop k).all f=(xs.drop (k+1)).all f:=by
 rw[List.drop_eq_getElem_cons hk,List.all_cons];rw[List.getD_eq_getElem?_getD,List.getElem?_eq_getElem hk]at h
 simp at h
 rw[h,Bool.true_and]
theorem Le {f:Int→Bool} {xs:List Int} {k:Nat} (hk:k<xs.length)(h:f (xs.getD k 0)=false):(xs.drop k).all f=false:=by
 rw[List.drop_eq_getElem_cons hk,List.all_cons];rw[List.getD_eq_getElem?_getD,List.getElem?_eq_getElem hk]at h
 simp at h
 rw[h,Bool.false_and]
theorem lJ (P Q G:Int)(A:Option Addr)(xs:List Int)(n c:Nat)(r:Bool)(hr:Hid (xs.all (jc Q)=r))(hn:Hid (xs.length=n))(hbig:n<1000000)(w:World)(hs:Hid (Sl w A xs)) :
  Calls Tryz.prog 227 #[gv P Q G, .slice A n c] w (Rt w (.bool r)):=by
 have cu:=aa (af w (bg P Q G));have HX0:=aa (bD w P Q G);have Lh:=aa (hs.out.below cu.out);obtain⟨W,hW⟩:∃W,w.alloc (bg P Q G)=W:=⟨_,rfl⟩;rw[hW]at HX0 Lh cu;have HW:=aa hW;clear hW hs;go_in;go_wp2;rw[HW.out]
 go_loopw [5] (fun i wr=>∃k:Nat,k≤n∧i = .int .i64 k∧Hid ((xs.drop k).all (jc Q)=r)∧Hid (Below W.heap.size W wr)) (fun i _=>n-(intOf i).toNat)
 case atStart=>exact⟨0,by omega,rfl,aa (by rw[List.drop_zero];exact hr.out),aa (Below.refl _ _)⟩
 case round=>
  obtain⟨k,hk,rfl,HR,aD⟩:=hrel
  by_cases hlt:k<n
  ·
   have hkl:k<xs.length:=by rw[hn.out];exact hlt
   obtain⟨b,o,hA,hi⟩:=Lh.out.below aD.out k hkl;subst hA;obtain⟨c0,c1,c2⟩:=HX0.out.below aD.out
   by_cases h0:xs.getD k 0<0
   ·
    have hf:jc Q (xs.getD k 0)=false:=RH h0;obtain rfl:r=false:=HR.out.symm.trans (Le hkl hf);obtain⟨x,hx⟩:∃x,xs.getD k 0=x:=⟨_,rfl⟩;rw[hx]at hi h0;have d0:decide (x<0)=true:=by simp;omega
    have bT:=fun q=>aI (ag cu.out aD.out) q;clear hx hf hkl HR;go_wp2
    go_quiet (fail)
    go_wp2;go_ret;exact⟨rfl,bT _⟩
   ·
    by_cases h1:Q≤xs.getD k 0
    ·
     have hf:jc Q (xs.getD k 0)=false:=RI h1;obtain rfl:r=false:=HR.out.symm.trans (Le hkl hf);obtain⟨x,hx⟩:∃x,xs.getD k 0=x:=⟨_,rfl⟩;rw[hx]at hi h0 h1;have d0:decide (x<0)=false:=by simp;omega
     have d1:decide (Q≤x)=true:=by simp;omega
     have bT:=fun q=>aI (ag cu.out aD.out) q;clear hx hf hkl HR;go_wp2
     go_quiet (fail)
     go_wp2;go_ret;exact⟨rfl,bT _⟩
    ·
     have hf:jc Q (xs.getD k 0)=true:=VA h0 h1;have HR2:Hid ((xs.drop (k+1)).all (jc Q)=r):=aa ((Qq hkl hf).symm.trans HR.out);obtain⟨x,hx⟩:∃x,xs.getD k 0=x:=⟨_,rfl⟩;rw[hx]at hi h0 h1;have d0:decide (x<0)=false:=by simp;omega
     have d1:decide (Q≤x)=false:=by simp;omega
     have HB2:=aa (fun q=>aI aD.out q);clear hx hf hkl HR;go_wp2
     go_quiet (fail)
     go_wp2
     go_roundw
     case rel=>exact⟨k+1,by omega,by go_num,HR2,aa (HB2.out _)⟩
     case measure=>simp[intOf];omega
  ·
   obtain rfl:k=n:=by omega
   obtain rfl:r=true:=by rw[←HR.out,←hn.out,List.drop_length];rfl
   have bT:=ag cu.out aD.out;clear HR hlt;go_wp2;go_ret;exact⟨rfl,bT⟩
theorem D7 (P Q G:Int)(A:Option Addr)(xs:List Int)(n c:Nat)(E:Option Addr)(es:List Int)(m d:Nat)(V:Int)(hV:Hid (dU P 1 xs es=V))(hn:Hid (xs.length=n))(hm:Hid (es.length=m))(hnm:n≤m)(hbig:m<1000000)
  (hx:Hid (xs.all (aN P Q)=true)) (he:Hid (es.all (jc Q)=true)) (hp2:2≤P) (hp:P<2305843009213693952) (hQ:Q<9223372036854775808) (w:World) (hA:Hid (Sl w A xs)) (hE:Hid (Sl w E es)) :
  Calls Tryz.prog 228 #[gv P Q G, .slice A n c, .slice E m d] w (Rt w (.int .i64 V)):=by
 have cu:=aa (af w (bg P Q G));have HX0:=aa (bD w P Q G);have Ay:=aa (hA.out.below cu.out);have Vk:=aa (hE.out.below cu.out);obtain⟨W,hW⟩:∃W,w.alloc (bg P Q G)=W:=⟨_,rfl⟩;rw[hW]at HX0 Ay Vk cu;have HW:=aa hW;clear hW hA hE;go_in;go_wp2;rw[HW.out]
 go_loopw [7,8] (fun y i wr=>∃(k:Nat) (acc:Int),k≤n∧y = .int .i64 acc∧i = .int .i64 k∧0≤acc∧acc<P∧Hid (dU P acc (xs.drop k) (es.drop k)=V)∧Hid (Below W.heap.size W wr)) (fun _ i _=>n-(intOf i).toNat)
 case atStart=>exact⟨0,1,by omega,rfl,rfl,by omega,by omega,zh hV,aa (Below.refl _ _)⟩
 case round=>
  obtain⟨k,acc,hk,rfl,rfl,a0,a1,HJ,aD⟩:=hrel
  by_cases hlt:k<n
  ·
   have hkl:k<xs.length:=by rw[hn.out];exact hlt
   have hkm:k<m:=by omega
   have hke:k<es.length:=by rw[hm.out];exact hkm
   obtain⟨b,o,hA,hi0⟩:=Ay.out.below aD.out k hkl;obtain⟨b2,o2,hE,hi1⟩:=Vk.out.below aD.out k hke;subst hA;subst hE;obtain⟨c0,c1,c2⟩:=HX0.out.below aD.out;have hm1:=ji hx.out hkl;have hm2:=ji he.out hke;have hst:=Bi (P:=P) (acc:=acc) hkl hke;obtain⟨x,hxx⟩:∃x,xs.getD k 0=x:=⟨_,rfl⟩;obtain⟨ex,hee⟩:∃x,es.getD k 0=x:=⟨_,rfl⟩;rw[hxx]at hi0 hm1 hst;rw[hee]at hi1 hm2 hst;have x0:=gD hm1;have x1:=gF hm1;have e0:=tJ hm2;have e1:=vM hm2;obtain⟨p,hp1⟩:∃p,pw x ex P=p:=⟨_,rfl⟩;obtain⟨p0,p1⟩:0≤p∧p<P:=by rw[←hp1];exact zg _ _ _ (by omega)
   rw[hp1]at hst;obtain⟨BM,hac⟩:∃a,acc*p%P=a:=⟨_,rfl⟩;rw[hac]at hst;have q0:0≤BM:=by rw[←hac];exact Int.emod_nonneg _ (by omega)
   have q1:BM<P:=by rw[←hac];exact Int.emod_lt_of_pos _ (by omega)
   have HJ2:Hid (dU P BM (xs.drop (k+1)) (es.drop (k+1))=V):=aa (hst.symm.trans HJ.out);have Yj:=aa hp1;have HAC:=aa hac;have HB2:=aa (fun q=>aI aD.out q);clear hm1 hm2 hst hxx hee hp1 hac hkl hke HJ;go_wp2
   go_quiet ((first | (go_at_call 57;exact oV (mZ x ex P p Yj (by omega) hp (by omega) x1 e0 (by omega) _)) | (go_at_call 45;exact oV (gV acc p P BM HAC hp a0 a1 p0 p1 _))))
   go_wp2
   go_roundw
   case rel=>exact⟨k+1,BM,by omega,rfl,by go_num,q0,q1,HJ2,aa (HB2.out _)⟩
   case measure=>simp[intOf];omega
  ·
   obtain rfl:k=n:=by omega
   obtain rfl:=Df hn.out HJ;have bT:=ag cu.out aD.out;clear HJ hlt;go_wp2;go_ret;exact⟨rfl,bT⟩
theorem MP {f:Row→Bool} {xs:List Row} {k:Nat} (hk:k<xs.length):(xs.drop k).all f=(f (xs.getD k dI)&&(xs.drop (k+1)).all f):=by
 rw[List.drop_eq_getElem_cons hk,List.all_cons,List.getD_eq_getElem?_getD,List.getElem?_eq_getElem hk]
 rfl
theorem DF {f:Int→Bool} {xs:List Int} {k:Nat} (hk:k<xs.length):(xs.drop k).all f=(f (xs.getD k 0)&&(xs.drop (k+1)).all f):=by
 rw[List.drop_eq_getElem_cons hk,List.all_cons,List.getD_eq_getElem?_getD,List.getElem?_eq_getElem hk]
 rfl
def leftV (P Q:Int)(n:Nat)(ys:List Int)(rows:List Row)(k:Nat):Bool:=(ys.drop k).all (aN P Q)&&(rows.drop k).all (oU P Q n)
theorem Ji {P Q:Int} {n:Nat} {ys:List Int} {rows:List Row} {k:Nat} (hk:k<ys.length)(hr:k<rows.length) :
  leftV P Q n ys rows k=(aN P Q (ys.getD k 0)&&(oU P Q n (rows.getD k dI)&&leftV P Q n ys rows (k+1))):=by
 rw[leftV,DF hk,MP hr,leftV]
 cases aN P Q (ys.getD k 0) <;> cases oU P Q n (rows.getD k dI) <;> simp
theorem NJ (P Q G:Int)(Y:Option Addr)(ys:List Int)(yn yc:Nat)(B:Option Addr)(rows:List Row)(bc n0:Nat)(r:Bool)(HG:Hid (a_ P Q G=true))(hr:Hid (leftV P Q n0 ys rows 0=r))(hn:Hid (iG rows=n0))(hyn:Hid (ys.length=yn))(hbn:Hid (rows.length=yn))
  (h1:1≤yn) (h2:yn≤8) (h3:1≤n0) (h4:n0≤12) (hQ:Q<9223372036854775808) (w:World) (hY:Hid (Sl w Y ys)) (hB:Hid (Rw w B rows)) :
  Calls Tryz.prog 225 #[gv P Q G,iY Y yn yc B yn bc] w (Rt w (.bool r)):=by
 obtain⟨hp2,hp,hq3,Dl⟩:=bW HG.out;obtain⟨b,o,rfl⟩:=hB.out.some (by rw[hbn.out];omega);obtain⟨b1,o1,rfl,_⟩:=hY.out 0 (by rw[hyn.out];omega);obtain⟨w0,hW⟩:∃W,(w.alloc (bg P Q G)).alloc (lK (some ⟨b1,o1,none⟩) yn yc (some ⟨b,o,none⟩) yn bc)=W:=⟨_,rfl⟩;have ai:Hid (Below w.heap.size w w0):=aa (by rw[←hW];exact aO (Below.refl _ _));have HX0:Hid (qz w0 w.heap.size P Q G):=aa (by rw[←hW];exact(bD w P Q G).below (af _ _));have fH:Hid (rX w0 (w.heap.size+1) (.slice (some ⟨b1,o1,none⟩) yn yc) (.slice (some ⟨b,o,none⟩) yn bc)):=aa (by rw[←hW];exact ek _ _ _ _ _);have zL:=aa (hY.out.below ai.out);have Ay:=aa (hB.out.below ai.out);have HW:=aa hW;have d1:decide ((yn:Int)<1)=false:=by simp;omega
 have d2:decide ((8:Int)<(yn:Int))=false:=by simp;omega
 have d3:decide ((n0:Int)<1)=false:=by simp;omega
 have d4:decide ((12:Int)<(n0:Int))=false:=by simp;omega
 clear hW hY hB;go_in
 go_wp2_with fail
 rw[HW.out];refine(di P Q G true HG hQ _).mono ?_;rintro e w1 ⟨rfl,hb0⟩;have hb1:=ag ai.out hb0;have tq:=aa (HX0.out.below hb0);have HR1:=aa (fH.out.below hb0);have zK:=aa (zL.out.below hb0);have HA1:=aa (Ay.out.below hb0);clear hb0;obtain⟨d5,d6⟩:=HR1.out;obtain⟨c0,c1,c2⟩:=tq.out
 go_wp2_with fail
 refine(iB (some ⟨b1,o1,none⟩) yn yc (some ⟨b,o,none⟩) rows yn bc n0 hbn (by omega) hn _ HA1).mono ?_;rintro e W ⟨rfl,hb0⟩;have u_:=aa (ag hb1 hb0);have TW:=aa (tq.out.below hb0);have HRW:=aa (HR1.out.below hb0);have HYW:=aa (zK.out.below hb0);have HAW:=aa (HA1.out.below hb0);clear hb0 d5 d6 c0 c1 c2;go_wp2
 go_loopw [6] (fun i wr=>∃k:Nat,k≤yn∧i = .int .i64 k∧Hid (leftV P Q n0 ys rows k=r)∧Hid (Below W.heap.size W wr)) (fun i _=>yn-(intOf i).toNat)
 case atStart=>exact⟨0,by omega,rfl,hr,aa (Below.refl _ _)⟩
 case round=>
  obtain⟨k,hk,rfl,Va,aD⟩:=hrel;obtain⟨wo,rfl⟩:∃wo:World,wo=wr:=⟨_,rfl⟩;obtain⟨d5,d6⟩:=HRW.out.below aD.out
  by_cases hlt:k<yn
  ·
   have hkl:k<ys.length:=by rw[hyn.out];exact hlt
   have hkr:k<rows.length:=by rw[hbn.out];exact hlt
   obtain⟨bb,oo,e1,hi0⟩:=HYW.out k hkl
   cases e1
   have hrow:=HAW.out.at hkr;have hok:=(HAW.out k hkr).2;have hst:=Ji (P:=P) (Q:=Q) (n:=n0) hkl hkr;rw[Va.out]at hst;obtain⟨y,hy⟩:∃x,ys.getD k 0=x:=⟨_,rfl⟩;obtain⟨R,hR⟩:∃R,rows.getD k dI=R:=⟨_,rfl⟩;rw[hy]at hi0 hst;rw[hR]at hrow hok hst;obtain⟨p,rn,rc,xs⟩:=R
   dsimp only[Row.val]at hrow
   have HI0:=aa hi0;have HI1:=aa hrow;have HL:=aa hok.1;have HS:=aa hok.2;have hS:=aa (show ∀u1:World,Below W.heap.size W u1→(u1.cell? ⟨w.heap.size,0,none⟩=some (.int .i64 P)∧u1.cell? ⟨w.heap.size,1,none⟩=some (.int .i64 Q)∧u1.cell? ⟨w.heap.size,2,none⟩=some (.int .i64 G)∧u1.cell? ⟨w.heap.size+1,0,none⟩=some (.slice (some ⟨b1,o1,none⟩) yn yc)∧u1.cell? ⟨w.heap.size+1,1,none⟩=some (.slice (some ⟨b,o,none⟩) yn bc)∧u1.cell? ⟨b1,o1+k,none⟩=some (.int .i64 y)∧u1.cell? ⟨b,o+k,none⟩=some (.slice p rn rc)∧Hid (Below W.heap.size W u1))from fun u1 h1=>⟨(TW.out.below h1).1,(TW.out.below h1).2.1,(TW.out.below h1).2.2,(HRW.out.below h1).1,(HRW.out.below h1).2,cell_below HI0.out h1,cell_below HI1.out h1,aa h1⟩);clear hi0 hrow hok hy hR hkl hkr
   cases Jr:aN P Q y with
   | false=>
    rw[Jr,Bool.false_and]at hst;obtain rfl:r=false:=hst;have HM:=aa Jr;clear Jr Va;go_wp2;refine wp_region_held_drew (S:=fun w'=>w'.cell? ⟨w.heap.size,0,none⟩=some (.int .i64 P)∧w'.cell? ⟨w.heap.size,1,none⟩=some (.int .i64 Q)∧w'.cell? ⟨w.heap.size,2,none⟩=some (.int .i64 G)∧w'.cell? ⟨w.heap.size+1,0,none⟩=some (.slice (some ⟨b1,o1,none⟩) yn yc)∧w'.cell? ⟨w.heap.size+1,1,none⟩=some (.slice (some ⟨b,o,none⟩) yn bc)∧w'.cell? ⟨b1,o1+k,none⟩=some (.int .i64 y)∧w'.cell? ⟨b,o+k,none⟩=some (.slice p rn rc)∧Hid (Below W.heap.size W w')) (by kernel_rfl) (hS.out _ aD.out.drew) (fun hHeld=>?_);refine wpAnyH_take (i:=0) (oi:=_) (v:= ?_) rfl (by kernel_rfl) (by kernel_rfl) (by kernel_rfl) (fun _ _ _ h=>h) (Or.inl ⟨by rfl, ?_⟩) (by assumption) ?_
    rotate_left;(intro wS hSw;(try dsimp only at hSw);go_simp <;> with_reducible rfl)
    try simp only[qq]
    refine wpAnyH_take (i:=1) (oi:=_) (v:= ?_) rfl (by kernel_rfl) (by kernel_rfl) (by kernel_rfl) (fun _ _ _ h=>h) (Or.inl ⟨by rfl, ?_⟩) (by assumption) ?_
    rotate_left;(intro wS hSw;(try dsimp only at hSw);go_simp <;> with_reducible rfl)
    try simp only[qq]
    refine wpAnyH_take (i:=2) (oi:=_) (v:= ?_) rfl (by kernel_rfl) (by kernel_rfl) (by kernel_rfl) (fun _ _ _ h=>h) (Or.inl ⟨by rfl, ?_⟩) (by assumption) ?_
    rotate_left;(intro wS hSw;(try dsimp only at hSw);go_simp <;> with_reducible rfl)
    try simp only[qq]
    refine wpAnyH_take (i:=3) (oi:=_) (v:= ?_) rfl (by kernel_rfl) (by kernel_rfl) (by kernel_rfl) (fun _ _ _ h=>h) (Or.inl ⟨by rfl, ?_⟩) (by assumption) ?_
    rotate_left;(intro wS hSw;(try dsimp only at hSw);go_simp <;> with_reducible rfl)
    try simp only[qq]
    refine wpAnyH_take (i:=4) (oi:=_) (v:= ?_) rfl (by kernel_rfl) (by kernel_rfl) (by kernel_rfl) (fun _ _ _ h=>h) (Or.inl ⟨by rfl, ?_⟩) (by assumption) ?_
    rotate_left;(intro wS hSw;(try dsimp only at hSw);go_simp <;> with_reducible rfl)
    try simp only[qq]
    refine wpAnyH_take (i:=5) (oi:=_) (v:= ?_) rfl (by kernel_rfl) (by kernel_rfl) (by kernel_rfl) (fun _ _ _ h=>h) (Or.inl ⟨by rfl, ?_⟩) (by assumption) ?_
    rotate_left;(intro wS hSw;(try dsimp only at hSw);go_simp <;> with_reducible rfl)
    try simp only[qq]
    refine wpAnyH_ready (rs:= [6]) (by kernel_rfl) (by simp) ?_;refine AllReadyH.cons rfl (fun K hK=>?_) AllReadyH.nil;go_simp
    (with_reducible refine(aU P Q G y false HM hp (by omega) hQ _).mono ?_);rintro e wA ⟨rfl,bN⟩
    refine hK.out _ _ ?_ (fun hHeld=>?_)
    · (go_split_ands;exact hS.out _ (aD.out.drew.trans (bN.mono aD.out.size)))
    clear hK K
    try simp only[qq]
    refine wpAnyH_take (i:=7) (oi:=_) (v:= ?_) rfl (by kernel_rfl) (by kernel_rfl) (by kernel_rfl) (fun _ _ _ h=>h) (Or.inl ⟨by rfl, ?_⟩) (by assumption) ?_
    rotate_left;(intro wS hSw;(try dsimp only at hSw);go_simp <;> with_reducible rfl)
    try simp only[qq]
    refine wpAnyH_take (i:=8) (oi:=_) (v:= ?_) rfl (by kernel_rfl) (by kernel_rfl) (by kernel_rfl) (fun _ _ _ h=>h) (Or.inl ⟨by rfl, ?_⟩) (by assumption) ?_
    rotate_left;(intro wS hSw;(try dsimp only at hSw);go_simp <;> with_reducible rfl)
    try simp only[qq]
    refine wpAnyH_take (i:=9) (oi:=_) (v:=undef) rfl (by kernel_rfl) (by kernel_rfl) (by kernel_rfl) (fun _ _ _ h=>h) (Or.inr ⟨by rfl,rfl⟩) (by assumption) ?_
    try simp only[qq]
    refine wpAnyH_take (i:=10) (oi:=_) (v:=undef) rfl (by kernel_rfl) (by kernel_rfl) (by kernel_rfl) (fun _ _ _ h=>h) (Or.inr ⟨by rfl,rfl⟩) (by assumption) ?_
    try simp only[qq]
    refine wpAnyH_take (i:=11) (oi:=_) (v:=undef) rfl (by kernel_rfl) (by kernel_rfl) (by kernel_rfl) (fun _ _ _ h=>h) (Or.inr ⟨by rfl,rfl⟩) (by assumption) ?_
    try simp only[qq]
    refine wpAnyH_take (i:=12) (oi:=_) (v:=undef) rfl (by kernel_rfl) (by kernel_rfl) (by kernel_rfl) (fun _ _ _ h=>h) (Or.inr ⟨by rfl,rfl⟩) (by assumption) ?_
    try simp only[qq]
    refine wpAnyH_take (i:=13) (oi:=_) (v:=undef) rfl (by kernel_rfl) (by kernel_rfl) (by kernel_rfl) (fun _ _ _ h=>h) (Or.inr ⟨by rfl,rfl⟩) (by assumption) ?_
    try simp only[qq]
    refine wpAnyH_take (i:=14) (oi:=_) (v:=undef) rfl (by kernel_rfl) (by kernel_rfl) (by kernel_rfl) (fun _ _ _ h=>h) (Or.inr ⟨by rfl,rfl⟩) (by assumption) ?_
    try simp only[qq]
    refine wpAnyH_take (i:=15) (oi:=_) (v:=undef) rfl (by kernel_rfl) (by kernel_rfl) (by kernel_rfl) (fun _ _ _ h=>h) (Or.inr ⟨by rfl,rfl⟩) (by assumption) ?_
    try simp only[qq]
    refine wpAnyH_take (i:=16) (oi:=_) (v:=undef) rfl (by kernel_rfl) (by kernel_rfl) (by kernel_rfl) (fun _ _ _ h=>h) (Or.inr ⟨by rfl,rfl⟩) (by assumption) ?_
    try simp only[qq]
    refine wpAnyH_take (i:=17) (oi:=_) (v:= ?_) rfl (by kernel_rfl) (by kernel_rfl) (by kernel_rfl) (fun _ _ _ h=>h) (Or.inl ⟨by rfl, ?_⟩) (by assumption) ?_
    rotate_left;(intro wS hSw;(try dsimp only at hSw);go_simp <;> with_reducible rfl)
    try simp only[qq]
    refine wpAnyH_done (by kernel_rfl) ?_ _;obtain⟨x0,x1,x2,x3,x4,x5,x6,pX⟩:=hHeld;have bT:=ag u_.out pX.out;go_wp2;go_ret;exact⟨rfl,bT⟩
   | true=>
    rw[Jr,Bool.true_and]at hst;have HM:=aa Jr;clear Jr
    by_cases hne:rn=n0
    ·
     subst hne;have hneq:((rn:Int) != (rn:Int))=false:=by simp
     obtain⟨t,ht⟩:∃t,xs.all (aN P Q)=t:=⟨_,rfl⟩;have hrb:oU P Q rn ⟨p,rn,rc,xs⟩=t:=by simp[oU,ht]
     rw[hrb]at hst;have HST:=aa hst;have HT:Hid ((xs.drop 0).all (aN P Q)=t):=aa (by rw[List.drop_zero];exact ht);clear hst hrb ht Va;go_wp2
     go_region_held3 (fun w'=>w'.cell? ⟨w.heap.size,0,none⟩=some (.int .i64 P)∧w'.cell? ⟨w.heap.size,1,none⟩=some (.int .i64 Q)∧w'.cell? ⟨w.heap.size,2,none⟩=some (.int .i64 G)∧w'.cell? ⟨w.heap.size+1,0,none⟩=some (.slice (some ⟨b1,o1,none⟩) yn yc)∧w'.cell? ⟨w.heap.size+1,1,none⟩=some (.slice (some ⟨b,o,none⟩) yn bc)∧w'.cell? ⟨b1,o1+k,none⟩=some (.int .i64 y)∧w'.cell? ⟨b,o+k,none⟩=some (.slice p rn rc)∧Hid (Below W.heap.size W w'))
      (first | exact hS.out _ aD.out.drew | (go_split_ands;exact hS.out _ (aD.out.drew.trans (bN.mono aD.out.size))) | go_keep)
      ((first | (go_at_call 103;(with_reducible refine(aU P Q G y true HM hp (by omega) hQ _).mono ?_);rintro e wA ⟨rfl,bN⟩)))
     rename_i hHeld
     obtain⟨x0,x1,x2,x3,x4,x5,x6,pX⟩:=hHeld;clear x0 x1 x2 x3 x4 x5 x6 hS HM bN;go_wp2
     go_loopw [7] (fun i wr=>∃j:Nat,j≤rn∧i = .int .i64 j∧Hid ((xs.drop j).all (aN P Q)=t)∧Hid (Below W.heap.size W wr)) (fun i _=>rn-(intOf i).toNat)
     case atStart=>exact⟨0,by omega,rfl,HT,pX⟩
     case round=>
      obtain⟨j,hj,rfl,HJ,Au⟩:=hrel;obtain⟨wi,rfl⟩:∃wi:World,wi=wr:=⟨_,rfl⟩
      by_cases hjt:j<rn
      ·
       have hjl:j<xs.length:=by rw[HL.out];exact hjt
       obtain⟨b2,o2,e2,hi2⟩:=HS.out j hjl;subst e2;have hjs:=DF (f:=aN P Q) hjl;rw[HJ.out]at hjs;obtain⟨x,hx⟩:∃x,xs.getD j 0=x:=⟨_,rfl⟩;rw[hx]at hi2 hjs;have HI2:=aa hi2;have hS:=aa (show ∀u1:World,Below W.heap.size W u1→(u1.cell? ⟨w.heap.size,0,none⟩=some (.int .i64 P)∧u1.cell? ⟨w.heap.size,1,none⟩=some (.int .i64 Q)∧u1.cell? ⟨w.heap.size,2,none⟩=some (.int .i64 G)∧u1.cell? ⟨w.heap.size+1,0,none⟩=some (.slice (some ⟨b1,o1,none⟩) yn yc)∧u1.cell? ⟨w.heap.size+1,1,none⟩=some (.slice (some ⟨b,o,none⟩) yn bc)∧u1.cell? ⟨b,o+k,none⟩=some (.slice (some ⟨b2,o2,none⟩) rn rc)∧u1.cell? ⟨b2,o2+j,none⟩=some (.int .i64 x)∧Hid (Below W.heap.size W u1))from fun u1 h1=>⟨(TW.out.below h1).1,(TW.out.below h1).2.1,(TW.out.below h1).2.2,(HRW.out.below h1).1,(HRW.out.below h1).2,cell_below HI1.out h1,cell_below HI2.out h1,aa h1⟩);clear hi2 hx hjl
       cases hmx:aN P Q x with
       | false=>
        rw[hmx,Bool.false_and]at hjs;obtain rfl:t=false:=hjs;obtain rfl:r=false:=HST.out;have HM:=aa hmx;clear hmx;go_wp2
        go_region_held3 (fun w'=>w'.cell? ⟨w.heap.size,0,none⟩=some (.int .i64 P)∧w'.cell? ⟨w.heap.size,1,none⟩=some (.int .i64 Q)∧w'.cell? ⟨w.heap.size,2,none⟩=some (.int .i64 G)∧w'.cell? ⟨w.heap.size+1,0,none⟩=some (.slice (some ⟨b1,o1,none⟩) yn yc)∧w'.cell? ⟨w.heap.size+1,1,none⟩=some (.slice (some ⟨b,o,none⟩) yn bc)∧w'.cell? ⟨b,o+k,none⟩=some (.slice (some ⟨b2,o2,none⟩) rn rc)∧w'.cell? ⟨b2,o2+j,none⟩=some (.int .i64 x)∧Hid (Below W.heap.size W w'))
         (first | exact hS.out _ Au.out.drew | (go_split_ands;exact hS.out _ (Au.out.drew.trans (bN.mono Au.out.size))) | go_keep)
         ((first | (go_at_call 103;(with_reducible refine(aU P Q G x false HM hp (by omega) hQ _).mono ?_);rintro e wA ⟨rfl,bN⟩)))
        rename_i hHeld
        obtain⟨x0,x1,x2,x3,x4,x5,x6,II⟩:=hHeld;have bT:=ag u_.out II.out;clear x0 x1 x2 x3 x4 x5 x6;go_wp2;go_ret;exact⟨rfl,bT⟩
       | true=>
        rw[hmx,Bool.true_and]at hjs;have HJ2:=aa hjs.symm;have HM:=aa hmx;clear hmx hjs HJ;go_wp2
        go_region_held3 (fun w'=>w'.cell? ⟨w.heap.size,0,none⟩=some (.int .i64 P)∧w'.cell? ⟨w.heap.size,1,none⟩=some (.int .i64 Q)∧w'.cell? ⟨w.heap.size,2,none⟩=some (.int .i64 G)∧w'.cell? ⟨w.heap.size+1,0,none⟩=some (.slice (some ⟨b1,o1,none⟩) yn yc)∧w'.cell? ⟨w.heap.size+1,1,none⟩=some (.slice (some ⟨b,o,none⟩) yn bc)∧w'.cell? ⟨b,o+k,none⟩=some (.slice (some ⟨b2,o2,none⟩) rn rc)∧w'.cell? ⟨b2,o2+j,none⟩=some (.int .i64 x)∧Hid (Below W.heap.size W w'))
         (first | exact hS.out _ Au.out.drew | (go_split_ands;exact hS.out _ (Au.out.drew.trans (bN.mono Au.out.size))) | go_keep)
         ((first | (go_at_call 103;(with_reducible refine(aU P Q G x true HM hp (by omega) hQ _).mono ?_);rintro e wA ⟨rfl,bN⟩)))
        rename_i hHeld
        obtain⟨x0,x1,x2,x3,x4,x5,x6,II⟩:=hHeld;clear x0 x1 x2 x3 x4 x5 x6;go_wp2
        go_roundw
        case rel=>exact⟨j+1,by omega,by go_num,HJ2,II⟩
        case measure=>simp[intOf];omega
      ·
       obtain rfl:j=rn:=by omega
       obtain rfl:t=true:=by rw[←HJ.out,←HL.out,List.drop_length];rfl
       have zN:Hid (leftV P Q j ys rows (k+1)=r):=aa (by have h9:=HST.out;rw[Bool.true_and]at h9;exact h9.symm);clear HJ hjt;go_wp2
       go_roundw
       case rel=>exact⟨k+1,by omega,by go_num,zN,Au⟩
       case measure=>simp[intOf];omega
    ·
     have hrb:oU P Q n0 ⟨p,rn,rc,xs⟩=false:=by simp[oU,hne]
     rw[hrb,Bool.false_and]at hst;obtain rfl:r=false:=hst;have hneq:((rn:Int) != (n0:Int))=true:=by simp;omega
     clear hrb Va;go_wp2
     go_region_held3 (fun w'=>w'.cell? ⟨w.heap.size,0,none⟩=some (.int .i64 P)∧w'.cell? ⟨w.heap.size,1,none⟩=some (.int .i64 Q)∧w'.cell? ⟨w.heap.size,2,none⟩=some (.int .i64 G)∧w'.cell? ⟨w.heap.size+1,0,none⟩=some (.slice (some ⟨b1,o1,none⟩) yn yc)∧w'.cell? ⟨w.heap.size+1,1,none⟩=some (.slice (some ⟨b,o,none⟩) yn bc)∧w'.cell? ⟨b1,o1+k,none⟩=some (.int .i64 y)∧w'.cell? ⟨b,o+k,none⟩=some (.slice p rn rc)∧Hid (Below W.heap.size W w'))
      (first | exact hS.out _ aD.out.drew | (go_split_ands;exact hS.out _ (aD.out.drew.trans (bN.mono aD.out.size))) | go_keep)
      ((first | (go_at_call 103;(with_reducible refine(aU P Q G y true HM hp (by omega) hQ _).mono ?_);rintro e wA ⟨rfl,bN⟩)))
     rename_i hHeld
     obtain⟨x0,x1,x2,x3,x4,x5,x6,pX⟩:=hHeld;have bT:=ag u_.out pX.out;clear x0 x1 x2 x3 x4 x5 x6;go_wp2;go_ret;exact⟨rfl,bT⟩
  ·
   obtain rfl:k=yn:=by omega
   obtain rfl:r=true:=by
    rw[←Va.out,leftV];have e1:ys.drop k = []:=by rw[←hyn.out,List.drop_length]
    have e2:rows.drop k = []:=by rw[←hbn.out,List.drop_length]
    rw[e1,e2];rfl
   have bT:=ag u_.out aD.out;clear Va hlt;go_wp2;go_ret;exact⟨rfl,bT⟩
end Go.Proofs.YtchcllcbknfikaaGreatDoor