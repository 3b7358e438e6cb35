/- Contracts and lemmas: TrI, TrJ, LcD, LinX, LcE, LcG, LcF, EqA, EqB, EqC, EqE, Base, EscA, TruF, OpT, OpD, Lat, TlA. -/
import Derived.Deep.Heap
import Derived.Test.YtchcllcbknfikaaGreatDoorTa5
set_option linter.unusedVariables false
set_option linter.unusedSimpArgs false
set_option maxRecDepth 100000
set_option maxHeartbeats 25600000
namespace Go.Proofs.YtchcllcbknfikaaGreatDoor
open Go.RowKit si
theorem Cr {s : ByteArray} (h : gU (aX s) = true) : 1 ≤ s.size := by
 rw [gU, bE] at h
 simp at h
 exact h.1.1
theorem GH {h : List Int} (hl : h.length = 32) (hb : aC h = true) {s : ByteArray} (hs0 : 1 ≤ s.size) (hs : s.size ≤ 1000) {item : It} (hf : fits 7 item) : fits 8 (.lst [.byt h, .byt (aX s), item]) := by
 refine ⟨by simp, fun x hx => ?_⟩
 rcases (by simpa using hx : x = .byt h ∨ x = .byt (aX s) ∨ x = item) with rfl | rfl | rfl
 · exact ⟨⟨by rw [hl]; decide, by rw [hl]; decide⟩, hb⟩
 · exact ⟨⟨by rw [bE]; omega, by rw [bE]; omega⟩, ja s⟩
 · exact hf
theorem ED {h : List Int} (hl : h.length = 32) (hb : aC h = true) {s : ByteArray} (hs0 : 1 ≤ s.size) (hs : s.size ≤ 1000) : fits 8 (.lst [.byt h, .byt (aX s)]) := by
 refine ⟨by simp, fun x hx => ?_⟩
 rcases (by simpa using hx : x = .byt h ∨ x = .byt (aX s)) with rfl | rfl
 · exact ⟨⟨by rw [hl]; decide, by rw [hl]; decide⟩, hb⟩
 · exact ⟨⟨by rw [bE]; omega, by rw [bE]; omega⟩, ja s⟩
theorem J4 {h : List Int} (hl : h.length = 32) {s : ByteArray} (hs : s.size ≤ 1000) {item : It} (hle : (enc item).length ≤ 14000) : (enc (.lst [.byt h, .byt (aX s), item])).length ≤ 16384 := by
 rw [fA]
 simp only [fG, iC, List.length_cons, List.length_append, dY, hl, bE, List.length_nil]
 omega
theorem GG {h : List Int} (hl : h.length = 32) {s : ByteArray} (hs : s.size ≤ 1000) : (enc (.lst [.byt h, .byt (aX s)])).length ≤ 16384 := by
 rw [fA]
 simp only [fG, iC, List.length_cons, List.length_append, dY, hl, bE, List.length_nil]
 omega
theorem BJ {P : Program} {S : World → Prop} {o : Oper} {a : Act} (t : TypeId) (l : List (Nat × Operand)) (ho : o.op = .build t l.toArray) (cells : Array Value)
  (hf : P.built t (l.map fun x => (x.1, a.eval x.2)) = some cells) : ∀ w, S w → (execOp a.eval o).run P w = .ok (.value (.agg cells)) w := by
 intro w _
 have e : (l.toArray.map fun (x : Nat × Operand) => (x.1, a.eval x.2)).toList = l.map fun x => (x.1, a.eval x.2) := by simp
 unfold execOp
 simp only [ho]
 have h := run_build w t (l.toArray.map fun (x : Nat × Operand) => (x.1, a.eval x.2)) cells (by rw [e]; exact hf)
 simp only [Sem.run_bind, h, Result.andThen_ok, Sem.run_pure]
theorem zk (h : List Int) (hl : Hid (h.length = 32)) (hb : Hid (aC h = true)) (c : Int) (hc0 : 0 ≤ c) (hc1 : c < 1000) (s : ByteArray) (hs : s.size ≤ 1000) (hr : Hid (gU (aX s) = true)) (item : It) (cI : Ic) (w : World) (hI : Hid (nV w item cI)) (hfi : Hid (fits 7 item)) (hle : Hid ((enc item).length ≤ 14000)) :
  Calls Tryz.prog 248 #[.agg (dx h c), .string s, .agg #[.int .i64 cI.kind, .int .i64 cI.n, .slice cI.B cI.nb cI.cb, .slice cI.L cI.nl cI.cl]] w (Rt w (yL (EZ h (aX s) item) (c + 1) 0)) := by
 have hs0 : 1 ≤ s.size := Cr hr.out
 obtain ⟨W, hW⟩ : ∃ W, ((w.alloc (.cells (dx h c) 237)).alloc (.cells #[.int .i64 cI.kind, .int .i64 cI.n, .slice cI.B cI.nb cI.cb, .slice cI.L cI.nl cI.cl] 117)).alloc (.cells #[.int .u8 0, .int .u8 0, .int .u8 0, .int .u8 0, .int .u8 0, .int .u8 0, .int .u8 0, .int .u8 0, .int .u8 0, .int .u8 0, .int .u8 0, .int .u8 0, .int .u8 0, .int .u8 0, .int .u8 0, .int .u8 0, .int .u8 0, .int .u8 0, .int .u8 0, .int .u8 0, .int .u8 0, .int .u8 0, .int .u8 0, .int .u8 0, .int .u8 0, .int .u8 0, .int .u8 0, .int .u8 0, .int .u8 0, .int .u8 0, .int .u8 0, .int .u8 0, .int .i64 0] 237) = W := ⟨_, rfl⟩
 have bT : Hid (Below w.heap.size w W) := aa (by rw [← hW]; exact ag (aJ (Below.refl _ _)) (af _ _))
 have HT0 : Hid (dM W w.heap.size h c) := aa (by rw [← hW]; exact ((dM.new _ _ _).below (af _ _)).below (af _ _))
 have YZ : Hid (W.heap[w.heap.size + 1]? = some (.cells #[.int .i64 cI.kind, .int .i64 cI.n, .slice cI.B cI.nb cI.cb, .slice cI.L cI.nl cI.cl] 117 (0, 0))) := aa (by rw [← hW, ← (show (w.alloc (.cells (dx h c) 237)).heap.size = w.heap.size + 1 by simp)]; exact heap_alloc2_old _ _ _)
 have eG : Hid (dM W (w.heap.size + 1 + 1) (dz 32) 0) := aa (by rw [← hW, Jf, show w.heap.size + 1 + 1 = (w.alloc (.cells (dx h c) 237)).heap.size + 1 by simp]; exact heap_alloc2_new _ _ _)
 have lu : Hid (W.heap.size = w.heap.size + 3) := aa (by rw [← hW]; simp)
 have YV := aa (hI.out.kept bT.out)
 have Vy : Hid (Four W (w.heap.size + 1) 0 cI) := aa (qp YZ.out)
 have HW := aa hW
 clear hW
 go_in
 go_upto_region 1 with (fail)
 rw [HW.out]
 clear HW
 go_wp2_with ((with_reducible show wpList _ _ _ (⟨some 10, _, _, _, _, _⟩ :: _) _ _); refine wpList_load_row rfl 237 _ rfl w.heap.size rfl _ _ _ _ HT0.out Tryz.underlying237 rfl (aP hl.out) ?_)
 refine (xJ h hl c hc0 (by omega) _).mono ?_
 rintro e w1 ⟨rfl, hb1⟩
 have HB1 := aa (ag bT.out hb1)
 have HT1 := aa (HT0.out.below hb1)
 have HI1 := aa (YV.out.kept hb1)
 have HR1 := aa (eG.out.below hb1)
 have HF1 := aa (Vy.out.below hb1)
 clear hb1 HT0 YV eG YZ bT Vy
 go_wp2_with fail
 refine (qg s hs true hr _).mono ?_
 rintro e w2 ⟨rfl, rfl⟩
 obtain ⟨f0, f1, f2, f3⟩ := HF1.out
 go_wp2_with ((with_reducible show wpList _ _ _ (⟨some 19, _, _, _, _, _⟩ :: _) _ _); refine wpList_load_row rfl 237 _ rfl w.heap.size rfl _ _ _ _ HT1.out Tryz.underlying237 rfl (aP hl.out) ?_)
 clear f0 f1 f2 f3
 obtain ⟨W3, hW3⟩ : ∃ u, w1.alloc (.cells #[.int .i64 cI.kind, .int .i64 cI.n, .slice cI.B cI.nb cI.cb, .slice cI.L cI.nl cI.cl] 117) = u := ⟨_, rfl⟩
 have Y7 : Hid (Four W3 w1.heap.size 0 cI) := aa (by rw [← hW3]; exact qp (heap_alloc_new _ _))
 have hb3 : Below w1.heap.size w1 W3 := by rw [← hW3]; exact af _ _
 rw [hW3]
 have HI3 := aa (HI1.out.kept hb3)
 refine (Pt h hl hb c s hs0 hs item cI w1.heap.size 1 W3 Y7 HI3).mono ?_
 rintro e w4 ⟨cf, rfl, hcf, hb4⟩
 have Kj := aa ((HT1.out.below hb3).below hb4)
 have HR4 := aa ((HR1.out.below hb3).below hb4)
 have kL := aa (ag (ag HB1.out hb3) hb4)
 have VY := aa hcf
 rw [show cf.val = .agg cf.cs from rfl]
 clear hb3 hb4 hW3 Y7 HI3 HT1 HR1 HB1 HF1 HI1 hcf
 go_upto_region 4 with ((with_reducible show wpList _ _ _ (⟨none, _, _, _, _, _⟩ :: _) _ _); refine wpList_store_row rfl 117 _ _ rfl w4.heap.size cf.cs rfl rfl _ _ (heap_alloc_new _ _) (cK _) rfl (jy _) ?_)
 rw [World.setRow_alloc_new]
 try simp only [Act.put]
 have E9 : Hid ((w4.alloc (.cells cf.cs 117)).heap[w4.heap.size]? = some (.cells cf.cs 117 (0, 0))) := aa (heap_alloc_new _ _)
 have OB := aa (Kj.out.below (af w4 (.cells cf.cs 117)))
 have uH := aa (HR4.out.below (af w4 (.cells cf.cs 117)))
 have jZ := aa (ag kL.out (af w4 (.cells cf.cs 117)))
 have Q7 := aa (VY.out.kept (af w4 (.cells cf.cs 117)))
 have ZJ : Hid (w4.heap.size < (w4.alloc (.cells cf.cs 117)).heap.size) := aa (by simp)
 obtain ⟨W5, M8⟩ : ∃ u, w4.alloc (.cells cf.cs 117) = u := ⟨_, rfl⟩
 rw [M8] at E9 OB uH jZ Q7 ZJ ⊢
 clear M8 Kj HR4 kL VY
 obtain ⟨bt, hbt⟩ : ∃ b, w4.heap.size = b := ⟨_, rfl⟩
 rw [hbt] at E9 ZJ ⊢
 clear hbt
 go_wp2_with ((with_reducible show wpList _ _ _ (⟨some 24, _, _, _, _, _⟩ :: _) _ _); refine wpList_load_row rfl 117 _ rfl bt rfl _ _ _ _ E9.out Tryz.underlying117 rfl (cK _) ?_)
 have jQ : Hid (fits 8 (.lst [.byt h, .byt (aX s), item])) := aa (GH hl.out hb.out hs0 hs hfi.out)
 have HLEN : Hid ((enc (.lst [.byt h, .byt (aX s), item])).length ≤ 16384) := aa (J4 hl.out hs hle.out)
 rw [show (Value.agg cf.cs) = cf.val from rfl]
 refine (BS _ cf _ jQ.out Q7.out).mono ?_
 rintro e w6 ⟨rfl, hb6⟩
 have AO := aa (OB.out.below hb6)
 have Oh := aa (uH.out.below hb6)
 have m_ := aa (ag jZ.out hb6)
 have HC6 := aa (Q7.out.kept hb6)
 have ZW := aa ((hb6.block _ ZJ.out).trans E9.out)
 clear hb6 OB uH jZ Q7 E9 ZJ
 rw [show cf.val = .agg cf.cs from rfl]
 go_wp2_with ((with_reducible show wpList _ _ _ (⟨some 28, _, _, _, _, _⟩ :: _) _ _); refine wpList_load_row rfl 117 _ rfl bt rfl _ _ _ _ ZW.out Tryz.underlying117 rfl (cK _) ?_)
 rw [show (Value.agg cf.cs) = cf.val from rfl]
 refine (u_ 8 _ cf _ jQ.out HC6.out HLEN.out).mono ?_
 rintro e w7 ⟨v7, rfl, Gm, Dn⟩
 obtain ⟨E, hE⟩ : ∃ E, enc (.lst [.byt h, .byt (aX s), item]) = E := ⟨_, rfl⟩
 have Kr : Hid (aC E = true) := aa (by rw [← hE]; exact kz jQ.out)
 have wH : Hid (0 < E.length ∧ E.length ≤ 16384) := aa (by rw [← hE]; exact ⟨oD _, HLEN.out⟩)
 rw [hE] at Gm
 obtain ⟨g7, CP, e7, hg7, -, -, Xd⟩ := Gm.cells wH.out.1
 obtain ⟨n7, hn7⟩ : ∃ n, E.length = n := ⟨_, rfl⟩
 rw [hn7] at e7 wH
 subst e7
 have HN7 := aa hn7
 have OE := aa Xd
 have Yp := aa (AO.out.below Dn)
 have Vh := aa (Oh.out.below Dn)
 have uo := aa (ag m_.out Dn)
 have Hz : Kp (enc (.lst [.byt h, .byt (aX s), item]) = E) := ⟨hE⟩
 clear hE Xd Gm Dn hn7 jQ HLEN AO Oh m_ HC6 ZW
 rw [show cf.val = .agg cf.cs from rfl]
 obtain ⟨he0, he1⟩ := wH.out
 have hcn : ¬ (c = 1000) := by omega
 have hwr : IntKind.i64.wrap (c + 1) = c + 1 := IntWalk.i64_in _ (by omega)
 have hnb : decide ((16384 : Int) < (n7 : Int)) = false := by simp; omega
 have hcnt := Yp.out.count hl.out
 go_wp2_with fail
 clear hcnt
 refine bJ (S := fun w' => w'.cell? ⟨w.heap.size, 32, none⟩ = some (.int .i64 c)) (E := [6, 7]) (by kernel_rfl) (((Yp.out.below (Below.refl _ _).drew)).count hl.out) (fun hHeld => ?_)
 refine bQ 0 ?_
 refine bQ 2 ?_
 refine bQ 3 ?_
 refine bQ 4 ?_
 refine bY 1 fun K hK => ?_
 go_simp
 refine (lJ DL (by decide) (by decide) g7 0 CP E n7 HN7 he0 (by omega) Kr _ (aa (OE.out.below (Below.refl _ _).drew))).mono ?_
 rintro e w8 ⟨rfl, VM⟩
 have OG := aa ((Vh.out.below (Below.refl _ _).drew).below VM)
 have HT8 := aa ((Yp.out.below (Below.refl _ _).drew).below VM)
 have qP := aa (ag (ag uo.out (Below.refl _ _).drew) VM)
 obtain ⟨R, hR⟩ : ∃ R, tagged (aX DL) E = R := ⟨_, rfl⟩
 have hRl : R.length = 32 := by rw [← hR]; exact dF _ _
 have OH : Kp (EZ h (aX s) item = R) := ⟨by rw [EZ, Hz.1]; exact hR⟩
 have fI := aa hRl
 rw [hR]
 clear hR hRl
 refine hK.out _ _ ?_ (fun hHeld => ?_)
 · exact HT8.out.count hl.out
 clear hK K
 try simp only [qq]
 refine Ad 5 (.agg (dx R (c + 1))) rfl (BJ 237 _ rfl _ (NR R fI.out (c + 1))) ?_
 refine mR 6 fun K hK => ?_
 rw [show (if Region.wanted _ _ = true then _ else _ : Prop) = _ from if_pos rfl]
 refine wp_store_row 237 _ _ rfl (w.heap.size + 1 + 1) (dx R (c + 1)) rfl rfl 237 _ OG.out (aP fI.out) (fJ rfl fI.out) (dX _ _) ?_
 refine hK.out _ _ ?_
 clear hK K
 try simp only [qq]
 refine mR 7 fun K hK => ?_
 go_simp
 refine hK.out _ _ ?_
 clear hK K
 try simp only [qq]
 refine gH ?_
 have HRR : Hid (dM (w8.setRow (w.heap.size + 1 + 1) (dx R (c + 1))) (w.heap.size + 1 + 1) R (c + 1)) := aa OG.out.setRow
 have fM : Below w.heap.size w (w8.setRow (w.heap.size + 1 + 1) (dx R (c + 1))) := ai qP.out (by omega)
 go_wp2
 exact bodyPost_ret (v := yL R (c + 1) 0) (aQ (p := 6) (q := 7) (ty := 237) rfl _ _ ⟨w.heap.size + 1 + 1, 0, none⟩ _ _ rfl rfl (run_loadVar_row _ _ _ _ _ _ _ HRR.out Tryz.underlying237 rfl (aP fI.out))) rfl ⟨by rw [OH.1], fM⟩
theorem LG (h : List Int) (hl : Hid (h.length = 32)) (hb : Hid (aC h = true)) (c : Int) (hc0 : 0 ≤ c) (hc1 : c < 1000) (s : ByteArray) (hs : s.size ≤ 1000) (hr : Hid (gU (aX s) = true)) (A : Option Addr) (l : List Int) (n cA : Nat) (hn : Hid (l.length = n)) (hbig : n ≤ 1000) (w : World) (hS : Hid (Sl w A l)) (hfi : Hid (fits 7 (.lst (l.map .int)))) (hle : Hid ((enc (.lst (l.map .int))).length ≤ 14000)) :
  Calls Tryz.prog 230 #[.agg (dx h c), .string s, .slice A n cA] w (Rt w (yL (EZ h (aX s) (.lst (l.map .int))) (c + 1) 0)) := by
 obtain ⟨W, hW⟩ : ∃ W, (w.alloc (.cells (dx h c) 237)).alloc (.cells #[.int .u8 0, .int .u8 0, .int .u8 0, .int .u8 0, .int .u8 0, .int .u8 0, .int .u8 0, .int .u8 0, .int .u8 0, .int .u8 0, .int .u8 0, .int .u8 0, .int .u8 0, .int .u8 0, .int .u8 0, .int .u8 0, .int .u8 0, .int .u8 0, .int .u8 0, .int .u8 0, .int .u8 0, .int .u8 0, .int .u8 0, .int .u8 0, .int .u8 0, .int .u8 0, .int .u8 0, .int .u8 0, .int .u8 0, .int .u8 0, .int .u8 0, .int .u8 0, .int .i64 0] 237) = W := ⟨_, rfl⟩
 have bT : Hid (Below w.heap.size w W) := aa (by rw [← hW]; exact aJ (Below.refl _ _))
 have HT0 : Hid (dM W w.heap.size h c) := aa (by rw [← hW]; exact heap_alloc2_old _ _ _)
 have eG : Hid (dM W (w.heap.size + 1) (dz 32) 0) := aa (by rw [← hW, Jf]; exact heap_alloc2_new _ _ _)
 have Va := aa (hS.out.below bT.out)
 have HW := aa hW
 clear hW
 go_in
 go_upto_region 1 with (fail)
 rw [HW.out]
 clear HW
 have o7 := aa ((Below.refl W.heap.size W).drew)
 have AL := aa (HT0.out.below o7.out)
 have YI := aa (eG.out.below o7.out)
 have Yw := aa (Va.out.below o7.out)
 have HB3 := aa (ag bT.out o7.out)
 obtain ⟨Wd, hWd⟩ : ∃ u, W.drew = u := ⟨_, rfl⟩
 refine bJ (S := fun w' => w'.heap[w.heap.size]? = some (.cells (dx h c) 237 (0, 0))) (E := [7, 8]) (by kernel_rfl) (AL.out) (fun hHeld => ?_)
 refine Ad 0 (.agg (dx h c)) rfl (fZ 237 _ rfl w.heap.size rfl _ _ _ _ (fun _ h => h) Tryz.underlying237 rfl (aP hl.out)) ?_
 refine bQ 1 ?_
 refine bQ 2 ?_
 refine bY 3 fun K hK => ?_
 go_simp
 try rw [hWd]
 rw [hWd] at o7 AL YI Yw HB3
 refine (Jv A l n cA hn (by omega) _ Yw).mono ?_
 rintro e w4 ⟨cI, rfl, Qh, hb4⟩
 refine hK.out _ _ ?_ (fun hHeld => ?_)
 · exact AL.out.below hb4
 clear hK K
 try simp only [qq]
 refine bY 4 fun K hK => ?_
 go_simp
 rw [show cI.val = (.agg #[.int .i64 cI.kind, .int .i64 cI.n, .slice cI.B cI.nb cI.cb, .slice cI.L cI.nl cI.cl] : Value) from rfl]
 refine (zk h hl hb c hc0 hc1 s hs hr _ cI _ (aa Qh) hfi hle).mono ?_
 rintro e w5 ⟨rfl, hb5⟩
 have uH := aa ((YI.out.below hb4).below hb5)
 have jZ := aa (ag (ag HB3.out hb4) hb5)
 obtain ⟨R, hR⟩ : ∃ R, EZ h (aX s) (.lst (l.map .int)) = R := ⟨_, rfl⟩
 have hRl : R.length = 32 := by rw [← hR]; exact oF _ _ _
 have HN : Kp (EZ h (aX s) (.lst (l.map .int)) = R) := ⟨hR⟩
 have fI := aa hRl
 rw [hR, show yL R (c + 1) 0 = .tuple #[.agg (dx R (c + 1)), .int .i64 0] from rfl]
 refine hK.out _ _ ?_ (fun hHeld => ?_)
 · exact (AL.out.below hb4).below hb5
 clear hK K
 try simp only [qq]
 refine bQ 5 ?_
 refine bQ 6 ?_
 refine mR 7 fun K hK => ?_
 rw [show (if Region.wanted _ _ = true then _ else _ : Prop) = _ from if_pos rfl]
 refine wp_store_row 237 _ _ rfl (w.heap.size + 1) (dx R (c + 1)) rfl rfl 237 _ uH.out (aP fI.out) (fJ rfl fI.out) (dX _ _) ?_
 refine hK.out _ _ ?_
 clear hK K
 try simp only [qq]
 refine mR 8 fun K hK => ?_
 go_simp
 refine hK.out _ _ ?_
 clear hK K
 try simp only [qq]
 refine gH ?_
 have HRR : Hid (dM (w5.setRow (w.heap.size + 1) (dx R (c + 1))) (w.heap.size + 1) R (c + 1)) := aa uH.out.setRow
 have fM : Below w.heap.size w (w5.setRow (w.heap.size + 1) (dx R (c + 1))) := ai jZ.out (by omega)
 clear hR hRl hb4 hb5 Qh jZ uH hWd
 go_wp2
 exact bodyPost_ret (v := yL R (c + 1) 0) (aQ (p := 6) (q := 7) (ty := 237) rfl _ _ ⟨w.heap.size + 1, 0, none⟩ _ _ rfl rfl (run_loadVar_row _ _ _ _ _ _ _ HRR.out Tryz.underlying237 rfl (aP fI.out))) rfl ⟨by rw [HN.out], fM⟩
theorem LM (h : List Int) (hl : Hid (h.length = 32)) (hb : Hid (aC h = true)) (c : Int) (hc0 : 0 ≤ c) (hc1 : c < 1000) (s : ByteArray) (hs : s.size ≤ 1000) (hr : Hid (gU (aX s) = true)) (q : Int) (hq1 : 2 ≤ q) (hq2 : q < 2305843009213693952) (w : World) :
  Calls Tryz.prog 231 #[.agg (dx h c), .string s, .int .i64 q] w (Rt w (V4 (RQ q h (aX s)) (c + 1) (BA q h (aX s)) 0)) := by
 have hs0 : 1 ≤ s.size := Cr hr.out
 obtain ⟨W, hW⟩ : ∃ W, (w.alloc (.cells (dx h c) 237)).alloc (.cells #[.int .u8 0, .int .u8 0, .int .u8 0, .int .u8 0, .int .u8 0, .int .u8 0, .int .u8 0, .int .u8 0, .int .u8 0, .int .u8 0, .int .u8 0, .int .u8 0, .int .u8 0, .int .u8 0, .int .u8 0, .int .u8 0, .int .u8 0, .int .u8 0, .int .u8 0, .int .u8 0, .int .u8 0, .int .u8 0, .int .u8 0, .int .u8 0, .int .u8 0, .int .u8 0, .int .u8 0, .int .u8 0, .int .u8 0, .int .u8 0, .int .u8 0, .int .u8 0, .int .i64 0] 237) = W := ⟨_, rfl⟩
 have bT : Hid (Below w.heap.size w W) := aa (by rw [← hW]; exact aJ (Below.refl _ _))
 have HT0 : Hid (dM W w.heap.size h c) := aa (by rw [← hW]; exact heap_alloc2_old _ _ _)
 have eG : Hid (dM W (w.heap.size + 1) (dz 32) 0) := aa (by rw [← hW, Jf]; exact heap_alloc2_new _ _ _)
 have HW := aa hW
 have hcn : ¬ (c = 1000) := by omega
 have hqa : ¬ (q < 2) := by omega
 have hqb : ¬ (2305843009213693952 ≤ q) := by omega
 clear hW
 go_in
 go_upto_region 1 with (fail)
 rw [HW.out]
 clear HW
 go_wp2_with ((with_reducible show wpList _ _ _ (⟨some 12, _, _, _, _, _⟩ :: _) _ _); refine wpList_load_row rfl 237 _ rfl w.heap.size rfl _ _ _ _ HT0.out Tryz.underlying237 rfl (aP hl.out) ?_)
 refine (xJ h hl c hc0 (by omega) _).mono ?_
 rintro e w1 ⟨rfl, hb1⟩
 have HB1 := aa (ag bT.out hb1)
 have HT1 := aa (HT0.out.below hb1)
 have HR1 := aa (eG.out.below hb1)
 clear hb1 HT0 eG bT
 go_wp2_with fail
 refine (qg s hs true hr _).mono ?_
 rintro e w2 ⟨rfl, rfl⟩
 have hcnt := HT1.out.count hl.out
 go_wp2_with ((with_reducible show wpList _ _ _ (⟨some 32, _, _, _, _, _⟩ :: _) _ _); refine wpList_load_row rfl 237 _ rfl w.heap.size rfl _ _ _ _ HT1.out Tryz.underlying237 rfl (aP hl.out) ?_)
 clear hcnt
 refine (Pv h hl hb c s hs0 hs _).mono ?_
 rintro e w2 ⟨cf, rfl, hcf, hb2⟩
 have jQ : Hid (fits 8 (.lst [.byt h, .byt (aX s)])) := aa (ED hl.out hb.out hs0 hs)
 have HLEN : Hid ((enc (.lst [.byt h, .byt (aX s)])).length ≤ 16384) := aa (GG hl.out hs)
 have HT2 := aa (HT1.out.below hb2)
 have HR2 := aa (HR1.out.below hb2)
 have HB2 := aa (ag HB1.out hb2)
 have BI := aa hcf
 rw [show cf.val = .agg cf.cs from rfl]
 clear hb2 HT1 HR1 HB1 hcf
 go_wp2_with fail
 rw [show (Value.agg cf.cs) = cf.val from rfl]
 refine (u_ 8 _ cf _ jQ.out BI.out HLEN.out).mono ?_
 rintro e w3 ⟨v3, rfl, ho3, hb3⟩
 obtain ⟨E, hE⟩ : ∃ E, enc (.lst [.byt h, .byt (aX s)]) = E := ⟨_, rfl⟩
 have Kr : Hid (aC E = true) := aa (by rw [← hE]; exact kz jQ.out)
 have wH : Hid (0 < E.length ∧ E.length ≤ 16384) := aa (by rw [← hE]; exact ⟨oD _, HLEN.out⟩)
 rw [hE] at ho3
 obtain ⟨g3, nU, e3, hg3, -, -, P_⟩ := ho3.cells wH.out.1
 obtain ⟨n3, hn3⟩ : ∃ n, E.length = n := ⟨_, rfl⟩
 rw [hn3] at e3 wH
 subst e3
 have HN3 := aa hn3
 have QT := aa P_
 have HT3 := aa (HT2.out.below hb3)
 have HR3 := aa (HR2.out.below hb3)
 have HB3 := aa (ag HB2.out hb3)
 have Hz : Kp (enc (.lst [.byt h, .byt (aX s)]) = E) := ⟨hE⟩
 clear hE P_ ho3 hb3 hn3 jQ HLEN HT2 HR2 HB2 BI
 rw [show cf.val = .agg cf.cs from rfl]
 obtain ⟨he0, he1⟩ := wH.out
 go_wp2_with fail
 refine (lJ DK (by decide) (by decide) g3 0 nU E n3 HN3 he0 (by omega) Kr _ QT).mono ?_
 rintro e w4 ⟨rfl, hb4⟩
 have Kj := aa (HT3.out.below hb4)
 have HR4 := aa (HR3.out.below hb4)
 have kL := aa (ag HB3.out hb4)
 obtain ⟨R, hR⟩ : ∃ R, tagged (aX DK) E = R := ⟨_, rfl⟩
 have hRl : R.length = 32 := by rw [← hR]; exact dF _ _
 have Hq : Hid (aC R = true) := aa (by rw [← hR]; exact iU _)
 have HN : Kp (XT h (aX s) = R) := ⟨by rw [XT, Hz.1]; exact hR⟩
 have fI := aa hRl
 rw [hR]
 clear hb4 hR hRl HT3 HR3 HB3
 go_wp2_with fail
 refine (D5 R fI Hq q (by omega) hq2 _).mono ?_
 rintro e w6 ⟨rfl, hb6⟩
 have AO := aa (Kj.out.below hb6)
 have Oh := aa (HR4.out.below hb6)
 have m_ := aa (ag kL.out hb6)
 obtain ⟨n, hn⟩ : ∃ n, Ga q R = n := ⟨_, rfl⟩
 have hn0 : 0 ≤ n ∧ n < q := by rw [← hn]; exact yF (by omega) 16
 obtain ⟨hn1, hn2⟩ := hn0
 have OH : Kp (BA q h (aX s) = n) := ⟨by rw [BA, HN.1]; exact hn⟩
 rw [hn]
 clear hb6 hn Kj HR4 kL
 go_wp2_with ((with_reducible show wpList _ _ _ (⟨some 40, _, _, _, _, _⟩ :: _) _ _); refine wpList_load_row rfl 237 _ rfl w.heap.size rfl _ _ _ _ AO.out Tryz.underlying237 rfl (aP hl.out) ?_)
 refine (zk h hl hb c hc0 hc1 s hs hr (.int n) ⟨1, n, none, 0, 0, none, 0, 0⟩ _ (aa (.int n _ rfl rfl rfl rfl)) (aa ⟨by omega, by omega⟩) (aa (by rw [mK, List.length_cons, fV]; decide))).mono ?_
 rintro e w7 ⟨rfl, Dn⟩
 have Vh := aa (Oh.out.below Dn)
 have uo := aa (ag m_.out Dn)
 obtain ⟨G, hG⟩ : ∃ G, EZ h (aX s) (.int n) = G := ⟨_, rfl⟩
 have Ko : Hid (G.length = 32) := aa (by rw [← hG]; exact oF _ _ _)
 have HNG : Kp (RQ q h (aX s) = G) := ⟨by rw [RQ, OH.1]; exact hG⟩
 rw [hG, show yL G (c + 1) 0 = .tuple #[.agg (dx G (c + 1)), .int .i64 0] from rfl]
 clear Dn hG Oh m_ AO
 go_upto_region 9 with ((with_reducible show wpList _ _ _ (⟨none, _, _, _, _, _⟩ :: _) _ _); refine wpList_store_row rfl 237 _ _ rfl w7.heap.size (dx G (c + 1)) rfl rfl _ _ (heap_alloc_new _ _) (aP Ko.out) (fJ (h := dz 32) (c := 0) rfl Ko.out) (dX _ _) ?_)
 rw [World.setRow_alloc_new]
 try simp only [Act.put]
 have YT : Hid (dM (w7.alloc (.cells (dx G (c + 1)) 237)) w7.heap.size G (c + 1)) := aa (dM.new _ _ _)
 have OG := aa (Vh.out.below (af w7 (.cells (dx G (c + 1)) 237)))
 have qP := aa (ag uo.out (af w7 (.cells (dx G (c + 1)) 237)))
 obtain ⟨W8, Rz⟩ : ∃ u, w7.alloc (.cells (dx G (c + 1)) 237) = u := ⟨_, rfl⟩
 rw [Rz] at YT OG qP ⊢
 clear Rz Vh uo
 go_wp2_with (first
  | ((with_reducible show wpList _ _ _ (⟨some 47, _, _, _, _, _⟩ :: _) _ _); refine wpList_load_row rfl 237 _ rfl w7.heap.size rfl _ _ _ _ YT.out Tryz.underlying237 rfl (aP Ko.out) ?_)
  | ((with_reducible show wpList _ _ _ (⟨none, _, _, _, _, _⟩ :: _) _ _); refine wpList_store_row rfl 237 _ _ rfl (w.heap.size + 1) (dx G (c + 1)) rfl rfl _ _ OG.out (aP Ko.out) (fJ rfl Ko.out) (dX _ _) ?_))
 have HRR : Hid (dM (W8.setRow (w.heap.size + 1) (dx G (c + 1))) (w.heap.size + 1) G (c + 1)) := aa OG.out.setRow
 have fM : Below w.heap.size w (W8.setRow (w.heap.size + 1) (dx G (c + 1))) := ai qP.out (by omega)
 exact bodyPost_ret (v := V4 G (c + 1) n 0) (iB (p := 6) (q := 7) (r := 8) (ty := 237) rfl _ _ ⟨w.heap.size + 1, 0, none⟩ _ _ _ rfl rfl rfl (run_loadVar_row _ _ _ _ _ _ _ HRR.out Tryz.underlying237 rfl (aP Ko.out))) rfl ⟨by rw [HNG.out, OH.out], fM⟩
def Yf (W : World) (a : Nat) (h : List Int) (c : Int) (u : World) : Prop := dM u a h c ∧ Below W.heap.size W u
theorem Yf.step {W : World} {a : Nat} {h h' : List Int} {c c' : Int} {u u' : World} (hI : Yf W a h c u) (hb : Below u.heap.size u u') (hWa : W.heap.size ≤ a) : Yf W a h' c' (u'.setRow a (dx h' c')) :=
 ⟨(hI.1.below hb).setRow, ai (ag hI.2 hb) hWa⟩
theorem uY (W : World) (a : Nat) (h : List Int) (hst : Hid (tH h)) (c : Int) (hc0 : 0 ≤ c) (hc1 : c < 1000) (s : ByteArray) (hs : s.size ≤ 1000) (hr : Hid (gU (aX s) = true)) (A : Option Addr) (l : List Int) (n cA : Nat) (hn : Hid (l.length = n)) (hok : Hid (uy l)) (u : World) (hS : Hid (Sl u A l)) :
  Calls Tryz.prog 230 #[.agg (dx h c), .string s, .slice A n cA] u fun e u' => e = .returned (yL (iJ h (aX s) l) (c + 1) 0) ∧ Below u.heap.size u u' :=
 LG h (aa hst.out.1) (aa hst.out.2) c hc0 hc1 s hs hr A l n cA hn (by rw [← hn.out]; exact hok.out.1) u hS hok.out.fits hok.out.len
theorem FX (P Q G : Int) (Y : Option Addr) (ys : List Int) (yn yc : Nat) (B : Option Addr) (rows : List Row) (bn bc : Nat) (A : Option Addr) (al : List Int) (na ca : Nat) (s : ByteArray) (hs : s.size ≤ 1000) (hr : Hid (gU (aX s) = true))
  (hyn : Hid (ys.length = yn)) (hbn : Hid (rows.length = bn)) (hna : Hid (al.length = na)) (xu : bn ≤ 900) (L_ : Hid (uy [P, Q, G])) (L8 : Hid (uy ys)) (Ma : Hid (uy al)) (L9 : Hid (∀ k, k < rows.length → uy (rows.getD k di).xs))
  (RD : 2 ≤ Q) (RB : Q < 2305843009213693952) (V : Int) (hV : Kp (zO P Q G (aX s) ys rows al = V)) (w : World) (hY : Hid (Sl w Y ys)) (hB : Hid (Rw w B rows)) (hA : Hid (Sl w A al)) :
  Calls Tryz.prog 207 #[gv P Q G, .agg #[.slice Y yn yc, .slice B bn bc], .string s, .slice A na ca] w (Rt w (.int .i64 V)) := by
 obtain ⟨W, hW⟩ : ∃ W, (w.alloc (bq P Q G)).alloc (.cells #[.slice Y yn yc, .slice B bn bc] 189) = W := ⟨_, rfl⟩
 have bT : Hid (Below w.heap.size w W) := aa (by rw [← hW]; exact aJ (Below.refl _ _))
 have Vw : Hid (oV W w.heap.size P Q G) := aa (by rw [← hW]; exact (a_ w P Q G).below (af _ _))
 have Vg : Hid (qD W (w.heap.size + 1) (.slice Y yn yc) (.slice B bn bc)) := aa (by rw [← hW]; exact dR w _ _ _ _)
 have HYY := aa (hY.out.below bT.out)
 have Fx := aa (hB.out.below bT.out)
 have HAA := aa (hA.out.below bT.out)
 have HW := aa hW
 clear hW hY hB hA
 go_in
 go_upto_region 1 with (fail)
 rw [HW.out]
 clear HW
 go_wp2_with fail
 refine (Lx s hs (Cr hr.out) _).mono ?_
 rintro e w1 ⟨rfl, hb1⟩
 obtain ⟨S0, hS0⟩ : ∃ S, newL (aX s) = S := ⟨_, rfl⟩
 have KI : Hid (tH S0) := aa (by rw [← hS0]; exact K4 _)
 have pQ : Kp (BA Q (iJ (iA (iJ (iJ S0 (aX mH) [P, Q, G]) (aX Mk) ys) rows) (aX eF) al) (aX qR) = V) := ⟨by rw [← hS0]; exact hV.1⟩
 rw [hS0]
 have Fw := aa KI.out.1
 have HB1 := aa hb1
 clear hb1 hS0 hV
 go_upto_region 2 with ((with_reducible show wpList _ _ _ (⟨none, _, _, _, _, _⟩ :: _) _ _); refine wpList_store_row rfl 237 _ _ rfl w1.heap.size (dx S0 0) rfl rfl _ _ (heap_alloc_new _ _) (aP Fw.out) (fJ (h := dz 32) (c := 0) rfl Fw.out) (dX _ _) ?_)
 rw [World.setRow_alloc_new]
 try simp only [Act.put]
 have hI2 : Yf W w1.heap.size S0 0 (w1.alloc (.cells (dx S0 0) 237)) := ⟨dM.new _ _ _, ag HB1.out (af _ _)⟩
 obtain ⟨W2, hW2⟩ : ∃ u, w1.alloc (.cells (dx S0 0) 237) = u := ⟨_, rfl⟩
 obtain ⟨a, ha⟩ : ∃ a, w1.heap.size = a := ⟨_, rfl⟩
 have hWa : W.heap.size ≤ a := by rw [← ha]; exact HB1.out.size
 rw [hW2] at hI2 ⊢
 rw [ha] at hI2 ⊢
 have HI2 := aa hI2
 clear hW2 hI2 ha HB1
 have HT2 := aa HI2.out.1
 obtain ⟨c0, c1, c2⟩ := Vw.out.below HI2.out.2
 go_wp2_with ((with_reducible show wpList _ _ _ (⟨some 17, _, _, _, _, _⟩ :: _) _ _); refine wpList_load_row rfl 237 _ rfl a rfl _ _ _ _ HT2.out Tryz.underlying237 rfl (aP Fw.out) ?_)
 refine (uY W a S0 KI 0 (by omega) (by omega) mH (by decide) Em (some ⟨W2.heap.size, 0, none⟩) [P, Q, G] 3 3 (aa rfl) L_ _ (aa (iM (I1 W2 _ P Q G)))).mono ?_
 rintro e w3 ⟨rfl, hb3⟩
 obtain ⟨S1, hS1⟩ : ∃ S, iJ S0 (aX mH) [P, Q, G] = S := ⟨_, rfl⟩
 have ZQ : Hid (tH S1) := aa (by rw [← hS1]; exact rA _ _ _)
 have qF : Kp (BA Q (iJ (iA (iJ S1 (aX Mk) ys) rows) (aX eF) al) (aX qR) = V) := ⟨by rw [← hS1]; exact pQ.1⟩
 rw [hS1, show yL S1 (0 + 1) 0 = .tuple #[.agg (dx S1 1), .int .i64 0] from rfl]
 have Uq := ag (af W2 (.cells #[.int .i64 P, .int .i64 Q, .int .i64 G] 3)) hb3
 have HT3 := aa (HI2.out.1.below Uq)
 have KJ := aa ZQ.out.1
 have HI3 := aa (HI2.out.step (h' := S1) (c' := 1) Uq hWa)
 clear hb3 Uq hS1 pQ c0 c1 c2 HI2 HT2
 go_upto_region 3 with ((with_reducible show wpList _ _ _ (⟨none, _, _, _, _, _⟩ :: _) _ _); refine wpList_store_row rfl 237 _ _ rfl a (dx S1 1) rfl rfl _ _ HT3.out (aP KJ.out) (fJ Fw.out KJ.out) (dX _ _) ?_)
 obtain ⟨W3, hW3⟩ : ∃ u, w3.setRow a (dx S1 1) = u := ⟨_, rfl⟩
 rw [hW3] at HI3 ⊢
 clear hW3 HT3
 have HT3 := aa HI3.out.1
 obtain ⟨d0, d1⟩ := Vg.out.below HI3.out.2
 go_wp2_with ((with_reducible show wpList _ _ _ (⟨some 29, _, _, _, _, _⟩ :: _) _ _); refine wpList_load_row rfl 237 _ rfl a rfl _ _ _ _ HT3.out Tryz.underlying237 rfl (aP KJ.out) ?_)
 refine (uY W a S1 ZQ 1 (by omega) (by omega) Mk (by decide) WO Y ys yn yc hyn L8 _ (aa (HYY.out.below HI3.out.2))).mono ?_
 rintro e w4 ⟨rfl, hb4⟩
 obtain ⟨S2, hS2⟩ : ∃ S, iJ S1 (aX Mk) ys = S := ⟨_, rfl⟩
 have HS2 : Hid (tH S2) := aa (by rw [← hS2]; exact rA _ _ _)
 have yw : Kp (BA Q (iJ (iA S2 rows) (aX eF) al) (aX qR) = V) := ⟨by rw [← hS2]; exact qF.1⟩
 rw [hS2, show yL S2 (1 + 1) 0 = .tuple #[.agg (dx S2 2), .int .i64 0] from rfl]
 have Kj := aa (HI3.out.1.below hb4)
 have HL2 := aa HS2.out.1
 have HI4 := aa (HI3.out.step (h' := S2) (c' := 2) hb4 hWa)
 clear hb4 hS2 qF d0 d1 HI3 HT3
 go_upto_region 4 with ((with_reducible show wpList _ _ _ (⟨none, _, _, _, _, _⟩ :: _) _ _); refine wpList_store_row rfl 237 _ _ rfl a (dx S2 2) rfl rfl _ _ Kj.out (aP HL2.out) (fJ KJ.out HL2.out) (dX _ _) ?_)
 obtain ⟨W4, hW4⟩ : ∃ u, w4.setRow a (dx S2 2) = u := ⟨_, rfl⟩
 rw [hW4] at HI4 ⊢
 clear hW4 Kj
 obtain ⟨S3, Uv⟩ : ∃ S, iA S2 rows = S := ⟨_, rfl⟩
 have HR3 : Kp (iA S2 (rows.drop 0) = S3) := ⟨Uv⟩
 have yu : Kp (BA Q (iJ S3 (aX eF) al) (aX qR) = V) := ⟨by rw [← Uv]; exact yw.1⟩
 clear Uv yw
 go_wp2_with fail
 go_loopw [10] (fun i u => ∃ (k : Nat) (S : List Int) (c : Int), k ≤ bn ∧ i = .int .i64 k ∧ Hid (c = 2 + (k : Int)) ∧ Hid (tH S) ∧ Kp (iA S (rows.drop k) = S3) ∧ Hid (Yf W a S c u)) (fun i _ => bn - (intOf i).toNat)
 case atStart => exact ⟨0, S2, 2, by omega, rfl, aa (by simp), HS2, HR3, HI4⟩
 case round =>
  obtain ⟨k, S, c, hk, rfl, HC, HS, HR, HI⟩ := hrel
  have hcl : 0 ≤ c ∧ c < 1000 := by have := HC.out; omega
  obtain ⟨hcl0, Xo⟩ := hcl
  obtain ⟨c2, hc2⟩ : ∃ x, c + 1 = x := ⟨_, rfl⟩
  have BI : Hid (c + 1 = c2) := aa hc2
  clear hc2
  obtain ⟨d0, d1⟩ := Vg.out.below HI.out.2
  have HL := aa HS.out.1
  by_cases hlt : k < bn
  ·
   have hkl : k < rows.length := by rw [hbn.out]; exact hlt
   obtain ⟨⟨b, o, hA, hi0⟩, hok⟩ := Fx.out.below HI.out.2 k hkl
   subst hA
   have Hg := Kp.mk ((xQ (h := S) hkl).symm.trans HR.1)
   have lW := aa (L9.out k hkl)
   obtain ⟨R, hR⟩ : ∃ R, rows.getD k di = R := ⟨_, rfl⟩
   rw [hR] at hi0 hok Hg lW
   obtain ⟨p, rn, rc, xs⟩ := R
   have HXL := aa hok.1
   have HX := aa hok.2
   dsimp only [Row.val] at hi0 Hg lW
   have ZK := aa HI.out.1
   clear hR hok hkl
   go_wp2_with fail
   have AL := aa (ZK.out.below (Below.refl _ _).drew)
   have hS0 : wr.drew.heap[a]? = some (.cells (dx S c) 237 (0, 0)) ∧ wr.drew.cell? ⟨w.heap.size + 1, 0, none⟩ = some (.slice Y yn yc) ∧ wr.drew.cell? ⟨w.heap.size + 1, 1, none⟩ = some (.slice (some ⟨b, o, none⟩) bn bc) ∧ wr.drew.cell? ⟨b, o + k, none⟩ = some (.slice p rn rc) := ⟨AL.out, d0, d1, hi0⟩
   refine bJ (S := fun w' => w'.heap[a]? = some (.cells (dx S c) 237 (0, 0)) ∧ w'.cell? ⟨w.heap.size + 1, 0, none⟩ = some (.slice Y yn yc) ∧ w'.cell? ⟨w.heap.size + 1, 1, none⟩ = some (.slice (some ⟨b, o, none⟩) bn bc) ∧ w'.cell? ⟨b, o + k, none⟩ = some (.slice p rn rc)) (E := [8, 9, 10]) (by kernel_rfl) (hS0) (fun hHeld => ?_)
   refine Ad 0 (.agg (dx S c)) rfl (fZ 237 _ rfl a rfl _ _ _ _ (fun _ h => h.1) Tryz.underlying237 rfl (aP HL.out)) ?_
   refine bQ 1 ?_
   refine bQ 2 ?_
   refine bQ 3 ?_
   refine bQ 4 ?_
   refine bQ 5 ?_
   refine bY 6 fun K hK => ?_
   go_simp
   refine (uY W a S HS c hcl0 Xo ow (by decide) En p xs rn rc HXL lW _ (aa (HX.out.below (Below.refl _ _).drew))).mono ?_
   rintro e w6 ⟨rfl, hb6⟩
   obtain ⟨S', hS'⟩ : ∃ S', iJ S (aX ow) xs = S' := ⟨_, rfl⟩
   have VR : Hid (tH S') := aa (by rw [← hS']; exact rA _ _ _)
   have HRR : Kp (iA S' (rows.drop (k + 1)) = S3) := ⟨by rw [← hS']; exact Hg.1⟩
   rw [hS', BI.out, show yL S' c2 0 = .tuple #[.agg (dx S' c2), .int .i64 0] from rfl]
   have VU := aa VR.out.1
   have AO := aa (AL.out.below hb6)
   have HW6 : Hid (w6.cell? ⟨w.heap.size + 1, 0, none⟩ = some (.slice Y yn yc) ∧ w6.cell? ⟨w.heap.size + 1, 1, none⟩ = some (.slice (some ⟨b, o, none⟩) bn bc) ∧ w6.cell? ⟨b, o + k, none⟩ = some (.slice p rn rc)) := aa ⟨cell_below hS0.2.1 hb6, cell_below hS0.2.2.1 hb6, cell_below hS0.2.2.2 hb6⟩
   replace hb6 := ag ((Below.refl wr.heap.size wr).drew) hb6
   clear hS'
   refine hK.out _ _ ?_ (fun hHeld => ?_)
   · exact ⟨AO.out, HW6.out⟩
   clear hK K
   try simp only [qq]
   refine bQ 7 ?_
   refine Dw (i1 := 8) (i2 := 9) (by kernel_rfl) (by simp) (by simp) rfl rfl (fun K hK => ?_) (fun K hK => ?_)
   ·
    go_simp
    refine hK.out _ _ ?_
    clear hK K
    try simp only [qq]
    refine Dw (i1 := 9) (i2 := 10) (by kernel_rfl) (by simp) (by simp) rfl rfl (fun K hK => ?_) (fun K hK => ?_)
    ·
     go_simp
     refine hK.out _ _ ?_
     clear hK K
     try simp only [qq]
     refine mR 10 fun K hK => ?_
     rw [show (if Region.wanted _ _ = true then _ else _ : Prop) = _ from if_pos rfl]
     refine wp_store_row 237 _ _ rfl a (dx S' c2) rfl rfl 237 _ AO.out (aP VU.out) (fJ HL.out VU.out) (dX _ _) ?_
     refine hK.out _ _ ?_
     clear hK K
     try simp only [qq]
     refine gH ?_
     have Da := aa (HI.out.step (h' := S') (c' := c2) hb6 hWa)
     obtain ⟨W6, Gt⟩ : ∃ u, w6.setRow a (dx S' c2) = u := ⟨_, rfl⟩
     rw [Gt] at Da ⊢
     have Oq : Hid (c2 = 2 + ((k + 1 : Nat) : Int)) := aa (by have := HC.out; have := BI.out; omega)
     clear hb6 Gt hS0 hi0 d0 d1 AO Hg
     go_wp2
     go_roundw
     case rel => exact ⟨k + 1, S', c2, by omega, by go_num, Oq, VR, HRR, Da⟩
     case measure => simp [intOf]; omega
    ·
     rw [show (if Region.wanted _ _ = true then _ else _ : Prop) = _ from if_pos rfl]
     refine wp_store_row 237 _ _ rfl a (dx S' c2) rfl rfl 237 _ AO.out (aP VU.out) (fJ HL.out VU.out) (dX _ _) ?_
     refine hK.out _ _ ?_
     clear hK K
     try simp only [qq]
     refine mR 9 fun K hK => ?_
     go_simp
     refine hK.out _ _ ?_
     clear hK K
     try simp only [qq]
     refine gH ?_
     have Da := aa (HI.out.step (h' := S') (c' := c2) hb6 hWa)
     obtain ⟨W6, Gt⟩ : ∃ u, w6.setRow a (dx S' c2) = u := ⟨_, rfl⟩
     rw [Gt] at Da ⊢
     have Oq : Hid (c2 = 2 + ((k + 1 : Nat) : Int)) := aa (by have := HC.out; have := BI.out; omega)
     clear hb6 Gt hS0 hi0 d0 d1 AO Hg
     go_wp2
     go_roundw
     case rel => exact ⟨k + 1, S', c2, by omega, by go_num, Oq, VR, HRR, Da⟩
     case measure => simp [intOf]; omega
   ·
    go_simp
    refine hK.out _ _ ?_
    clear hK K
    try simp only [qq]
    refine mR 8 fun K hK => ?_
    go_simp
    refine hK.out _ _ ?_
    clear hK K
    try simp only [qq]
    refine mR 10 fun K hK => ?_
    rw [show (if Region.wanted _ _ = true then _ else _ : Prop) = _ from if_pos rfl]
    refine wp_store_row 237 _ _ rfl a (dx S' c2) rfl rfl 237 _ AO.out (aP VU.out) (fJ HL.out VU.out) (dX _ _) ?_
    refine hK.out _ _ ?_
    clear hK K
    try simp only [qq]
    refine gH ?_
    have Da := aa (HI.out.step (h' := S') (c' := c2) hb6 hWa)
    obtain ⟨W6, Gt⟩ : ∃ u, w6.setRow a (dx S' c2) = u := ⟨_, rfl⟩
    rw [Gt] at Da ⊢
    have Oq : Hid (c2 = 2 + ((k + 1 : Nat) : Int)) := aa (by have := HC.out; have := BI.out; omega)
    clear hb6 Gt hS0 hi0 d0 d1 AO Hg
    go_wp2
    go_roundw
    case rel => exact ⟨k + 1, S', c2, by omega, by go_num, Oq, VR, HRR, Da⟩
    case measure => simp [intOf]; omega
  ·
   obtain rfl : k = bn := by omega
   have hd : rows.drop k = [] := List.drop_of_length_le (by rw [hbn.out]; exact Nat.le_refl _)
   have RV : Kp (S = S3) := ⟨by have h := HR.1; rwa [hd] at h⟩
   have uG : Kp (BA Q (iJ S (aX eF) al) (aX qR) = V) := ⟨by rw [RV.1]; exact yu.1⟩
   clear hd HR RV yu hlt
   have ZK := aa HI.out.1
   go_wp2_with ((with_reducible show wpList _ _ _ (⟨some 53, _, _, _, _, _⟩ :: _) _ _); refine wpList_load_row rfl 237 _ rfl a rfl _ _ _ _ ZK.out Tryz.underlying237 rfl (aP HL.out) ?_)
   refine (uY W a S HS c hcl0 Xo eF (by decide) Bi A al na ca hna Ma _ (aa (HAA.out.below HI.out.2))).mono ?_
   rintro e w6 ⟨rfl, hb6⟩
   obtain ⟨S4, Qg⟩ : ∃ S', iJ S (aX eF) al = S' := ⟨_, rfl⟩
   have yN : Hid (tH S4) := aa (by rw [← Qg]; exact rA _ _ _)
   have HV5 : Kp (BA Q S4 (aX qR) = V) := ⟨by rw [← Qg]; exact uG.1⟩
   rw [Qg, BI.out, show yL S4 c2 0 = .tuple #[.agg (dx S4 c2), .int .i64 0] from rfl]
   have Vq := aa yN.out.1
   have AO := aa (HI.out.1.below hb6)
   have Da := aa (HI.out.step (h' := S4) (c' := c2) hb6 hWa)
   clear hb6 Qg uG HI ZK d0 d1
   go_upto_region 9 with ((with_reducible show wpList _ _ _ (⟨none, _, _, _, _, _⟩ :: _) _ _); refine wpList_store_row rfl 237 _ _ rfl a (dx S4 c2) rfl rfl _ _ AO.out (aP Vq.out) (fJ HL.out Vq.out) (dX _ _) ?_)
   obtain ⟨W6, Gt⟩ : ∃ u, w6.setRow a (dx S4 c2) = u := ⟨_, rfl⟩
   rw [Gt] at Da ⊢
   clear Gt AO
   obtain ⟨g0, g1, g2⟩ := Vw.out.below Da.out.2
   have Yp := aa Da.out.1
   go_wp2_with ((with_reducible show wpList _ _ _ (⟨some 59, _, _, _, _, _⟩ :: _) _ _); refine wpList_load_row rfl 237 _ rfl a rfl _ _ _ _ Yp.out Tryz.underlying237 rfl (aP Vq.out) ?_)
   refine (LM S4 Vq (aa yN.out.2) c2 (by have := BI.out; omega) (by have := HC.out; have := BI.out; omega) qR (by decide) Ro Q RD RB _).mono ?_
   rintro e w7 ⟨rfl, Dn⟩
   obtain ⟨G4, hG4⟩ : ∃ G4, RQ Q S4 (aX qR) = G4 := ⟨_, rfl⟩
   have Q5 : Hid (G4.length = 32) := aa (by rw [← hG4]; exact oF _ _ _)
   obtain ⟨c3, hc3⟩ : ∃ x, c2 + 1 = x := ⟨_, rfl⟩
   rw [hG4, HV5.1, hc3, show V4 G4 c3 V 0 = .tuple #[.agg (dx G4 c3), .int .i64 V, .int .i64 0] from rfl]
   clear hc3
   have uo := aa (ag bT.out (ag Da.out.2 Dn))
   clear Dn hG4 g0 g1 g2
   go_upto_region 10 with ((with_reducible show wpList _ _ _ (⟨none, _, _, _, _, _⟩ :: _) _ _); refine wpList_store_row rfl 237 _ _ rfl w7.heap.size (dx G4 c3) rfl rfl _ _ (heap_alloc_new _ _) (aP Q5.out) (fJ (h := dz 32) (c := 0) rfl Q5.out) (dX _ _) ?_)
   rw [World.setRow_alloc_new]
   try simp only [Act.put]
   have ZA := ag uo.out (af w7 (.cells (dx G4 c3) 237))
   go_wp2
   go_ret
   exact ⟨rfl, ZA⟩
theorem WK (x y P : Int) : (x % P) * y % P = x * y % P := by rw [Int.mul_emod, Int.emod_emod, ← Int.mul_emod]
theorem WJ (x y P : Int) : x * (y % P) % P = x * y % P := by rw [Int.mul_emod, Int.emod_emod, ← Int.mul_emod]
theorem Px {P Q y n : Int} (hP : 2 ≤ P) (hQ : 1 ≤ Q) (hn0 : 0 ≤ n) (hn1 : n < Q) (hy : aW P Q y = true) : pw y n P * pw y ((Q - n) % Q) P % P = 1 := by
 have hyQ : pw y Q P = 1 := yH hy
 rw [← Tx hP hQ (by omega) hyQ, ← LQ _ _ _ _ hn0 (by omega)]
 have e : n + (Q - n) = Q := by omega
 rw [e, hyQ]
theorem Ws (P Q G : Int) (Y : Option Addr) (ys : List Int) (yn yc : Nat) (B : Option Addr) (rows : List Row) (bn bc : Nat) (A : Option Addr) (al : List Int) (na ca : Nat) (C : Int) (Z : Option Addr) (zs : List Int) (nz cz : Nat) (hyn : Hid (ys.length = yn)) (hbn : Hid (rows.length = bn)) (eu : Hid (al.length = na)) (hzn : Hid (zs.length = nz)) (hna : na < 1000000) (hnz : nz < 1000000) (hQ : Q < 9223372036854775808) (lq : Hid (eZ P Q G ys rows = false)) (w : World) (hY : Hid (Sl w Y ys)) (hB : Hid (Rw w B rows)) (hA : Hid (Sl w A al)) (hZ : Hid (Sl w Z zs)) :
  Calls Tryz.prog 205 #[gv P Q G, ig Y yn yc B bn bc, iO A na ca C Z nz cz] w (Rt w (.bool false)) := by
 obtain ⟨w0, HW, aj, kC⟩ := sW (bq P Q G) fE (jI Y yn yc B bn bc) rq (fe A na ca C Z nz cz) qz w
 have kY := mkS aj hY
 have kB := fq (fun u => Rw u B rows) aj hB (·.below)
 have kA := mkS aj hA
 have kZ := mkS aj hZ
 have ah := bP w0
 clear hY hB hA hZ
 go_in
 go_wp2_with fail
 rw [HW.out]
 have hO := kC
 refine iW [] ah (fun hHeld => ?_)
 refine aL 0 ?_
 refine aL 1 ?_
 refine bY 2 fun K hK => ?_
 go_simp
 (with_reducible refine (iV P Q G Y ys yn yc B rows bn bc false lq hyn hbn hQ _ ?_ ?_).mono ?_); (go_split_ands; exact kY.out _ (by assumption)); (go_split_ands; exact kB.out _ (by assumption)); rintro e wA ⟨rfl, bS⟩
 refine hK.out _ _ (bF hHeld bS) (fun hHeld => ?_)
 clear hK K
 try simp only [qq]
 refine aL 3 ?_
 refine aL 4 ?_
 refine ek 5 6 7 8 ?_
 refine jD 9 ?_
 refine jD 10 ?_
 refine jD 11 ?_
 refine aL 12 ?_
 refine aL 13 ?_
 refine ek 14 15 16 17 ?_
 refine jD 18 ?_
 refine jD 19 ?_
 refine aL 20 ?_
 refine aL 21 ?_
 refine ek 22 23 24 25 ?_
 refine jD 26 ?_
 refine aL 27 ?_
 refine aL 28 ?_
 refine ek 29 30 31 32 ?_
 refine jD 33 ?_
 refine jD 34 ?_
 refine aL 35 ?_
 refine gH ?_
 have fM := hHeld
 have bV := ag aj.out fM.out
 go_wp2
 go_ret
 exact ⟨rfl, bV⟩
theorem Wx (P Q G : Int) (Y : Option Addr) (ys : List Int) (n yc : Nat) (B : Option Addr) (rows : List Row) (bc : Nat) (A : Option Addr) (al : List Int) (na ca : Nat) (C : Int) (Z : Option Addr) (zs : List Int) (nz cz : Nat) (lq : Hid (eZ P Q G ys rows = true)) (hyn : Hid (ys.length = n)) (hbn : Hid (rows.length = n)) (eu : Hid (al.length = na)) (hzn : Hid (zs.length = nz)) (hna : na < 1000000) (hnz : nz < 1000000) (hQ : Q < 9223372036854775808) (hne : na ≠ n) (w : World) (hY : Hid (Sl w Y ys)) (hB : Hid (Rw w B rows)) (hA : Hid (Sl w A al)) (hZ : Hid (Sl w Z zs)) :
  Calls Tryz.prog 205 #[gv P Q G, ig Y n yc B n bc, iO A na ca C Z nz cz] w (Rt w (.bool false)) := by
 obtain ⟨v1, v2, v3, v4, v5, v6, v7, v8⟩ := bM lq.out
 have hnp : 0 < n := by rw [← hyn.out]; omega
 obtain ⟨nu, hnu⟩ : ∃ k, gD rows = k := ⟨_, rfl⟩
 have HN := aa hnu
 clear v1 v2 v3 v4 v5 v6 v7 v8 hnu
 have e1 : ((na : Int) != (n : Int)) = true := by simp; omega
 obtain ⟨w0, HW, aj, kC⟩ := sW (bq P Q G) fE (jI Y n yc B n bc) rq (fe A na ca C Z nz cz) qz w
 have kY := mkS aj hY
 have kB := fq (fun u => Rw u B rows) aj hB (·.below)
 have kA := mkS aj hA
 have kZ := mkS aj hZ
 have ah := bP w0
 clear hY hB hA hZ
 go_in
 go_wp2_with fail
 rw [HW.out]
 have hO := kC
 refine iW [] ah (fun hHeld => ?_)
 refine aL 0 ?_
 refine aL 1 ?_
 refine bY 2 fun K hK => ?_
 go_simp
 (with_reducible refine (iV P Q G Y ys n yc B rows n bc true lq hyn hbn hQ _ ?_ ?_).mono ?_); (go_split_ands; exact kY.out _ (by assumption)); (go_split_ands; exact kB.out _ (by assumption)); rintro e wA ⟨rfl, bS⟩
 refine hK.out _ _ (bF hHeld bS) (fun hHeld => ?_)
 clear hK K
 try simp only [qq]
 refine aU 3 4 5 6 ?_
 refine aU 7 8 9 10 ?_
 refine aL 11 ?_
 refine aL 12 ?_
 refine aL 13 ?_
 refine ek 14 15 16 17 ?_
 refine jD 18 ?_
 refine jD 19 ?_
 refine aL 20 ?_
 refine aL 21 ?_
 refine ek 22 23 24 25 ?_
 refine jD 26 ?_
 refine aL 27 ?_
 refine aL 28 ?_
 refine ek 29 30 31 32 ?_
 refine jD 33 ?_
 refine jD 34 ?_
 refine aL 35 ?_
 refine gH ?_
 have fM := hHeld
 have bV := ag aj.out fM.out
 go_wp2
 go_ret
 exact ⟨rfl, bV⟩
theorem Ww (P Q G : Int) (Y : Option Addr) (ys : List Int) (n yc : Nat) (B : Option Addr) (rows : List Row) (bc : Nat) (A : Option Addr) (al : List Int) (na ca : Nat) (C : Int) (Z : Option Addr) (zs : List Int) (nz cz : Nat) (lq : Hid (eZ P Q G ys rows = true)) (hyn : Hid (ys.length = n)) (hbn : Hid (rows.length = n)) (eu : Hid (al.length = na)) (hzn : Hid (zs.length = nz)) (hna : na < 1000000) (hnz : nz < 1000000) (hQ : Q < 9223372036854775808) (heq : na = n) (hne : nz ≠ gD rows) (w : World) (hY : Hid (Sl w Y ys)) (hB : Hid (Rw w B rows)) (hA : Hid (Sl w A al)) (hZ : Hid (Sl w Z zs)) :
  Calls Tryz.prog 205 #[gv P Q G, ig Y n yc B n bc, iO A na ca C Z nz cz] w (Rt w (.bool false)) := by
 obtain ⟨v1, v2, v3, v4, v5, v6, v7, v8⟩ := bM lq.out
 have hnp : 0 < n := by rw [← hyn.out]; omega
 obtain ⟨nu, hnu⟩ : ∃ k, gD rows = k := ⟨_, rfl⟩
 have HN := aa hnu
 clear v1 v2 v3 v4 v5 v6 v7 v8 hnu
 have e1 : ((na : Int) != (n : Int)) = false := by simp; omega
 have e2 : ((nz : Int) != (nu : Int)) = true := by have := HN.out; simp; omega
 clear heq hne
 obtain ⟨w0, HW, aj, kC⟩ := sW (bq P Q G) fE (jI Y n yc B n bc) rq (fe A na ca C Z nz cz) qz w
 have kY := mkS aj hY
 have kB := fq (fun u => Rw u B rows) aj hB (·.below)
 have kA := mkS aj hA
 have kZ := mkS aj hZ
 have ah := bP w0
 clear hY hB hA hZ
 go_in
 go_wp2_with fail
 rw [HW.out]
 have hO := kC
 refine iW [] ah (fun hHeld => ?_)
 refine aL 0 ?_
 refine aL 1 ?_
 refine bY 2 fun K hK => ?_
 go_simp
 (with_reducible refine (iV P Q G Y ys n yc B rows n bc true lq hyn hbn hQ _ ?_ ?_).mono ?_); (go_split_ands; exact kY.out _ (by assumption)); (go_split_ands; exact kB.out _ (by assumption)); rintro e wA ⟨rfl, bS⟩
 refine hK.out _ _ (bF hHeld bS) (fun hHeld => ?_)
 clear hK K
 try simp only [qq]
 refine aU 3 4 5 6 ?_
 refine aU 7 8 9 10 ?_
 refine aU 11 12 13 14 ?_
 refine aL 15 ?_
 refine aL 16 ?_
 refine aL 17 ?_
 refine bY 18 fun K hK => ?_
 go_simp
 (with_reducible refine (gq Y n yc B rows n bc nu hbn hnp HN _ ?_).mono ?_); (go_split_ands; exact kB.out _ (by assumption)); rintro e wA ⟨rfl, bS⟩
 refine hK.out _ _ (bF hHeld bS) (fun hHeld => ?_)
 clear hK K
 try simp only [qq]
 refine aL 19 ?_
 refine aL 20 ?_
 refine aL 21 ?_
 refine ek 22 23 24 25 ?_
 refine jD 26 ?_
 refine aL 27 ?_
 refine aL 28 ?_
 refine ek 29 30 31 32 ?_
 refine jD 33 ?_
 refine jD 34 ?_
 refine aL 35 ?_
 refine gH ?_
 have fM := hHeld
 have bV := ag aj.out fM.out
 go_wp2
 go_ret
 exact ⟨rfl, bV⟩
theorem Wv (P Q G : Int) (Y : Option Addr) (ys : List Int) (n yc : Nat) (B : Option Addr) (rows : List Row) (bc : Nat) (A : Option Addr) (al : List Int) (na ca : Nat) (C : Int) (Z : Option Addr) (zs : List Int) (nz cz : Nat) (lq : Hid (eZ P Q G ys rows = true)) (hyn : Hid (ys.length = n)) (hbn : Hid (rows.length = n)) (eu : Hid (al.length = na)) (hzn : Hid (zs.length = nz)) (hna : na < 1000000) (hnz : nz < 1000000) (hQ : Q < 9223372036854775808) (heq : na = n) (heq2 : nz = gD rows) (U2 : Hid (zs.all (jV Q) = false)) (w : World) (hY : Hid (Sl w Y ys)) (hB : Hid (Rw w B rows)) (hA : Hid (Sl w A al)) (hZ : Hid (Sl w Z zs)) :
  Calls Tryz.prog 205 #[gv P Q G, ig Y n yc B n bc, iO A na ca C Z nz cz] w (Rt w (.bool false)) := by
 obtain ⟨v1, v2, v3, v4, v5, v6, v7, v8⟩ := bM lq.out
 have hnp : 0 < n := by rw [← hyn.out]; omega
 obtain ⟨nu, hnu⟩ : ∃ k, gD rows = k := ⟨_, rfl⟩
 have HN := aa hnu
 clear v1 v2 v3 v4 v5 v6 v7 v8 hnu
 have e1 : ((na : Int) != (n : Int)) = false := by simp; omega
 have e2 : ((nz : Int) != (nu : Int)) = false := by have := HN.out; simp; omega
 clear heq heq2
 obtain ⟨w0, HW, aj, kC⟩ := sW (bq P Q G) fE (jI Y n yc B n bc) rq (fe A na ca C Z nz cz) qz w
 have kY := mkS aj hY
 have kB := fq (fun u => Rw u B rows) aj hB (·.below)
 have kA := mkS aj hA
 have kZ := mkS aj hZ
 have ah := bP w0
 clear hY hB hA hZ
 go_in
 go_wp2_with fail
 rw [HW.out]
 have hO := kC
 refine iW [] ah (fun hHeld => ?_)
 refine aL 0 ?_
 refine aL 1 ?_
 refine bY 2 fun K hK => ?_
 go_simp
 (with_reducible refine (iV P Q G Y ys n yc B rows n bc true lq hyn hbn hQ _ ?_ ?_).mono ?_); (go_split_ands; exact kY.out _ (by assumption)); (go_split_ands; exact kB.out _ (by assumption)); rintro e wA ⟨rfl, bS⟩
 refine hK.out _ _ (bF hHeld bS) (fun hHeld => ?_)
 clear hK K
 try simp only [qq]
 refine aU 3 4 5 6 ?_
 refine aU 7 8 9 10 ?_
 refine aU 11 12 13 14 ?_
 refine aL 15 ?_
 refine aL 16 ?_
 refine aL 17 ?_
 refine bY 18 fun K hK => ?_
 go_simp
 (with_reducible refine (gq Y n yc B rows n bc nu hbn hnp HN _ ?_).mono ?_); (go_split_ands; exact kB.out _ (by assumption)); rintro e wA ⟨rfl, bS⟩
 refine hK.out _ _ (bF hHeld bS) (fun hHeld => ?_)
 clear hK K
 try simp only [qq]
 refine aU 19 20 21 22 ?_
 refine aL 23 ?_
 refine aL 24 ?_
 refine bY 25 fun K hK => ?_
 go_simp
 (with_reducible refine (jH P Q G Z zs nz cz false U2 hzn hnz _ ?_).mono ?_); (go_split_ands; exact kZ.out _ (by assumption)); rintro e wA ⟨rfl, bS⟩
 refine hK.out _ _ (bF hHeld bS) (fun hHeld => ?_)
 clear hK K
 try simp only [qq]
 refine aL 26 ?_
 refine aL 27 ?_
 refine aL 28 ?_
 refine ek 29 30 31 32 ?_
 refine jD 33 ?_
 refine jD 34 ?_
 refine aL 35 ?_
 refine gH ?_
 have fM := hHeld
 have bV := ag aj.out fM.out
 go_wp2
 go_ret
 exact ⟨rfl, bV⟩
theorem Wu (P Q G : Int) (Y : Option Addr) (ys : List Int) (n yc : Nat) (B : Option Addr) (rows : List Row) (bc : Nat) (A : Option Addr) (al : List Int) (na ca : Nat) (C : Int) (Z : Option Addr) (zs : List Int) (nz cz : Nat) (lq : Hid (eZ P Q G ys rows = true)) (hyn : Hid (ys.length = n)) (hbn : Hid (rows.length = n)) (eu : Hid (al.length = na)) (hzn : Hid (zs.length = nz)) (hna : na < 1000000) (hnz : nz < 1000000) (hQ : Q < 9223372036854775808) (heq : na = n) (heq2 : nz = gD rows) (U2 : Hid (zs.all (jV Q) = true)) (hc : jV Q C = false) (w : World) (hY : Hid (Sl w Y ys)) (hB : Hid (Rw w B rows)) (hA : Hid (Sl w A al)) (hZ : Hid (Sl w Z zs)) :
  Calls Tryz.prog 205 #[gv P Q G, ig Y n yc B n bc, iO A na ca C Z nz cz] w (Rt w (.bool false)) := by
 obtain ⟨v1, v2, v3, v4, v5, v6, v7, v8⟩ := bM lq.out
 have hnp : 0 < n := by rw [← hyn.out]; omega
 obtain ⟨nu, hnu⟩ : ∃ k, gD rows = k := ⟨_, rfl⟩
 have HN := aa hnu
 clear v1 v2 v3 v4 v5 v6 v7 v8 hnu
 have e1 : ((na : Int) != (n : Int)) = false := by simp; omega
 have e2 : ((nz : Int) != (nu : Int)) = false := by have := HN.out; simp; omega
 have QS : Hid ([C].all (jV Q) = false) := aa (by simpa using hc)
 clear heq heq2 hc
 obtain ⟨w0, HW, aj, kC⟩ := sW (bq P Q G) fE (jI Y n yc B n bc) rq (fe A na ca C Z nz cz) qz w
 have kY := mkS aj hY
 have kB := fq (fun u => Rw u B rows) aj hB (·.below)
 have kA := mkS aj hA
 have kZ := mkS aj hZ
 have ah := bP w0
 clear hY hB hA hZ
 go_in
 go_wp2_with fail
 rw [HW.out]
 have hO := kC
 refine iW [] ah (fun hHeld => ?_)
 refine aL 0 ?_
 refine aL 1 ?_
 refine bY 2 fun K hK => ?_
 go_simp
 (with_reducible refine (iV P Q G Y ys n yc B rows n bc true lq hyn hbn hQ _ ?_ ?_).mono ?_); (go_split_ands; exact kY.out _ (by assumption)); (go_split_ands; exact kB.out _ (by assumption)); rintro e wA ⟨rfl, bS⟩
 refine hK.out _ _ (bF hHeld bS) (fun hHeld => ?_)
 clear hK K
 try simp only [qq]
 refine aU 3 4 5 6 ?_
 refine aU 7 8 9 10 ?_
 refine aU 11 12 13 14 ?_
 refine aL 15 ?_
 refine aL 16 ?_
 refine aL 17 ?_
 refine bY 18 fun K hK => ?_
 go_simp
 (with_reducible refine (gq Y n yc B rows n bc nu hbn hnp HN _ ?_).mono ?_); (go_split_ands; exact kB.out _ (by assumption)); rintro e wA ⟨rfl, bS⟩
 refine hK.out _ _ (bF hHeld bS) (fun hHeld => ?_)
 clear hK K
 try simp only [qq]
 refine aU 19 20 21 22 ?_
 refine aL 23 ?_
 refine aL 24 ?_
 refine bY 25 fun K hK => ?_
 go_simp
 (with_reducible refine (jH P Q G Z zs nz cz true U2 hzn hnz _ ?_).mono ?_); (go_split_ands; exact kZ.out _ (by assumption)); rintro e wA ⟨rfl, bS⟩
 refine hK.out _ _ (bF hHeld bS) (fun hHeld => ?_)
 clear hK K
 try simp only [qq]
 refine aU 26 27 28 29 ?_
 refine aL 30 ?_
 refine aL 31 ?_
 refine bY 32 fun K hK => ?_
 go_simp
 refine hK.out _ _ (bF hHeld (af _ _)) (fun hHeld => ?_)
 clear hK K
 try simp only [qq]
 refine bY 33 fun K hK => ?_
 go_simp
 (with_reducible refine (jH P Q G (some ⟨wA.heap.size, 0, none⟩) [C] 1 1 false QS (aa rfl) (by omega) _ (aa (iM (xx wA _ C)))).mono ?_); rintro e wB ⟨rfl, bS⟩
 refine hK.out _ _ (bF hHeld bS) (fun hHeld => ?_)
 clear hK K
 try simp only [qq]
 refine aL 34 ?_
 refine aL 35 ?_
 refine gH ?_
 have fM := hHeld
 have bV := ag aj.out fM.out
 go_wp2
 go_ret
 exact ⟨rfl, bV⟩
def oM (P Q C : Int) (ys : List Int) (rows : List Row) (al zs : List Int) (i : Nat) : Bool := aW P Q (al.getD i 0) && (dH P 1 (rows.getD i di).xs zs == al.getD i 0 * pw (ys.getD i 0) C P % P)
theorem Bc {P Q : Int} (hP : 2 ≤ P) (hQ : 1 ≤ Q) : ∀ (xs es : List Int) (acc : Int), aW P Q acc = true → xs.all (aW P Q) = true → es.all (jV Q) = true → aW P Q (dH P acc xs es) = true
 | [], es, acc, h, _, _ => by cases es <;> exact h
 | x :: xs, [], acc, h, _, _ => h
 | x :: xs, e :: es, acc, h, h1, h2 => by
  simp only [List.all_cons, Bool.and_eq_true] at h1 h2
  exact Bc hP hQ xs es _ (Cm hP hQ h (Ck hP hQ (BR h2.1) h1.1)) h1.2 h2.2
theorem EK {P Q G C : Int} {ys : List Int} {rows : List Row} {al zs : List Int} (hv : eZ P Q G ys rows = true) (hl : al.length = rows.length) (hz : zs.length = gD rows) (hzs : zs.all (jV Q) = true) (hc : jV Q C = true) :
  gX P Q C ys rows al zs = true ↔ ∀ i, i < rows.length → oM P Q C ys rows al zs i = true := by
 obtain ⟨v1, v2, v3, v4, v5, v6, v7, v8⟩ := bM hv
 obtain ⟨hp2, hp, hq3, Cv⟩ := b_ v1
 have hC : 0 ≤ C ∧ C < Q := by simp [jV] at hc; exact hc
 have key : ∀ i, i < rows.length → (oM P Q C ys rows al zs i = true ↔ ze P Q C ys rows zs i = al.getD i 0) := by
  intro i hi
  have hy : aW P Q (ys.getD i 0) = true := kU v5 (by omega)
  have hr := qf v8 hi
  simp only [nA, Bool.and_eq_true] at hr
  have hm := Bc (P := P) (Q := Q) hp2 (by omega) (rows.getD i di).xs zs 1 (Iy hp2) hr.2 hzs
  have hu := Px hp2 (by omega) hC.1 hC.2 hy
  unfold oM ze
  obtain ⟨p, Xe⟩ : ∃ p, dH P 1 (rows.getD i di).xs zs = p := ⟨_, rfl⟩
  obtain ⟨u, hpu⟩ : ∃ u, pw (ys.getD i 0) C P = u := ⟨_, rfl⟩
  obtain ⟨t, hpt⟩ : ∃ t, pw (ys.getD i 0) ((Q - C) % Q) P = t := ⟨_, rfl⟩
  obtain ⟨a, ha⟩ : ∃ a, al.getD i 0 = a := ⟨_, rfl⟩
  have hmt : aW P Q t = true := by rw [← hpt]; exact Ck hp2 (by omega) (Int.emod_nonneg _ (by omega)) hy
  rw [hpu, hpt] at hu
  rw [Xe] at hm ⊢
  rw [hpu, hpt, ha]
  have p1 := iY hm
  have p2 := iZ hm
  constructor
  ·
   intro h
   simp only [Bool.and_eq_true, beq_iff_eq] at h
   have a1 := iY h.1
   have a2 := iZ h.1
   rw [h.2, WK, Int.mul_assoc, ← WJ, hu, Int.mul_one]
   exact Int.emod_eq_of_lt (by omega) a2
  ·
   intro h
   have hma : aW P Q a = true := by rw [← h]; exact Cm hp2 (by omega) hm hmt
   simp only [Bool.and_eq_true, beq_iff_eq]
   refine ⟨hma, ?_⟩
   rw [← h, WK, Int.mul_assoc, Int.mul_comm t u, ← WJ, hu, Int.mul_one]
   exact (Int.emod_eq_of_lt (by omega) p2).symm
 constructor
 ·
  intro h i hi
  have hs := (qx h).2.2.2.2
  rw [key i hi, ← hs, zb hi]
 ·
  intro h
  have hs : wO P Q C ys rows zs = al := by
   apply List.ext_getElem (by rw [gM, hl])
   intro i h1 h2
   have e1 := (key i (by rw [gM] at h1; exact h1)).1 (h i (by rw [gM] at h1; exact h1))
   have e2 := zb (P := P) (Q := Q) (c := C) (ys := ys) (zs := zs) (rows := rows) (show i < rows.length by rw [gM] at h1; exact h1)
   rw [List.getD_eq_getElem?_getD, List.getElem?_eq_getElem h1] at e2
   rw [List.getD_eq_getElem?_getD, List.getElem?_eq_getElem h2] at e1
   simp only [Option.getD_some] at e1 e2
   rw [e2, e1]
  simp only [gX, Bool.and_eq_true, decide_eq_true_eq]
  exact ⟨hl, hz, hc, hzs, by rw [hs]; simp⟩
theorem Wt (P Q G : Int) (Y : Option Addr) (ys : List Int) (n yc : Nat) (B : Option Addr) (rows : List Row) (bc : Nat) (A : Option Addr) (al : List Int) (na ca : Nat) (C : Int) (Z : Option Addr) (zs : List Int) (nz cz : Nat) (lq : Hid (eZ P Q G ys rows = true)) (hyn : Hid (ys.length = n)) (hbn : Hid (rows.length = n)) (eu : Hid (al.length = na)) (hzn : Hid (zs.length = nz)) (hna : na < 1000000) (hnz : nz < 1000000) (hQ : Q < 9223372036854775808) (heq : na = n) (heq2 : nz = gD rows) (U2 : Hid (zs.all (jV Q) = true)) (hc : jV Q C = true) (r : Bool) (hr : Hid (gX P Q C ys rows al zs = r)) (w : World) (hY : Hid (Sl w Y ys)) (hB : Hid (Rw w B rows)) (hA : Hid (Sl w A al)) (hZ : Hid (Sl w Z zs)) :
  Calls Tryz.prog 205 #[gv P Q G, ig Y n yc B n bc, iO A na ca C Z nz cz] w (Rt w (.bool r)) := by
 have YW : Hid (gX P Q C ys rows al zs = true ↔ ∀ i, i < rows.length → oM P Q C ys rows al zs i = true) := aa (EK lq.out (by rw [eu.out, hbn.out, heq]) (by rw [hzn.out, heq2]) U2.out hc)
 have hC : 0 ≤ C ∧ C < Q := by simp [jV] at hc; exact hc
 obtain ⟨hC0, hC1⟩ := hC
 obtain ⟨v1, v2, v3, v4, v5, v6, v7, v8⟩ := bM lq.out
 obtain ⟨hp2, hp, hq3, Cv⟩ := b_ v1
 have HYM := aa v5
 have Hq : Hid (rows.all (nA P Q nz) = true) := aa (by rw [heq2]; exact v8)
 have hn8 : n ≤ 8 := by rw [← hyn.out]; exact v3
 clear v1 v2 v3 v4 v5 v6 v7 v8
 obtain ⟨v1, v2, v3, v4, v5, v6, v7, v8⟩ := bM lq.out
 have hnp : 0 < n := by rw [← hyn.out]; omega
 obtain ⟨nu, hnu⟩ : ∃ k, gD rows = k := ⟨_, rfl⟩
 have HN := aa hnu
 clear v1 v2 v3 v4 v5 v6 v7 v8 hnu
 have e1 : ((na : Int) != (n : Int)) = false := by simp; omega
 have e2 : ((nz : Int) != (nu : Int)) = false := by have := HN.out; simp; omega
 have QS : Hid ([C].all (jV Q) = true) := aa (by simpa using hc)
 have Vz := aa heq
 clear heq heq2 hc
 obtain ⟨w0, HW, aj, kC⟩ := sW (bq P Q G) fE (jI Y n yc B n bc) rq (fe A na ca C Z nz cz) qz w
 have kY := mkS aj hY
 have kB := fq (fun u => Rw u B rows) aj hB (·.below)
 have kA := mkS aj hA
 have kZ := mkS aj hZ
 have ah := bP w0
 clear hY hB hA hZ
 go_in
 go_wp2_with fail
 rw [HW.out]
 have hS := aa (show ∀ u1 u2 : World, Hid (Below w0.heap.size w0 u1) → Below u1.heap.size u1 u2 → (u2.cell? ⟨w.heap.size, 0, none⟩ = some (.int .i64 P) ∧ u2.cell? ⟨w.heap.size, 1, none⟩ = some (.int .i64 Q) ∧ u2.cell? ⟨w.heap.size, 2, none⟩ = some (.int .i64 G) ∧ u2.cell? ⟨w.heap.size + 1, 0, none⟩ = some (.slice Y n yc) ∧ u2.cell? ⟨w.heap.size + 1, 1, none⟩ = some (.slice B n bc) ∧ u2.cell? ⟨w.heap.size + 2, 0, none⟩ = some (.slice A na ca) ∧ u2.cell? ⟨w.heap.size + 2, 1, none⟩ = some (.int .i64 C) ∧ u2.cell? ⟨w.heap.size + 2, 2, none⟩ = some (.slice Z nz cz) ∧ Hid (Below w0.heap.size w0 u2)) from fun u1 u2 h1 h2 => by
  have h3 := aa (ag h1.out h2)
  obtain ⟨y0, y1, y2, y3, y4, y5, y6, y7⟩ := kC.out _ h3
  exact ⟨y0, y1, y2, y3, y4, y5, y6, y7, h3⟩)
 refine bJ (S := fun w' => w'.cell? ⟨w.heap.size, 0, none⟩ = some (.int .i64 P) ∧ w'.cell? ⟨w.heap.size, 1, none⟩ = some (.int .i64 Q) ∧ w'.cell? ⟨w.heap.size, 2, none⟩ = some (.int .i64 G) ∧ w'.cell? ⟨w.heap.size + 1, 0, none⟩ = some (.slice Y n yc) ∧ w'.cell? ⟨w.heap.size + 1, 1, none⟩ = some (.slice B n bc) ∧ w'.cell? ⟨w.heap.size + 2, 0, none⟩ = some (.slice A na ca) ∧ w'.cell? ⟨w.heap.size + 2, 1, none⟩ = some (.int .i64 C) ∧ w'.cell? ⟨w.heap.size + 2, 2, none⟩ = some (.slice Z nz cz) ∧ Hid (Below w0.heap.size w0 w')) (E := []) (by kernel_rfl) (hS.out _ _ ah ((Below.refl _ _).drew)) (fun hHeld => ?_)
 refine bQ 0 ?_
 refine bQ 1 ?_
 refine bY 2 fun K hK => ?_
 go_simp
 (with_reducible refine (iV P Q G Y ys n yc B rows n bc true lq hyn hbn hQ _ ?_ ?_).mono ?_); (go_split_ands; exact kY.out _ (by assumption)); (go_split_ands; exact kB.out _ (by assumption)); rintro e wA ⟨rfl, bS⟩
 refine hK.out _ _ ?_ (fun hHeld => ?_)
 · (go_split_ands; exact hS.out _ _ (by assumption) bS)
 clear hK K
 try simp only [qq]
 refine bQ 3 ?_
 refine bQ 4 ?_
 refine bQ 5 ?_
 refine bQ 6 ?_
 refine bQ 7 ?_
 refine bQ 8 ?_
 refine bQ 9 ?_
 refine bQ 10 ?_
 refine bQ 11 ?_
 refine bQ 12 ?_
 refine bQ 13 ?_
 refine bQ 14 ?_
 refine bQ 15 ?_
 refine bQ 16 ?_
 refine bQ 17 ?_
 refine bY 18 fun K hK => ?_
 go_simp
 (with_reducible refine (gq Y n yc B rows n bc nu hbn hnp HN _ ?_).mono ?_); (go_split_ands; exact kB.out _ (by assumption)); rintro e wA ⟨rfl, bS⟩
 refine hK.out _ _ ?_ (fun hHeld => ?_)
 · (go_split_ands; exact hS.out _ _ (by assumption) bS)
 clear hK K
 try simp only [qq]
 refine bQ 19 ?_
 refine bQ 20 ?_
 refine bQ 21 ?_
 refine bQ 22 ?_
 refine bQ 23 ?_
 refine bQ 24 ?_
 refine bY 25 fun K hK => ?_
 go_simp
 (with_reducible refine (jH P Q G Z zs nz cz true U2 hzn hnz _ ?_).mono ?_); (go_split_ands; exact kZ.out _ (by assumption)); rintro e wA ⟨rfl, bS⟩
 refine hK.out _ _ ?_ (fun hHeld => ?_)
 · (go_split_ands; exact hS.out _ _ (by assumption) bS)
 clear hK K
 try simp only [qq]
 refine bQ 26 ?_
 refine bQ 27 ?_
 refine bQ 28 ?_
 refine bQ 29 ?_
 refine bQ 30 ?_
 refine bQ 31 ?_
 refine bY 32 fun K hK => ?_
 go_simp
 refine hK.out _ _ ?_ (fun hHeld => ?_)
 · (go_split_ands; exact hS.out _ _ (by assumption) (af _ _))
 clear hK K
 try simp only [qq]
 refine bY 33 fun K hK => ?_
 go_simp
 (with_reducible refine (jH P Q G (some ⟨wA.heap.size, 0, none⟩) [C] 1 1 true QS (aa rfl) (by omega) _ (aa (iM (xx wA _ C)))).mono ?_); rintro e wB ⟨rfl, bS⟩
 refine hK.out _ _ ?_ (fun hHeld => ?_)
 · (go_split_ands; exact hS.out _ _ (by assumption) bS)
 clear hK K
 try simp only [qq]
 refine bQ 34 ?_
 refine bQ 35 ?_
 refine gH ?_
 obtain ⟨x0, x1, x2, x3, x4, x5, x6, x7, ax⟩ := hHeld
 go_wp2_with fail
 clear x0 x1 x2 x3 x4 x5 x6 x7 hS
 go_loopw [7] (fun i u => ∃ k : Nat, k ≤ n ∧ i = .int .i64 k ∧ Hid (∀ j, j < k → oM P Q C ys rows al zs j = true) ∧ Hid (Below w0.heap.size w0 u)) (fun i _ => n - (intOf i).toNat)
 case atStart => exact ⟨0, by omega, rfl, aa (fun j hj => absurd hj (Nat.not_lt_zero _)), ax⟩
 case round =>
  obtain ⟨k, hk, rfl, Kz, aF⟩ := hrel
  obtain ⟨y0, y1, y2, y3, y4, y5, y6, y7⟩ := kC.out _ aF
  by_cases hlt : k < n
  ·
   have hka : k < al.length := by have := Vz.out; have := eu.out; omega
   have aeX : k < na := by have := Vz.out; omega
   have hky : k < ys.length := by rw [hyn.out]; exact hlt
   have hkr : k < rows.length := by rw [hbn.out]; exact hlt
   obtain ⟨ba, oa, hAA, ia⟩ := (kA.out _ aF).out k hka
   obtain ⟨by', oy, hYY, iy⟩ := (kY.out _ aF).out k hky
   obtain ⟨⟨br, or', hBB, ir⟩, hok⟩ := (kB.out _ aF).out k hkr
   subst hAA
   subst hYY
   subst hBB
   have hrc : oM P Q C ys rows al zs k = (aW P Q (al.getD k 0) && (dH P 1 (rows.getD k di).xs zs == al.getD k 0 * pw (ys.getD k 0) C P % P)) := rfl
   have Gp := kU HYM.out hky
   have hrb := qf Hq.out hkr
   have Y3 : Hid (oM P Q C ys rows al zs k = false → r = false) := aa (fun h => by
    rw [← hr.out]
    cases hcb : gX P Q C ys rows al zs with
    | false => rfl
    | true =>
     have h2 := YW.out.1 hcb k hkr
     rw [h] at h2
     cases h2)
   have YN : Hid (oM P Q C ys rows al zs k = true → ∀ j, j < k + 1 → oM P Q C ys rows al zs j = true) := aa (fun h j hj => by
    by_cases hjk : j = k
    · subst hjk; exact h
    · exact Kz.out j (by omega))
   obtain ⟨a, haa⟩ : ∃ a, al.getD k 0 = a := ⟨_, rfl⟩
   obtain ⟨y, hyy⟩ : ∃ a, ys.getD k 0 = a := ⟨_, rfl⟩
   obtain ⟨RR, hRR⟩ : ∃ R, rows.getD k di = R := ⟨_, rfl⟩
   rw [haa] at ia hrc
   rw [hyy] at iy hrc Gp
   rw [hRR] at ir hok hrc hrb
   obtain ⟨p, rn, rc, xs⟩ := RR
   simp only [nA, Bool.and_eq_true, decide_eq_true_eq] at hrb
   obtain ⟨hrn, hmx⟩ := hrb
   subst hrn
   have HXL := aa hok.1
   have HXS : Hid (Sl wr p xs) := aa hok.2
   have HMX := aa hmx
   dsimp only [Row.val] at ir hrc
   have HMY := aa Gp
   have hs2 := aa (show ∀ u1 u2 : World, Hid (Below wr.heap.size wr u1) → Below u1.heap.size u1 u2 → (u2.cell? ⟨w.heap.size, 0, none⟩ = some (.int .i64 P) ∧ u2.cell? ⟨w.heap.size, 1, none⟩ = some (.int .i64 Q) ∧ u2.cell? ⟨w.heap.size, 2, none⟩ = some (.int .i64 G) ∧ u2.cell? ⟨w.heap.size + 1, 0, none⟩ = some (.slice (some ⟨by', oy, none⟩) n yc) ∧ u2.cell? ⟨w.heap.size + 1, 1, none⟩ = some (.slice (some ⟨br, or', none⟩) n bc) ∧ u2.cell? ⟨w.heap.size + 2, 0, none⟩ = some (.slice (some ⟨ba, oa, none⟩) na ca) ∧ u2.cell? ⟨w.heap.size + 2, 1, none⟩ = some (.int .i64 C) ∧ u2.cell? ⟨w.heap.size + 2, 2, none⟩ = some (.slice Z rn cz) ∧ u2.cell? ⟨ba, oa + k, none⟩ = some (.int .i64 a) ∧ u2.cell? ⟨by', oy + k, none⟩ = some (.int .i64 y) ∧ u2.cell? ⟨br, or' + k, none⟩ = some (.slice p rn rc) ∧ Hid (Below wr.heap.size wr u2)) from fun u1 u2 h1 h2 => by
    have h3 := ag h1.out h2
    exact ⟨cell_below y0 h3, cell_below y1 h3, cell_below y2 h3, cell_below y3 h3, cell_below y4 h3, cell_below y5 h3, cell_below y6 h3, cell_below y7 h3, cell_below ia h3, cell_below iy h3, cell_below ir h3, aa h3⟩)
   have kX := aa (show ∀ u : World, Hid (Below wr.heap.size wr u) → Hid (Sl u p xs) from fun u h => aa (HXS.out.below h.out))
   have kZ2 := aa (show ∀ u : World, Hid (Below wr.heap.size wr u) → Hid (Sl u Z zs) from fun u h => kZ.out _ (aa (ag aF.out h.out)))
   have acO : Hid (Below wr.heap.size wr wr) := aa (Below.refl _ _)
   have HRC := aa hrc
   clear haa hyy hRR hok hmx Gp hrc
   go_wp2_with fail
   clear y0 y1 y2 y3 y4 y5 y6 y7 ia iy ir
   obtain ⟨m, hm⟩ : ∃ m, aW P Q a = m := ⟨_, rfl⟩
   have HM := aa hm
   clear hm
   refine bJ (S := fun w' => w'.cell? ⟨w.heap.size, 0, none⟩ = some (.int .i64 P) ∧ w'.cell? ⟨w.heap.size, 1, none⟩ = some (.int .i64 Q) ∧ w'.cell? ⟨w.heap.size, 2, none⟩ = some (.int .i64 G) ∧ w'.cell? ⟨w.heap.size + 1, 0, none⟩ = some (.slice (some ⟨by', oy, none⟩) n yc) ∧ w'.cell? ⟨w.heap.size + 1, 1, none⟩ = some (.slice (some ⟨br, or', none⟩) n bc) ∧ w'.cell? ⟨w.heap.size + 2, 0, none⟩ = some (.slice (some ⟨ba, oa, none⟩) na ca) ∧ w'.cell? ⟨w.heap.size + 2, 1, none⟩ = some (.int .i64 C) ∧ w'.cell? ⟨w.heap.size + 2, 2, none⟩ = some (.slice Z rn cz) ∧ w'.cell? ⟨ba, oa + k, none⟩ = some (.int .i64 a) ∧ w'.cell? ⟨by', oy + k, none⟩ = some (.int .i64 y) ∧ w'.cell? ⟨br, or' + k, none⟩ = some (.slice p rn rc) ∧ Hid (Below wr.heap.size wr w')) (E := []) (by kernel_rfl) (hs2.out _ _ acO ((Below.refl _ _).drew)) (fun hHeld => ?_)
   refine bQ 0 ?_
   refine bQ 1 ?_
   refine bQ 2 ?_
   refine bQ 3 ?_
   refine bQ 4 ?_
   refine bQ 5 ?_
   refine bY 6 fun K hK => ?_
   go_simp
   (with_reducible refine (bD P Q G a m HM hp (by omega) hQ _).mono ?_); rintro e wA ⟨rfl, bS⟩
   refine hK.out _ _ ?_ (fun hHeld => ?_)
   · exact hs2.out _ _ (hHeld.2.2.2.2.2.2.2.2.2.2.2) bS
   clear hK K
   try simp only [qq]
   refine bQ 7 ?_
   refine gH ?_
   obtain ⟨x0, x1, x2, x3, x4, x5, x6, x7, x8, x9, V8, m_⟩ := hHeld
   clear x0 x1 x2 x3 x4 x5 x6 x7 x8 x9 V8
   have aaW := m_.out
   cases hmc : m with
   | false =>
    obtain rfl : r = false := Y3.out (by rw [HRC.out, HM.out, hmc]; rfl)
    have bV := ag aj.out (ag aF.out m_.out)
    go_wp2
    go_ret
    exact ⟨rfl, bV⟩
   | true =>
    have hma : aW P Q a = true := HM.out.trans hmc
    have a1 := iY hma
    have a2 := iZ hma
    have b1 := iY HMY.out
    have b2 := iZ HMY.out
    obtain ⟨u, hu⟩ : ∃ u, pw y C P = u := ⟨_, rfl⟩
    obtain ⟨u0, u1⟩ : 0 ≤ u ∧ u < P := by rw [← hu]; exact zl _ _ _ (by omega)
    obtain ⟨v, hv'⟩ : ∃ v, a * u % P = v := ⟨_, rfl⟩
    obtain ⟨q, hq'⟩ : ∃ q, dH P 1 xs zs = q := ⟨_, rfl⟩
    have HU := aa hu
    have HV := aa hv'
    have HQ := aa hq'
    have YJ : Hid (oM P Q C ys rows al zs k = (q == v)) := aa (by rw [HRC.out, hma, hu, hv', hq', Bool.true_and])
    clear hu hv' hq' hma aaW
    go_wp2_with fail
    refine bJ (S := fun w' => w'.cell? ⟨w.heap.size, 0, none⟩ = some (.int .i64 P) ∧ w'.cell? ⟨w.heap.size, 1, none⟩ = some (.int .i64 Q) ∧ w'.cell? ⟨w.heap.size, 2, none⟩ = some (.int .i64 G) ∧ w'.cell? ⟨w.heap.size + 1, 0, none⟩ = some (.slice (some ⟨by', oy, none⟩) n yc) ∧ w'.cell? ⟨w.heap.size + 1, 1, none⟩ = some (.slice (some ⟨br, or', none⟩) n bc) ∧ w'.cell? ⟨w.heap.size + 2, 0, none⟩ = some (.slice (some ⟨ba, oa, none⟩) na ca) ∧ w'.cell? ⟨w.heap.size + 2, 1, none⟩ = some (.int .i64 C) ∧ w'.cell? ⟨w.heap.size + 2, 2, none⟩ = some (.slice Z rn cz) ∧ w'.cell? ⟨ba, oa + k, none⟩ = some (.int .i64 a) ∧ w'.cell? ⟨by', oy + k, none⟩ = some (.int .i64 y) ∧ w'.cell? ⟨br, or' + k, none⟩ = some (.slice p rn rc) ∧ Hid (Below wr.heap.size wr w')) (E := []) (by kernel_rfl) (hs2.out _ _ m_ ((Below.refl _ _).drew)) (fun hHeld => ?_)
    refine bQ 0 ?_
    refine bQ 1 ?_
    refine bQ 2 ?_
    refine bQ 3 ?_
    refine bQ 4 ?_
    refine bQ 5 ?_
    refine bQ 6 ?_
    refine bQ 7 ?_
    refine bQ 8 ?_
    refine bQ 9 ?_
    refine bQ 10 ?_
    refine bQ 11 ?_
    refine bQ 12 ?_
    refine bQ 13 ?_
    refine bQ 15 ?_
    refine bQ 16 ?_
    refine bY 14 fun K hK => ?_
    go_simp
    (with_reducible refine (lK y C P u HU (by omega) hp (by omega) b2 hC0 (by omega) _).mono ?_); rintro e wA ⟨rfl, rfl⟩
    refine hK.out _ _ ?_ (fun hHeld => ?_)
    · exact hs2.out _ _ (hHeld.2.2.2.2.2.2.2.2.2.2.2) (Below.refl _ _)
    clear hK K
    try simp only [qq]
    refine bY 17 fun K hK => ?_
    go_simp
    (with_reducible refine (jk a u P v HV hp (by omega) a2 u0 u1 _).mono ?_); rintro e wA ⟨rfl, rfl⟩
    refine hK.out _ _ ?_ (fun hHeld => ?_)
    · exact hs2.out _ _ (hHeld.2.2.2.2.2.2.2.2.2.2.2) (Below.refl _ _)
    clear hK K
    try simp only [qq]
    refine bQ 18 ?_
    refine gH ?_
    obtain ⟨x0, x1, x2, x3, x4, x5, x6, x7, x8, x9, V8, qP⟩ := hHeld
    clear x0 x1 x2 x3 x4 x5 x6 x7 x8 x9 V8
    go_wp2_with fail
    refine bJ (S := fun w' => w'.cell? ⟨w.heap.size, 0, none⟩ = some (.int .i64 P) ∧ w'.cell? ⟨w.heap.size, 1, none⟩ = some (.int .i64 Q) ∧ w'.cell? ⟨w.heap.size, 2, none⟩ = some (.int .i64 G) ∧ w'.cell? ⟨w.heap.size + 1, 0, none⟩ = some (.slice (some ⟨by', oy, none⟩) n yc) ∧ w'.cell? ⟨w.heap.size + 1, 1, none⟩ = some (.slice (some ⟨br, or', none⟩) n bc) ∧ w'.cell? ⟨w.heap.size + 2, 0, none⟩ = some (.slice (some ⟨ba, oa, none⟩) na ca) ∧ w'.cell? ⟨w.heap.size + 2, 1, none⟩ = some (.int .i64 C) ∧ w'.cell? ⟨w.heap.size + 2, 2, none⟩ = some (.slice Z rn cz) ∧ w'.cell? ⟨ba, oa + k, none⟩ = some (.int .i64 a) ∧ w'.cell? ⟨by', oy + k, none⟩ = some (.int .i64 y) ∧ w'.cell? ⟨br, or' + k, none⟩ = some (.slice p rn rc) ∧ Hid (Below wr.heap.size wr w')) (E := []) (by kernel_rfl) (hs2.out _ _ qP ((Below.refl _ _).drew)) (fun hHeld => ?_)
    refine bQ 0 ?_
    refine bQ 1 ?_
    refine bQ 2 ?_
    refine bQ 3 ?_
    refine bQ 4 ?_
    refine bQ 5 ?_
    refine bQ 6 ?_
    refine bQ 7 ?_
    refine bQ 9 ?_
    refine bY 8 fun K hK => ?_
    go_simp
    (with_reducible refine (BU P Q G p xs rn rc Z zs rn cz q HQ HXL hzn (Nat.le_refl _) (by omega) HMX U2 hp2 hp hQ _ ?_ ?_).mono ?_); (exact kX.out _ (hHeld.2.2.2.2.2.2.2.2.2.2.2)); (exact kZ2.out _ (hHeld.2.2.2.2.2.2.2.2.2.2.2)); rintro e wA ⟨rfl, bS⟩
    refine hK.out _ _ ?_ (fun hHeld => ?_)
    · exact hs2.out _ _ (hHeld.2.2.2.2.2.2.2.2.2.2.2) bS
    clear hK K
    try simp only [qq]
    refine bQ 10 ?_
    refine gH ?_
    obtain ⟨x0, x1, x2, x3, x4, x5, x6, x7, x8, x9, V8, Al⟩ := hHeld
    clear x0 x1 x2 x3 x4 x5 x6 x7 x8 x9 V8
    cases Zw : q == v with
    | false =>
     obtain rfl : r = false := Y3.out (by rw [YJ.out, Zw])
     have hne : (q != v) = true := by simp only [bne, Zw, Bool.not_false]
     have bV := ag aj.out (ag aF.out Al.out)
     go_wp2
     go_ret
     exact ⟨rfl, bV⟩
    | true =>
     have hne : (q != v) = false := by simp only [bne, Zw, Bool.not_true]
     have Zj := aa (YN.out (by rw [YJ.out, Zw]))
     have Ze := aa (ag aF.out Al.out)
     go_wp2
     go_roundw
     case rel => exact ⟨k + 1, by omega, by go_num, Zj, Ze⟩
     case measure => simp [intOf]; omega
  ·
   obtain rfl : k = n := by omega
   obtain rfl : r = true := by
    rw [← hr.out]
    exact YW.out.2 (fun i hi => Kz.out i (by rw [hbn.out] at hi; exact hi))
   have bV := ag aj.out aF.out
   go_wp2
   go_ret
   exact ⟨rfl, bV⟩
theorem uu (P Q G : Int) (Y : Option Addr) (ys : List Int) (yn yc : Nat) (B : Option Addr) (rows : List Row) (bn bc : Nat) (A : Option Addr) (al : List Int) (na ca : Nat) (C : Int) (Z : Option Addr) (zs : List Int) (nz cz : Nat) (hyn : Hid (ys.length = yn)) (hbn : Hid (rows.length = bn)) (eu : Hid (al.length = na)) (hzn : Hid (zs.length = nz)) (hna : na < 1000000) (hnz : nz < 1000000) (hQ : Q < 9223372036854775808) (r : Bool) (hr : Hid (rY P Q G C ys rows al zs = r)) (w : World) (hY : Hid (Sl w Y ys)) (hB : Hid (Rw w B rows)) (hA : Hid (Sl w A al)) (hZ : Hid (Sl w Z zs)) :
  Calls Tryz.prog 205 #[gv P Q G, ig Y yn yc B bn bc, iO A na ca C Z nz cz] w (Rt w (.bool r)) := by
 cases hg : eZ P Q G ys rows with
 | false =>
  obtain rfl : r = false := by rw [← hr.out, rY, hg]; rfl
  exact Ws P Q G Y ys yn yc B rows bn bc A al na ca C Z zs nz cz hyn hbn eu hzn hna hnz hQ (aa hg) w hY hB hA hZ
 | true =>
  have he : bn = yn := by rw [← hbn.out, ← hyn.out]; exact (bM hg).2.2.2.1
  subst he
  have hr' : gX P Q C ys rows al zs = r := by rw [← hr.out, rY, hg]; rfl
  by_cases h1 : na = bn
  ·
   by_cases h2 : nz = gD rows
   ·
    cases h3 : zs.all (jV Q) with
    | false =>
     obtain rfl : r = false := by rw [← hr']; unfold gX; rw [h3]; simp
     exact Wv P Q G Y ys bn yc B rows bc A al na ca C Z zs nz cz (aa hg) hyn hbn eu hzn hna hnz hQ h1 h2 (aa h3) w hY hB hA hZ
    | true =>
     cases h4 : jV Q C with
     | false =>
      obtain rfl : r = false := by rw [← hr']; unfold gX; rw [h4]; simp
      exact Wu P Q G Y ys bn yc B rows bc A al na ca C Z zs nz cz (aa hg) hyn hbn eu hzn hna hnz hQ h1 h2 (aa h3) h4 w hY hB hA hZ
     | true => exact Wt P Q G Y ys bn yc B rows bc A al na ca C Z zs nz cz (aa hg) hyn hbn eu hzn hna hnz hQ h1 h2 (aa h3) h4 r (aa hr') w hY hB hA hZ
   ·
    obtain rfl : r = false := by rw [← hr']; unfold gX; rw [hzn.out, decide_eq_false h2]; simp
    exact Ww P Q G Y ys bn yc B rows bc A al na ca C Z zs nz cz (aa hg) hyn hbn eu hzn hna hnz hQ h1 h2 w hY hB hA hZ
  ·
   obtain rfl : r = false := by rw [← hr']; unfold gX; rw [eu.out, hbn.out, decide_eq_false h1]; simp
   exact Wx P Q G Y ys bn yc B rows bc A al na ca C Z zs nz cz (aa hg) hyn hbn eu hzn hna hnz hQ h1 w hY hB hA hZ
theorem SL (P Q G : Int) (Y : Option Addr) (ys : List Int) (yn yc : Nat) (B : Option Addr) (rows : List Row) (bn bc : Nat) (A : Option Addr) (al : List Int) (na ca : Nat) (C : Int) (Z : Option Addr) (zs : List Int) (nz cz : Nat) (hyn : Hid (ys.length = yn)) (hbn : Hid (rows.length = bn)) (eu : Hid (al.length = na)) (hzn : Hid (zs.length = nz)) (hna : na < 1000000) (hnz : nz < 1000000) (hQ : Q < 9223372036854775808) (s : ByteArray) (hs : s.size ≤ 1000) (HC : Hid (rY P Q G C ys rows al zs = false)) (w : World) (hY : Hid (Sl w Y ys)) (hB : Hid (Rw w B rows)) (hA : Hid (Sl w A al)) (hZ : Hid (Sl w Z zs)) :
  Calls Tryz.prog 173 #[gv P Q G, ig Y yn yc B bn bc, .string s, iO A na ca C Z nz cz] w (Rt w (.bool false)) := by
 obtain ⟨w0, HW, aj, kC⟩ := sW (bq P Q G) fE (jI Y yn yc B bn bc) rq (fe A na ca C Z nz cz) qz w
 have kY := mkS aj hY
 have kB := fq (fun u => Rw u B rows) aj hB (·.below)
 have kA := mkS aj hA
 have kZ := mkS aj hZ
 have ah := bP w0
 clear hY hB hA hZ
 go_in
 go_wp2_with fail
 rw [HW.out]
 have hO := kC
 refine iW [] ah (fun hHeld => ?_)
 refine aL 0 ?_
 refine aL 1 ?_
 refine aL 2 ?_
 refine bY 3 fun K hK => ?_
 go_simp
 (with_reducible refine (uu P Q G Y ys yn yc B rows bn bc A al na ca C Z zs nz cz hyn hbn eu hzn hna hnz hQ false HC _ ?_ ?_ ?_ ?_).mono ?_); (go_split_ands; exact kY.out _ (by assumption)); (go_split_ands; exact kB.out _ (by assumption)); (go_split_ands; exact kA.out _ (by assumption)); (go_split_ands; exact kZ.out _ (by assumption)); rintro e wA ⟨rfl, bS⟩
 refine hK.out _ _ (bF hHeld bS) (fun hHeld => ?_)
 clear hK K
 try simp only [qq]
 refine aL 4 ?_
 refine jD 5 ?_
 refine jD 6 ?_
 refine aL 7 ?_
 refine aL 8 ?_
 refine ek 9 10 11 12 ?_
 refine ek 13 14 15 16 ?_
 refine jD 17 ?_
 refine aL 18 ?_
 refine aL 19 ?_
 refine gH ?_
 have fM := hHeld
 have bV := ag aj.out fM.out
 go_wp2
 go_ret
 exact ⟨rfl, bV⟩
theorem SI (P Q G : Int) (Y : Option Addr) (ys : List Int) (yn yc : Nat) (B : Option Addr) (rows : List Row) (bn bc : Nat) (A : Option Addr) (al : List Int) (na ca : Nat) (C : Int) (Z : Option Addr) (zs : List Int) (nz cz : Nat) (hyn : Hid (ys.length = yn)) (hbn : Hid (rows.length = bn)) (eu : Hid (al.length = na)) (hzn : Hid (zs.length = nz)) (hna : na < 1000000) (hnz : nz < 1000000) (hQ : Q < 9223372036854775808) (s : ByteArray) (hs : s.size ≤ 1000) (HC : Hid (rY P Q G C ys rows al zs = true)) (hr : Hid (gU (aX s) = false)) (w : World) (hY : Hid (Sl w Y ys)) (hB : Hid (Rw w B rows)) (hA : Hid (Sl w A al)) (hZ : Hid (Sl w Z zs)) :
  Calls Tryz.prog 173 #[gv P Q G, ig Y yn yc B bn bc, .string s, iO A na ca C Z nz cz] w (Rt w (.bool false)) := by
 obtain ⟨w0, HW, aj, kC⟩ := sW (bq P Q G) fE (jI Y yn yc B bn bc) rq (fe A na ca C Z nz cz) qz w
 have kY := mkS aj hY
 have kB := fq (fun u => Rw u B rows) aj hB (·.below)
 have kA := mkS aj hA
 have kZ := mkS aj hZ
 have ah := bP w0
 clear hY hB hA hZ
 go_in
 go_wp2_with fail
 rw [HW.out]
 have hO := kC
 refine iW [] ah (fun hHeld => ?_)
 refine aL 0 ?_
 refine aL 1 ?_
 refine aL 2 ?_
 refine bY 3 fun K hK => ?_
 go_simp
 (with_reducible refine (uu P Q G Y ys yn yc B rows bn bc A al na ca C Z zs nz cz hyn hbn eu hzn hna hnz hQ true HC _ ?_ ?_ ?_ ?_).mono ?_); (go_split_ands; exact kY.out _ (by assumption)); (go_split_ands; exact kB.out _ (by assumption)); (go_split_ands; exact kA.out _ (by assumption)); (go_split_ands; exact kZ.out _ (by assumption)); rintro e wA ⟨rfl, bS⟩
 refine hK.out _ _ (bF hHeld bS) (fun hHeld => ?_)
 clear hK K
 try simp only [qq]
 refine aL 4 ?_
 refine aL 5 ?_
 refine bY 6 fun K hK => ?_
 go_simp
 (with_reducible refine (qg s hs false hr _).mono ?_); rintro e wB ⟨rfl, rfl⟩
 refine hK.out _ _ hHeld (fun hHeld => ?_)
 clear hK K
 try simp only [qq]
 refine aL 7 ?_
 refine aL 8 ?_
 refine ek 9 10 11 12 ?_
 refine ek 13 14 15 16 ?_
 refine jD 17 ?_
 refine aL 18 ?_
 refine aL 19 ?_
 refine gH ?_
 have fM := hHeld
 have bV := ag aj.out fM.out
 go_wp2
 go_ret
 exact ⟨rfl, bV⟩
theorem SH (P Q G : Int) (Y : Option Addr) (ys : List Int) (yn yc : Nat) (B : Option Addr) (rows : List Row) (bn bc : Nat) (A : Option Addr) (al : List Int) (na ca : Nat) (C : Int) (Z : Option Addr) (zs : List Int) (nz cz : Nat) (hyn : Hid (ys.length = yn)) (hbn : Hid (rows.length = bn)) (eu : Hid (al.length = na)) (hzn : Hid (zs.length = nz)) (hna : na < 1000000) (hnz : nz < 1000000) (hQ : Q < 9223372036854775808) (s : ByteArray) (hs : s.size ≤ 1000) (HC : Hid (rY P Q G C ys rows al zs = true)) (hr : Hid (gU (aX s) = true)) (xu : bn ≤ 900) (L_ : Hid (uy [P, Q, G])) (L8 : Hid (uy ys)) (Ma : Hid (uy al)) (L9 : Hid (∀ k, k < rows.length → uy (rows.getD k di).xs)) (RD : 2 ≤ Q) (RB : Q < 2305843009213693952) (V : Int) (HV : Kp (zO P Q G (aX s) ys rows al = V)) (w : World) (hY : Hid (Sl w Y ys)) (hB : Hid (Rw w B rows)) (hA : Hid (Sl w A al)) (hZ : Hid (Sl w Z zs)) :
  Calls Tryz.prog 173 #[gv P Q G, ig Y yn yc B bn bc, .string s, iO A na ca C Z nz cz] w (Rt w (.bool (C == V))) := by
 obtain ⟨w0, HW, aj, kC⟩ := sW (bq P Q G) fE (jI Y yn yc B bn bc) rq (fe A na ca C Z nz cz) qz w
 have kY := mkS aj hY
 have kB := fq (fun u => Rw u B rows) aj hB (·.below)
 have kA := mkS aj hA
 have kZ := mkS aj hZ
 have ah := bP w0
 clear hY hB hA hZ
 go_in
 go_wp2_with fail
 rw [HW.out]
 have hO := kC
 refine iW [] ah (fun hHeld => ?_)
 refine aL 0 ?_
 refine aL 1 ?_
 refine aL 2 ?_
 refine bY 3 fun K hK => ?_
 go_simp
 (with_reducible refine (uu P Q G Y ys yn yc B rows bn bc A al na ca C Z zs nz cz hyn hbn eu hzn hna hnz hQ true HC _ ?_ ?_ ?_ ?_).mono ?_); (go_split_ands; exact kY.out _ (by assumption)); (go_split_ands; exact kB.out _ (by assumption)); (go_split_ands; exact kA.out _ (by assumption)); (go_split_ands; exact kZ.out _ (by assumption)); rintro e wA ⟨rfl, bS⟩
 refine hK.out _ _ (bF hHeld bS) (fun hHeld => ?_)
 clear hK K
 try simp only [qq]
 refine aL 4 ?_
 refine aL 5 ?_
 refine bY 6 fun K hK => ?_
 go_simp
 (with_reducible refine (qg s hs true hr _).mono ?_); rintro e wB ⟨rfl, rfl⟩
 refine hK.out _ _ hHeld (fun hHeld => ?_)
 clear hK K
 try simp only [qq]
 refine aU 7 8 9 10 ?_
 refine aU 11 12 13 14 ?_
 refine aL 15 ?_
 refine bY 16 fun K hK => ?_
 go_simp
 (with_reducible refine (FX P Q G Y ys yn yc B rows bn bc A al na ca s hs hr hyn hbn eu xu L_ L8 Ma L9 RD RB V HV _ ?_ ?_ ?_).mono ?_); (go_split_ands; exact kY.out _ (by assumption)); (go_split_ands; exact kB.out _ (by assumption)); (go_split_ands; exact kA.out _ (by assumption)); rintro e wA ⟨rfl, bS⟩
 refine hK.out _ _ (bF hHeld bS) (fun hHeld => ?_)
 clear hK K
 try simp only [qq]
 refine aL 17 ?_
 refine aL 18 ?_
 refine aL 19 ?_
 refine gH ?_
 have fM := hHeld
 have bV := ag aj.out fM.out
 go_wp2
 go_ret
 exact ⟨rfl, bV⟩
theorem Lg (P Q G : Int) (Y : Option Addr) (ys : List Int) (yn yc : Nat) (B : Option Addr) (rows : List Row) (bn bc : Nat) (A : Option Addr) (al : List Int) (na ca : Nat) (C : Int) (Z : Option Addr) (zs : List Int) (nz cz : Nat) (hyn : Hid (ys.length = yn)) (hbn : Hid (rows.length = bn)) (eu : Hid (al.length = na)) (hzn : Hid (zs.length = nz)) (hna : na < 1000000) (hnz : nz < 1000000) (hQ : Q < 9223372036854775808) (s : ByteArray) (hs : s.size ≤ 1000) (r : Bool) (hr : Kp (wI P Q G C (aX s) ys rows al zs = r)) (w : World) (hY : Hid (Sl w Y ys)) (hB : Hid (Rw w B rows)) (hA : Hid (Sl w A al)) (hZ : Hid (Sl w Z zs)) :
  Calls Tryz.prog 173 #[gv P Q G, ig Y yn yc B bn bc, .string s, iO A na ca C Z nz cz] w (Rt w (.bool r)) := by
 cases hc : rY P Q G C ys rows al zs with
 | false =>
  obtain rfl : r = false := by rw [← hr.1, wI, hc]; rfl
  exact SL P Q G Y ys yn yc B rows bn bc A al na ca C Z zs nz cz hyn hbn eu hzn hna hnz hQ s hs (aa hc) w hY hB hA hZ
 | true =>
  have hcc := hc
  simp only [rY, Bool.and_eq_true] at hcc
  obtain ⟨hg, hcb⟩ := hcc
  obtain ⟨v1, v2, v3, v4, v5, v6, v7, v8⟩ := bM hg
  obtain ⟨p1, p2, p3, p4⟩ := b_ v1
  obtain ⟨L_, L8, L9⟩ := Dy hg hB.out
  have xu : bn ≤ 900 := by rw [← hbn.out]; omega
  have Ma : uy al := by rw [← (qx hcb).2.2.2.2]; exact DU p1 p2 (by omega)
  cases hlb : gU (aX s) with
  | false =>
   obtain rfl : r = false := by rw [← hr.1, wI, hlb, Bool.false_and, Bool.and_false]
   exact SI P Q G Y ys yn yc B rows bn bc A al na ca C Z zs nz cz hyn hbn eu hzn hna hnz hQ s hs (aa hc) (aa hlb) w hY hB hA hZ
  | true =>
   obtain ⟨V, hV⟩ : ∃ V, zO P Q G (aX s) ys rows al = V := ⟨_, rfl⟩
   obtain rfl : (C == V) = r := by
    rw [← hr.1, wI, hc, hlb, hV, Bool.true_and, Bool.true_and, Bool.eq_iff_iff]
    simp only [beq_iff_eq]
    exact eq_comm
   exact SH P Q G Y ys yn yc B rows bn bc A al na ca C Z zs nz cz hyn hbn eu hzn hna hnz hQ s hs (aa hc) (aa hlb) xu (aa L_) (aa L8) (aa Ma) (aa L9) (by omega) (by omega) V ⟨hV⟩ w hY hB hA hZ
theorem EE (P Q G : Int) (b : Nat) (n c : Nat) (hv0 : Hid (bg P Q G = false)) (hQ : Q < 9223372036854775808) (w : World) (hv : Hid (Vars w)) :
  Calls Tryz.prog 200 #[gv P Q G, .slice (some ⟨b, 0, none⟩) n c] w (Rt w (.int .i64 1)) := by
 have HB0 := aa (a_ w P Q G)
 have pQ := aa (hv.out.below (af w (bq P Q G)))
 go_in
 go_wp2_with fail
 refine (dD P Q G false hv0 hQ _ pQ).mono ?_
 rintro e w1 ⟨rfl, hb0⟩
 have hb1 := ag (af _ _) hb0
 clear hb0
 go_wp2
 go_ret
 exact ⟨rfl, hb1⟩
theorem CK (P Q G : Int) (b : Nat) (xs : List Int) (c : Nat) (hlen : xs.length < 1000) (r : Int) (hr : Hid ((if xs.all (aW P Q) = true then 0 else 2) = r)) (hv0 : Hid (bg P Q G = true)) (hQ : Q < 9223372036854775808) (w : World) (hv : Hid (Vars w)) (hc : Hid (Cells w b xs)) :
  Calls Tryz.prog 200 #[gv P Q G, .slice (some ⟨b, 0, none⟩) xs.length c] w (Rt w (.int .i64 r)) := by
 obtain ⟨hp2, hp, hq3, Cv⟩ := b_ hv0.out
 have HB0 := aa (a_ w P Q G)
 have pQ := aa (hv.out.below (af w (bq P Q G)))
 have uI := aa (hc.out.below (af w (bq P Q G)))
 obtain ⟨n, hn⟩ : ∃ n, xs.length = n := ⟨_, rfl⟩
 rw [hn] at hlen ⊢
 have HN := aa hn
 clear hn
 go_in
 go_wp2_with fail
 refine (dD P Q G true hv0 hQ _ pQ).mono ?_
 rintro e w1 ⟨rfl, hb0⟩
 have HB1 := aa (ag (af _ _) hb0)
 have Zh := aa hb0
 have Q6 := aa (HB0.out.below hb0)
 have q9 := aa (uI.out.below hb0)
 clear hb0
 go_wp2
 go_loopw [12] (fun i wr => ∃ k : Nat, k ≤ n ∧ i = .int .i64 k ∧ Hid (xs.all (aW P Q) = (xs.drop k).all (aW P Q)) ∧ Hid (Below w1.heap.size w1 wr)) (fun i _ => n - (intOf i).toNat)
 case atStart => exact ⟨0, by omega, rfl, aa rfl, aa (Below.refl _ _)⟩
 case round =>
  obtain ⟨k, hk, rfl, HR, aF⟩ := hrel
  by_cases hlt : k < n
  ·
   have hkl : k < xs.length := by rw [HN.out]; exact hlt
   have hi := q9.out.below aF.out k hkl
   obtain ⟨c0, c1, c2⟩ := Q6.out.below aF.out
   cases hm : aW P Q (xs.getD k 0) with
   | true =>
    have HS : Hid (xs.all (aW P Q) = (xs.drop (k + 1)).all (aW P Q)) := aa (HR.out.trans (kW hkl hm))
    obtain ⟨x, hx⟩ : ∃ x, xs.getD k 0 = x := ⟨_, rfl⟩
    rw [hx] at hi hm
    have HM := aa hm
    clear hx hm HR hkl
    go_wp2_with fail
    refine (mM P Q G x true (aa (by rw [GM, hv0.out, HM.out]; rfl)) hQ _ (aa (pQ.out.below (ag Zh.out aF.out)))).mono ?_
    rintro e w2 ⟨rfl, hb0⟩
    have HB2 := aa (ag aF.out hb0)
    clear hb0
    go_wp2
    go_roundw
    case rel => exact ⟨k + 1, by omega, by go_num, HS, HB2⟩
    case measure => simp [intOf]; omega
   | false =>
    obtain rfl : r = 2 := by rw [← hr.out, HR.out, mO hkl hm]; rfl
    obtain ⟨x, hx⟩ : ∃ x, xs.getD k 0 = x := ⟨_, rfl⟩
    rw [hx] at hi hm
    have HM := aa hm
    clear hx hm HR hkl
    go_wp2_with fail
    refine (mM P Q G x false (aa (by rw [GM, hv0.out, HM.out]; rfl)) hQ _ (aa (pQ.out.below (ag Zh.out aF.out)))).mono ?_
    rintro e w2 ⟨rfl, hb0⟩
    have HB2 := aa (ag (ag HB1.out aF.out) hb0)
    clear hb0
    go_wp2
    go_ret
    exact ⟨rfl, HB2.out⟩
  ·
   obtain rfl : k = n := by omega
   obtain rfl : r = 0 := by rw [← hr.out, HR.out, ← HN.out]; simp
   have HB2 := aa (ag HB1.out aF.out)
   clear HR
   go_wp2
   go_ret
   exact ⟨rfl, HB2.out⟩
theorem xN (P Q G : Int) (b : Nat) (xs : List Int) (n c : Nat) (hn : Hid (xs.length = n)) (hlen : n < 1000) (r : Int) (hr : Hid (nN P Q G xs = r)) (hQ : Q < 9223372036854775808) (w : World) (hv : Hid (Vars w)) (hc : Hid (Cells w b xs)) :
  Calls Tryz.prog 200 #[gv P Q G, .slice (some ⟨b, 0, none⟩) n c] w (Rt w (.int .i64 r)) := by
 cases hval : bg P Q G with
 | false =>
  obtain rfl : r = 1 := by rw [← hr.out, nN, hval]; rfl
  exact EE P Q G b n c hval hQ w hv
 | true =>
  rw [← hn.out]
  refine CK P Q G b xs c (by rw [hn.out]; exact hlen) r ?_ hval hQ w hv hc
  rw [← hr.out, nN, if_pos hval]; exact rfl
def oP (A1 B1 : Option Addr) (a b : Int) : List Row := [⟨A1, 1, 1, [a]⟩, ⟨B1, 1, 1, [b]⟩]
def R_ (a ya b yb : Int) (w : World) (e : Ending) (w' : World) : Prop := ∃ Y B A1 B1, e = .returned (ig Y 2 2 B 2 2) ∧ Sl w' Y [ya, yb] ∧ Rw w' B (oP A1 B1 a b) ∧ Below w.heap.size w w'
theorem five (w : World) (o1 o2 o3 o4 o5 : Obj) : let W := ((((w.alloc o1).alloc o2).alloc o3).alloc o4).alloc o5
  W.heap[w.heap.size]? = some o1 ∧ W.heap[w.heap.size + 1]? = some o2 ∧ W.heap[w.heap.size + 1 + 1]? = some o3 ∧ W.heap[w.heap.size + 1 + 1 + 1]? = some o4 ∧ W.heap[w.heap.size + 1 + 1 + 1 + 1]? = some o5 ∧ Below w.heap.size w W := by
 have e1 : (w.alloc o1).heap.size = w.heap.size + 1 := by simp
 have e2 : ((w.alloc o1).alloc o2).heap.size = w.heap.size + 1 + 1 := by simp
 have e3 : (((w.alloc o1).alloc o2).alloc o3).heap.size = w.heap.size + 1 + 1 + 1 := by simp
 have e4 : ((((w.alloc o1).alloc o2).alloc o3).alloc o4).heap.size = w.heap.size + 1 + 1 + 1 + 1 := by simp
 have b1 := af (w.alloc o1) o2
 have b2 := ag b1 (af _ o3)
 have b3 := ag b2 (af _ o4)
 have b4 := ag b3 (af _ o5)
 have c2 := ag (ag (af ((w.alloc o1).alloc o2) o3) (af _ o4)) (af _ o5)
 have c3 := ag (af (((w.alloc o1).alloc o2).alloc o3) o4) (af _ o5)
 have c4 := af ((((w.alloc o1).alloc o2).alloc o3).alloc o4) o5
 refine ⟨(b4.block _ (by omega)).trans (heap_alloc_new _ _), (c2.block _ (by omega)).trans ?_, (c3.block _ (by omega)).trans ?_, (c4.block _ (by omega)).trans ?_, ?_, ag (af w o1) b4⟩
 · rw [← e1]; exact heap_alloc_new _ _
 · rw [← e2]; exact heap_alloc_new _ _
 · rw [← e3]; exact heap_alloc_new _ _
 · rw [← e4]; exact heap_alloc_new _ _
theorem oL {w : World} {g : Nat} {cs : Array Value} {T : TypeId} {xs : List Int} (h : w.heap[g]? = some (.cells cs T)) (hc : ∀ k, k < xs.length → cs[k]? = some (.int .i64 (xs.getD k 0))) : Sl w (some ⟨g, 0, none⟩) xs :=
 fun k hk => ⟨g, 0, rfl, by rw [Nat.zero_add, au h]; exact hc k hk⟩
theorem FR {w : World} {g : Nat} {T : TypeId} {A1 B1 : Option Addr} {a b : Int} (h : w.heap[g]? = some (.cells #[.slice A1 1 1, .slice B1 1 1] T)) (ha : Sl w A1 [a]) (hb : Sl w B1 [b]) : Rw w (some ⟨g, 0, none⟩) (oP A1 B1 a b) := fun k hk => by
 match k, hk with
 | 0, _ => exact ⟨⟨g, 0, rfl, by rw [au h]; rfl⟩, rfl, ha⟩
 | 1, _ => exact ⟨⟨g, 0, rfl, by rw [au h]; rfl⟩, rfl, hb⟩
theorem Ay (a ya b yb : Int) (w : World) : Calls Tryz.prog 202 #[.int .i64 a, .int .i64 ya, .int .i64 b, .int .i64 yb] w (R_ a ya b yb w) := by
 go_in
 go_wp2
 obtain ⟨h0, h1, h2, h3, h4, hb⟩ := five w (.cells #[.slice (some ⟨w.heap.size + 1, 0, none⟩) 2 2, .slice (some ⟨w.heap.size + 1 + 1 + 1 + 1, 0, none⟩) 2 2] 189) (.cells #[.int .i64 ya, .int .i64 yb] 3) (.cells #[.int .i64 a] 3) (.cells #[.int .i64 b] 3) (.cells #[.slice (some ⟨w.heap.size + 1 + 1, 0, none⟩) 1 1, .slice (some ⟨w.heap.size + 1 + 1 + 1, 0, none⟩) 1 1] 24)
 exact bodyPost_ret (v := ig (some ⟨w.heap.size + 1, 0, none⟩) 2 2 (some ⟨w.heap.size + 1 + 1 + 1 + 1, 0, none⟩) 2 2) (aD (p := 8) (ty := 189) rfl _ _ ⟨w.heap.size, 0, none⟩ _ rfl (run_loadVar_row _ _ _ _ _ _ _ h0 Tryz.underlying189 rfl (by kernel_rfl))) rfl
  ⟨_, _, some ⟨w.heap.size + 1 + 1, 0, none⟩, some ⟨w.heap.size + 1 + 1 + 1, 0, none⟩, rfl, oL h1 (fun k hk => by match k, hk with | 0, _ => rfl | 1, _ => rfl), FR h4 (oL h2 (fun k hk => by match k, hk with | 0, _ => rfl)) (oL h3 (fun k hk => by match k, hk with | 0, _ => rfl)), hb⟩
theorem zh (a ya b yb : Int) (w : World) : Calls Tryz.prog 174 #[.int .i64 a, .int .i64 ya, .int .i64 b, .int .i64 yb] w (R_ a ya b yb w) := by
 go_in
 go_wp2
 obtain ⟨h0, h1, h2, h3, h4, hb⟩ := five w (.cells #[.slice (some ⟨w.heap.size + 1, 0, none⟩) 2 2, .slice (some ⟨w.heap.size + 1 + 1 + 1 + 1, 0, none⟩) 2 2] 189) (.cells #[.int .i64 ya, .int .i64 yb] 3) (.cells #[.int .i64 a] 3) (.cells #[.int .i64 b] 3) (.cells #[.slice (some ⟨w.heap.size + 1 + 1, 0, none⟩) 1 1, .slice (some ⟨w.heap.size + 1 + 1 + 1, 0, none⟩) 1 1] 24)
 exact bodyPost_ret (v := ig (some ⟨w.heap.size + 1, 0, none⟩) 2 2 (some ⟨w.heap.size + 1 + 1 + 1 + 1, 0, none⟩) 2 2) (aD (p := 8) (ty := 189) rfl _ _ ⟨w.heap.size, 0, none⟩ _ rfl (run_loadVar_row _ _ _ _ _ _ _ h0 Tryz.underlying189 rfl (by kernel_rfl))) rfl
  ⟨_, _, some ⟨w.heap.size + 1 + 1, 0, none⟩, some ⟨w.heap.size + 1 + 1 + 1, 0, none⟩, rfl, oL h1 (fun k hk => by match k, hk with | 0, _ => rfl | 1, _ => rfl), FR h4 (oL h2 (fun k hk => by match k, hk with | 0, _ => rfl)) (oL h3 (fun k hk => by match k, hk with | 0, _ => rfl)), hb⟩
theorem NK (w : World) (T : TypeId) (a b c d : Int) : Cells (w.alloc (.cells #[.int .i64 a, .int .i64 b, .int .i64 c, .int .i64 d] T)) w.heap.size [a, b, c, d] := by
 intro k hk
 rw [World.cell?_alloc_at _ _ _ _ rfl]
 match k, hk with
 | 0, _ => rfl
 | 1, _ => rfl
 | 2, _ => rfl
 | 3, _ => rfl
def Br (P Q G a ya b yb C : Int) (lb al zs : List Int) : Bool := nN P Q G [a, ya, b, yb] == 0 && wI P Q G C lb [ya, yb] (oP none none a b) al zs
theorem AY {P Q G a b C : Int} {lb ys al zs : List Int} (A1 B1 : Option Addr) : wI P Q G C lb ys (oP A1 B1 a b) al zs = wI P Q G C lb ys (oP none none a b) al zs := rfl
theorem UI (P Q G a ya b yb : Int) (A : Option Addr) (al : List Int) (na ca : Nat) (C : Int) (Z : Option Addr) (zs : List Int) (nz cz : Nat) (eu : Hid (al.length = na)) (hzn : Hid (zs.length = nz)) (hna : na < 1000000) (hnz : nz < 1000000) (hQ : Q < 9223372036854775808) (s : ByteArray) (r : Int) (HCK : Hid (nN P Q G [a, ya, b, yb] = r)) (hne : (r == 0) = false) (w : World) (hv : Hid (Vars w)) (hd : Hid (bz w)) (hA : Hid (Sl w A al)) (hZ : Hid (Sl w Z zs)) :
  Calls Tryz.prog 168 #[gv P Q G, .int .i64 a, .int .i64 ya, .int .i64 b, .int .i64 yb, .string s, iO A na ca C Z nz cz] w (Rt w (.bool false)) := by
 have e0 : ((r : Int) == 0) = false := by simpa using hne
 obtain ⟨w0, HW, aj, kC⟩ := st2 (bq P Q G) fE (fe A na ca C Z nz cz) qz w
 have kV := mkV aj hv
 have kA := mkS aj hA
 have kZ := mkS aj hZ
 have kD := o6 aj hd
 have ah := bP w0
 clear hv hd hA hZ
 go_in
 go_wp2_with fail
 rw [HW.out]
 have hO := kC
 refine iW [] ah (fun hHeld => ?_)
 refine aU 0 1 2 3 ?_
 refine aL 4 ?_
 refine bY 5 fun K hK => ?_
 go_simp
 refine hK.out _ _ (bF hHeld (af _ _)) (fun hHeld => ?_)
 clear hK K
 try simp only [qq]
 refine bY 6 fun K hK => ?_
 go_simp
 refine (xN P Q G w0.heap.size [a, ya, b, yb] 4 4 (aa rfl) (by omega) r HCK hQ _ (kV.out _ hHeld) (aa (NK w0.drew _ a ya b yb))).mono ?_
 rintro e wA ⟨rfl, bS⟩
 refine hK.out _ _ (bF hHeld bS) (fun hHeld => ?_)
 clear hK K
 try simp only [qq]
 refine aL 7 ?_
 refine aL 8 ?_
 refine ek 9 10 11 12 ?_
 refine ek 13 14 15 16 ?_
 refine jD 17 ?_
 refine aL 18 ?_
 refine aL 19 ?_
 refine gH ?_
 have fM := hHeld
 have bV := ag aj.out fM.out
 go_wp2
 go_ret
 exact ⟨rfl, bV⟩
theorem UH (P Q G a ya b yb : Int) (A : Option Addr) (al : List Int) (na ca : Nat) (C : Int) (Z : Option Addr) (zs : List Int) (nz cz : Nat) (eu : Hid (al.length = na)) (hzn : Hid (zs.length = nz)) (hna : na < 1000000) (hnz : nz < 1000000) (hQ : Q < 9223372036854775808) (s : ByteArray) (hs : s.size ≤ 1000) (HCK : Hid (nN P Q G [a, ya, b, yb] = 0)) (r : Bool) (qH : Kp (wI P Q G C (aX s) [ya, yb] (oP none none a b) al zs = r)) (w : World) (hv : Hid (Vars w)) (hd : Hid (bz w)) (hA : Hid (Sl w A al)) (hZ : Hid (Sl w Z zs)) :
  Calls Tryz.prog 168 #[gv P Q G, .int .i64 a, .int .i64 ya, .int .i64 b, .int .i64 yb, .string s, iO A na ca C Z nz cz] w (Rt w (.bool r)) := by
 obtain ⟨w0, HW, aj, kC⟩ := st2 (bq P Q G) fE (fe A na ca C Z nz cz) qz w
 have kV := mkV aj hv
 have kA := mkS aj hA
 have kZ := mkS aj hZ
 have kD := o6 aj hd
 have ah := bP w0
 clear hv hd hA hZ
 go_in
 go_wp2_with fail
 rw [HW.out]
 have hO := kC
 refine iW [] ah (fun hHeld => ?_)
 refine aU 0 1 2 3 ?_
 refine aL 4 ?_
 refine bY 5 fun K hK => ?_
 go_simp
 refine hK.out _ _ (bF hHeld (af _ _)) (fun hHeld => ?_)
 clear hK K
 try simp only [qq]
 refine bY 6 fun K hK => ?_
 go_simp
 refine (xN P Q G w0.heap.size [a, ya, b, yb] 4 4 (aa rfl) (by omega) 0 HCK hQ _ (kV.out _ hHeld) (aa (NK w0.drew _ a ya b yb))).mono ?_
 rintro e wA ⟨rfl, bS⟩
 refine hK.out _ _ (bF hHeld bS) (fun hHeld => ?_)
 clear hK K
 try simp only [qq]
 refine aU 7 8 9 10 ?_
 refine aU 11 12 13 15 ?_
 refine aL 16 ?_
 refine bY 14 fun K hK => ?_
 go_simp
 refine (Ay a ya b yb _).mono ?_
 intro e wB hR
 obtain ⟨Y, B, A1, B1, rfl, hY, hB, bS⟩ := hR
 refine hK.out _ _ (bF hHeld bS) (fun hHeld => ?_)
 clear hK K
 try simp only [qq]
 refine bY 17 fun K hK => ?_
 go_simp
 refine (Mg P Q G Y [ya, yb] 2 2 B (oP A1 B1 a b) 2 2 A al na ca C Z zs nz cz (aa rfl) (aa rfl) eu hzn hna hnz hQ s hs r ⟨(AY A1 B1).trans qH.1⟩ _ (kV.out _ hHeld) (kD.out _ hHeld) (aa hY) (aa hB) (kA.out _ hHeld) (kZ.out _ hHeld)).mono ?_
 rintro e wC ⟨rfl, bS⟩
 refine hK.out _ _ (bF hHeld bS) (fun hHeld => ?_)
 clear hK K
 try simp only [qq]
 refine aL 18 ?_
 refine aL 19 ?_
 refine gH ?_
 have fM := hHeld
 have bV := ag aj.out fM.out
 go_wp2
 go_ret
 exact ⟨rfl, bV⟩
theorem Nl (P Q G a ya b yb : Int) (A : Option Addr) (al : List Int) (na ca : Nat) (C : Int) (Z : Option Addr) (zs : List Int) (nz cz : Nat) (eu : Hid (al.length = na)) (hzn : Hid (zs.length = nz)) (hna : na < 1000000) (hnz : nz < 1000000) (hQ : Q < 9223372036854775808) (s : ByteArray) (hs : s.size ≤ 1000) (r : Bool) (hr : Kp (Br P Q G a ya b yb C (aX s) al zs = r)) (w : World) (hv : Hid (Vars w)) (hd : Hid (bz w)) (hA : Hid (Sl w A al)) (hZ : Hid (Sl w Z zs)) :
  Calls Tryz.prog 168 #[gv P Q G, .int .i64 a, .int .i64 ya, .int .i64 b, .int .i64 yb, .string s, iO A na ca C Z nz cz] w (Rt w (.bool r)) := by
 obtain ⟨k, hk⟩ : ∃ k, nN P Q G [a, ya, b, yb] = k := ⟨_, rfl⟩
 have hr' := hr.1
 rw [Br, hk] at hr'
 cases h0 : (k == 0) with
 | false =>
  obtain rfl : r = false := by rw [← hr', h0]; rfl
  exact UI P Q G a ya b yb A al na ca C Z zs nz cz eu hzn hna hnz hQ s k (aa hk) h0 w hv hd hA hZ
 | true =>
  obtain rfl : k = 0 := by simpa using h0
  exact UH P Q G a ya b yb A al na ca C Z zs nz cz eu hzn hna hnz hQ s hs (aa hk) r ⟨by rw [← hr']; simp⟩ w hv hd hA hZ
theorem aa9 (P Q G a ya b yb : Int) (HV : Hid (bg P Q G = false)) (hQ : Q < 9223372036854775808) (w : World) :
  Calls Tryz.prog 172 #[gv P Q G, .int .i64 a, .int .i64 ya, .int .i64 b, .int .i64 yb] w (Rt w (.int .i64 1)) := by
 obtain ⟨w0, HW, aj, kC⟩ := st1 (bq P Q G) qz w
 have ah := bP w0
 go_in
 go_wp2_with fail
 rw [HW.out]
 have zc := kC.out _ ah
 go_wp2_with fail
 clear zc
 refine eH kC ah (bW P Q G false HV hQ _) fun w1 ax zc => ?_
 go_wp2
 go_ret
 exact ⟨rfl, gy aj ax⟩
theorem abe (P Q G a ya b yb : Int) (HV : Hid (bg P Q G = true)) (QW : Hid (aW P Q a = false)) (hQ : Q < 9223372036854775808) (w : World) :
  Calls Tryz.prog 172 #[gv P Q G, .int .i64 a, .int .i64 ya, .int .i64 b, .int .i64 yb] w (Rt w (.int .i64 2)) := by
 obtain ⟨hp2, hp, hq3, Cv⟩ := b_ HV.out
 obtain ⟨w0, HW, aj, kC⟩ := st1 (bq P Q G) qz w
 have ah := bP w0
 go_in
 go_wp2_with fail
 rw [HW.out]
 have zc := kC.out _ ah
 go_wp2_with fail
 clear zc
 refine eH kC ah (bW P Q G true HV hQ _) fun w1 ax zc => ?_
 go_wp2_with fail
 clear zc
 refine eH kC ax (bD P Q G a false QW hp (by omega) hQ _) fun w2 aK zc => ?_
 go_wp2
 go_ret
 exact ⟨rfl, gy aj aK⟩
theorem abd (P Q G a ya b yb : Int) (HV : Hid (bg P Q G = true)) (QW : Hid (aW P Q a = true)) (Vl : Hid (aW P Q ya = false)) (hQ : Q < 9223372036854775808) (w : World) :
  Calls Tryz.prog 172 #[gv P Q G, .int .i64 a, .int .i64 ya, .int .i64 b, .int .i64 yb] w (Rt w (.int .i64 2)) := by
 obtain ⟨hp2, hp, hq3, Cv⟩ := b_ HV.out
 obtain ⟨w0, HW, aj, kC⟩ := st1 (bq P Q G) qz w
 have ah := bP w0
 go_in
 go_wp2_with fail
 rw [HW.out]
 have zc := kC.out _ ah
 go_wp2_with fail
 clear zc
 refine eH kC ah (bW P Q G true HV hQ _) fun w1 ax zc => ?_
 go_wp2_with fail
 clear zc
 refine eH kC ax (bD P Q G a true QW hp (by omega) hQ _) fun w2 aK zc => ?_
 go_wp2_with fail
 clear zc
 refine eH kC aK (bD P Q G ya false Vl hp (by omega) hQ _) fun w3 aN zc => ?_
 go_wp2
 go_ret
 exact ⟨rfl, gy aj aN⟩
theorem abb (P Q G a ya b yb : Int) (HV : Hid (bg P Q G = true)) (QW : Hid (aW P Q a = true)) (Vl : Hid (aW P Q ya = true)) (YR : Hid (aW P Q b = false)) (hQ : Q < 9223372036854775808) (w : World) :
  Calls Tryz.prog 172 #[gv P Q G, .int .i64 a, .int .i64 ya, .int .i64 b, .int .i64 yb] w (Rt w (.int .i64 2)) := by
 obtain ⟨hp2, hp, hq3, Cv⟩ := b_ HV.out
 obtain ⟨w0, HW, aj, kC⟩ := st1 (bq P Q G) qz w
 have ah := bP w0
 go_in
 go_wp2_with fail
 rw [HW.out]
 have zc := kC.out _ ah
 go_wp2_with fail
 clear zc
 refine eH kC ah (bW P Q G true HV hQ _) fun w1 ax zc => ?_
 go_wp2_with fail
 clear zc
 refine eH kC ax (bD P Q G a true QW hp (by omega) hQ _) fun w2 aK zc => ?_
 go_wp2_with fail
 clear zc
 refine eH kC aK (bD P Q G ya true Vl hp (by omega) hQ _) fun w3 aN zc => ?_
 go_wp2_with fail
 clear zc
 refine eH kC aN (bD P Q G b false YR hp (by omega) hQ _) fun w4 dQ zc => ?_
 go_wp2
 go_ret
 exact ⟨rfl, gy aj dQ⟩
theorem aba (P Q G a ya b yb : Int) (HV : Hid (bg P Q G = true)) (QW : Hid (aW P Q a = true)) (Vl : Hid (aW P Q ya = true)) (YR : Hid (aW P Q b = true)) (HM3 : Hid (aW P Q yb = false)) (hQ : Q < 9223372036854775808) (w : World) :
  Calls Tryz.prog 172 #[gv P Q G, .int .i64 a, .int .i64 ya, .int .i64 b, .int .i64 yb] w (Rt w (.int .i64 2)) := by
 obtain ⟨hp2, hp, hq3, Cv⟩ := b_ HV.out
 obtain ⟨w0, HW, aj, kC⟩ := st1 (bq P Q G) qz w
 have ah := bP w0
 go_in
 go_wp2_with fail
 rw [HW.out]
 have zc := kC.out _ ah
 go_wp2_with fail
 clear zc
 refine eH kC ah (bW P Q G true HV hQ _) fun w1 ax zc => ?_
 go_wp2_with fail
 clear zc
 refine eH kC ax (bD P Q G a true QW hp (by omega) hQ _) fun w2 aK zc => ?_
 go_wp2_with fail
 clear zc
 refine eH kC aK (bD P Q G ya true Vl hp (by omega) hQ _) fun w3 aN zc => ?_
 go_wp2_with fail
 clear zc
 refine eH kC aN (bD P Q G b true YR hp (by omega) hQ _) fun w4 dQ zc => ?_
 go_wp2_with fail
 clear zc
 refine eH kC dQ (bD P Q G yb false HM3 hp (by omega) hQ _) fun w5 dK zc => ?_
 go_wp2
 go_ret
 exact ⟨rfl, gy aj dK⟩
theorem aa_ (P Q G a ya b yb : Int) (HV : Hid (bg P Q G = true)) (QW : Hid (aW P Q a = true)) (Vl : Hid (aW P Q ya = true)) (YR : Hid (aW P Q b = true)) (HM3 : Hid (aW P Q yb = true)) (hQ : Q < 9223372036854775808) (w : World) :
  Calls Tryz.prog 172 #[gv P Q G, .int .i64 a, .int .i64 ya, .int .i64 b, .int .i64 yb] w (Rt w (.int .i64 0)) := by
 obtain ⟨hp2, hp, hq3, Cv⟩ := b_ HV.out
 obtain ⟨w0, HW, aj, kC⟩ := st1 (bq P Q G) qz w
 have ah := bP w0
 go_in
 go_wp2_with fail
 rw [HW.out]
 have zc := kC.out _ ah
 go_wp2_with fail
 clear zc
 refine eH kC ah (bW P Q G true HV hQ _) fun w1 ax zc => ?_
 go_wp2_with fail
 clear zc
 refine eH kC ax (bD P Q G a true QW hp (by omega) hQ _) fun w2 aK zc => ?_
 go_wp2_with fail
 clear zc
 refine eH kC aK (bD P Q G ya true Vl hp (by omega) hQ _) fun w3 aN zc => ?_
 go_wp2_with fail
 clear zc
 refine eH kC aN (bD P Q G b true YR hp (by omega) hQ _) fun w4 dQ zc => ?_
 go_wp2_with fail
 clear zc
 refine eH kC dQ (bD P Q G yb true HM3 hp (by omega) hQ _) fun w5 dK zc => ?_
 go_wp2
 go_ret
 exact ⟨rfl, gy aj dK⟩
theorem uZ (P Q G a ya b yb r : Int) (hr : Hid (nN P Q G [a, ya, b, yb] = r)) (hQ : Q < 9223372036854775808) (w : World) :
  Calls Tryz.prog 172 #[gv P Q G, .int .i64 a, .int .i64 ya, .int .i64 b, .int .i64 yb] w (Rt w (.int .i64 r)) := by
 have hr' := hr.out
 unfold nN at hr'
 cases hv : bg P Q G with
 | false =>
  obtain rfl : r = 1 := by rw [← hr', hv]; rfl
  exact aa9 P Q G a ya b yb (aa hv) hQ w
 | true =>
  rw [hv, if_pos rfl] at hr'
  simp only [List.all_cons, List.all_nil, Bool.and_true] at hr'
  cases h0 : aW P Q a with
  | false =>
   obtain rfl : r = 2 := by rw [← hr', h0]; rfl
   exact abe P Q G a ya b yb (aa hv) (aa h0) hQ w
  | true =>
   cases h1 : aW P Q ya with
   | false =>
    obtain rfl : r = 2 := by rw [← hr', h0, h1]; rfl
    exact abd P Q G a ya b yb (aa hv) (aa h0) (aa h1) hQ w
   | true =>
    cases h2 : aW P Q b with
    | false =>
     obtain rfl : r = 2 := by rw [← hr', h0, h1, h2]; rfl
     exact abb P Q G a ya b yb (aa hv) (aa h0) (aa h1) (aa h2) hQ w
    | true =>
     cases h3 : aW P Q yb with
     | false =>
      obtain rfl : r = 2 := by rw [← hr', h0, h1, h2, h3]; rfl
      exact aba P Q G a ya b yb (aa hv) (aa h0) (aa h1) (aa h2) (aa h3) hQ w
     | true =>
      obtain rfl : r = 0 := by rw [← hr', h0, h1, h2, h3]; rfl
      exact aa_ P Q G a ya b yb (aa hv) (aa h0) (aa h1) (aa h2) (aa h3) hQ w
def Fa (a ya b yb : Int) (g : Nat) (w : World) : Prop := w.heap[g + 1]? = some (.cells #[.int .i64 ya, .int .i64 yb] 3) ∧ w.heap[g + 1 + 1]? = some (.cells #[.int .i64 a] 3) ∧ w.heap[g + 1 + 1 + 1]? = some (.cells #[.int .i64 b] 3) ∧ w.heap[g + 1 + 1 + 1 + 1]? = some (.cells #[.slice (some ⟨g + 1 + 1, 0, none⟩) 1 1, .slice (some ⟨g + 1 + 1 + 1, 0, none⟩) 1 1] 24)
theorem Fa.set {a ya b yb : Int} {g : Nat} {w : World} (h : Fa a ya b yb g w) {k : Nat} (hk : k < g) (j : Nat) (v : Value) : Fa a ya b yb g (w.setCell ⟨k, j, none⟩ v) := by
 obtain ⟨h1, h2, h3, h4⟩ := h
 refine ⟨?_, ?_, ?_, ?_⟩
 · rw [Go.Deep.blk_setCell_other _ _ _ _ (show g + 1 ≠ k by omega)]; exact h1
 · rw [Go.Deep.blk_setCell_other _ _ _ _ (show g + 1 + 1 ≠ k by omega)]; exact h2
 · rw [Go.Deep.blk_setCell_other _ _ _ _ (show g + 1 + 1 + 1 ≠ k by omega)]; exact h3
 · rw [Go.Deep.blk_setCell_other _ _ _ _ (show g + 1 + 1 + 1 + 1 ≠ k by omega)]; exact h4
theorem Fa.sl {a ya b yb : Int} {g : Nat} {w : World} (h : Fa a ya b yb g w) : Sl w (some ⟨g + 1, 0, none⟩) [ya, yb] ∧ Rw w (some ⟨g + 1 + 1 + 1 + 1, 0, none⟩) (oP (some ⟨g + 1 + 1, 0, none⟩) (some ⟨g + 1 + 1 + 1, 0, none⟩) a b) := by
 obtain ⟨h1, h2, h3, h4⟩ := h
 exact ⟨oL h1 (fun k hk => by match k, hk with | 0, _ => rfl | 1, _ => rfl), FR h4 (oL h2 (fun k hk => by match k, hk with | 0, _ => rfl)) (oL h3 (fun k hk => by match k, hk with | 0, _ => rfl))⟩
def VJ (w : World) (a : Nat) (P Q G A B H : Int) : Prop := (w.cell? ⟨a, 0, none⟩ = some (.int .i64 P) ∧ w.cell? ⟨a, 1, none⟩ = some (.int .i64 Q) ∧ w.cell? ⟨a, 2, none⟩ = some (.int .i64 G)) ∧
 w.cell? ⟨a, 3, none⟩ = some (.int .i64 A) ∧ w.cell? ⟨a, 4, none⟩ = some (.int .i64 B) ∧ w.cell? ⟨a, 5, none⟩ = some (.int .i64 H)
theorem VJ.below {w w' : World} {a : Nat} {P Q G A B H : Int} (h : VJ w a P Q G A B H) (hb : Below w.heap.size w w') : VJ w' a P Q G A B H :=
 have f : ∀ {p : Addr} {v : Value}, w.cell? p = some v → w'.cell? p = some v := fun h => (hb.cell (World.block_lt_of_cell? _ _ h)).trans h
 ⟨⟨f h.1.1, f h.1.2.1, f h.1.2.2⟩, f h.2.1, f h.2.2.1, f h.2.2.2⟩
abbrev J6 (E1 E2 : Int) (A : Option Addr) (na ca : Nat) (C : Int) (Z : Option Addr) (nz cz : Nat) : Value := .agg #[.int .i64 E1, .int .i64 E2, .slice A na ca, .int .i64 C, .slice Z nz cz]
abbrev Nk (E1 E2 : Int) (A : Option Addr) (na ca : Nat) (C : Int) (Z : Option Addr) (nz cz : Nat) : Obj := .cells #[.int .i64 E1, .int .i64 E2, .slice A na ca, .int .i64 C, .slice Z nz cz] 99
def Dt (w : World) (g : Nat) (a b : Int) : Prop := w.heap[g]? = some (.cells #[.int .i64 a, .int .i64 b] 3)
theorem bG {w w' : World} {g : Nat} {o : Obj} (h : w.heap[g]? = some o) (hb : Below w.heap.size w w') : w'.heap[g]? = some o := by
 have hl : g < w.heap.size := (Array.getElem?_eq_some_iff.1 h).1
 exact (hb.block g hl).trans h
theorem Dt.below {w w' : World} {g : Nat} {a b : Int} (h : Dt w g a b) (hb : Below w.heap.size w w') : Dt w' g a b := bG h hb
theorem Dt.new (w : World) (a b : Int) : Dt (w.alloc (.cells #[.int .i64 a, .int .i64 b] 3)) w.heap.size a b := heap_alloc_new _ _
theorem Dt.sl {w : World} {g : Nat} {a b : Int} (h : Dt w g a b) : Sl w (some ⟨g, 0, none⟩) [a, b] := oL h (fun k hk => by match k, hk with | 0, _ => rfl | 1, _ => rfl)
def VQ (w : World) (g gA gB : Nat) : Prop := w.heap[g]? = some (.cells #[.slice (some ⟨gA, 0, none⟩) 2 2, .slice (some ⟨gB, 0, none⟩) 2 2] 24)
theorem VQ.below {w w' : World} {g gA gB : Nat} (h : VQ w g gA gB) (hb : Below w.heap.size w w') : VQ w' g gA gB := bG h hb
theorem VQ.new (w : World) (gA gB : Nat) : VQ (w.alloc (.cells #[.slice (some ⟨gA, 0, none⟩) 2 2, .slice (some ⟨gB, 0, none⟩) 2 2] 24)) w.heap.size gA gB := heap_alloc_new _ _
def UG (A1 B1 : Option Addr) (a b c d : Int) : List Row := [⟨A1, 2, 2, [a, b]⟩, ⟨B1, 2, 2, [c, d]⟩]
def sw (ps a b c d : Int) (gY gA gB gR : Nat) (w : World) : Prop := Dt w gY ps 1 ∧ Dt w gA a b ∧ Dt w gB c d ∧ VQ w gR gA gB
theorem sw.below {ps a b c d : Int} {gY gA gB gR : Nat} {w w' : World} (h : sw ps a b c d gY gA gB gR w) (hb : Below w.heap.size w w') : sw ps a b c d gY gA gB gR w' :=
 ⟨h.1.below hb, h.2.1.below hb, h.2.2.1.below hb, h.2.2.2.below hb⟩
theorem sw.sl {ps a b c d : Int} {gY gA gB gR : Nat} {w : World} (h : sw ps a b c d gY gA gB gR w) : Sl w (some ⟨gY, 0, none⟩) [ps, 1] ∧ Rw w (some ⟨gR, 0, none⟩) (UG (some ⟨gA, 0, none⟩) (some ⟨gB, 0, none⟩) a b c d) := by
 obtain ⟨h1, h2, h3, h4⟩ := h
 refine ⟨h1.sl, fun k hk => ?_⟩
 match k, hk with
 | 0, _ => exact ⟨⟨gR, 0, rfl, by rw [au h4]; rfl⟩, rfl, h2.sl⟩
 | 1, _ => exact ⟨⟨gR, 0, rfl, by rw [au h4]; rfl⟩, rfl, h3.sl⟩
theorem sw.set {ps a b c d : Int} {gY gA gB gR : Nat} {w : World} (h : sw ps a b c d gY gA gB gR w) {k : Nat} (hY : k < gY) (hA : k < gA) (hB : k < gB) (hR : k < gR) (j : Nat) (v : Value) : sw ps a b c d gY gA gB gR (w.setCell ⟨k, j, none⟩ v) := by
 obtain ⟨h1, h2, h3, h4⟩ := h
 refine ⟨?_, ?_, ?_, ?_⟩
 · exact (Go.Deep.blk_setCell_other _ _ _ _ (show gY ≠ k by omega)).trans h1
 · exact (Go.Deep.blk_setCell_other _ _ _ _ (show gA ≠ k by omega)).trans h2
 · exact (Go.Deep.blk_setCell_other _ _ _ _ (show gB ≠ k by omega)).trans h3
 · exact (Go.Deep.blk_setCell_other _ _ _ _ (show gR ≠ k by omega)).trans h4
theorem sw.setRow {ps a b c d : Int} {gY gA gB gR : Nat} {w : World} (h : sw ps a b c d gY gA gB gR w) {k : Nat} (hY : k < gY) (hA : k < gA) (hB : k < gB) (hR : k < gR) (cs : Array Value) : sw ps a b c d gY gA gB gR (w.setRow k cs) := by
 obtain ⟨h1, h2, h3, h4⟩ := h
 exact ⟨(setRow_other _ _ _ _ (by omega)).trans h1, (setRow_other _ _ _ _ (by omega)).trans h2, (setRow_other _ _ _ _ (by omega)).trans h3, (setRow_other _ _ _ _ (by omega)).trans h4⟩
theorem iq (w : World) (A B C : Obj) : (((w.alloc A).alloc B).alloc C).heap[w.heap.size + 2]? = some C := by
 have e : w.heap.size + 2 = ((w.alloc A).alloc B).heap.size := by simp
 rw [e]; exact heap_alloc_new _ _
def N_ (w : World) (g : Nat) : Prop := w.heap[g]? = some (.cells #[.slice none 0 0, .slice none 0 0] 189)
theorem N_.below {w w' : World} {g : Nat} (h : N_ w g) (hb : Below w.heap.size w w') : N_ w' g := bG h hb
theorem N_.setRow {w : World} {g : Nat} (h : N_ w g) (cs : Array Value) : (w.setRow g cs).heap[g]? = some (.cells cs 189) := setRow_heap w g _ _ _ _ h
structure aV where
 ix : Int
 v : Int
 A : Option Addr
 na : Nat
 ca : Nat
 al : List Int
 C : Int
 Z : Option Addr
 nz : Nat
 cz : Nat
 zs : List Int
abbrev aH : aV := ⟨0, 0, none, 0, 0, [], 0, none, 0, 0, []⟩
def vV (w : World) (p : aV) : Prop := p.al.length = p.na ∧ p.zs.length = p.nz ∧ Sl w p.A p.al ∧ Sl w p.Z p.zs
def Pa (w : World) (L : Option Addr) (ps : List aV) : Prop := ∀ k, k < ps.length → ∃ b o, L = some ⟨b, o, none⟩ ∧ w.cell? ⟨b, o + k * 5, none⟩ = some (.int .i64 (ps.getD k aH).ix) ∧ w.cell? ⟨b, o + k * 5 + 1, none⟩ = some (.int .i64 (ps.getD k aH).v) ∧
 w.cell? ⟨b, o + k * 5 + 2, none⟩ = some (.slice (ps.getD k aH).A (ps.getD k aH).na (ps.getD k aH).ca) ∧ w.cell? ⟨b, o + k * 5 + 3, none⟩ = some (.int .i64 (ps.getD k aH).C) ∧ w.cell? ⟨b, o + k * 5 + 4, none⟩ = some (.slice (ps.getD k aH).Z (ps.getD k aH).nz (ps.getD k aH).cz) ∧ vV w (ps.getD k aH)
theorem vV.below {w w' : World} {p : aV} (h : vV w p) (hb : Below w.heap.size w w') : vV w' p := ⟨h.1, h.2.1, h.2.2.1.below hb, h.2.2.2.below hb⟩
theorem Pa.below {w w' : World} {L : Option Addr} {ps : List aV} (h : Pa w L ps) (hb : Below w.heap.size w w') : Pa w' L ps := fun k hk => by
 obtain ⟨b, o, h1, h2, h3, h4, h5, h6, h7⟩ := h k hk
 exact ⟨b, o, h1, cell_below h2 hb, cell_below h3 hb, cell_below h4 hb, cell_below h5 hb, cell_below h6 hb, h7.below hb⟩
abbrev Ty (ix v : Int) (A : Option Addr) (na ca : Nat) (C : Int) (Z : Option Addr) (nz cz : Nat) : Obj := .cells #[.int .i64 ix, .int .i64 v, .slice A na ca, .int .i64 C, .slice Z nz cz] 56
abbrev PG (ix v : Int) (A : Option Addr) (na ca : Nat) (C : Int) (Z : Option Addr) (nz cz : Nat) : Value := .agg #[.int .i64 ix, .int .i64 v, .slice A na ca, .int .i64 C, .slice Z nz cz]
end Go.Proofs.YtchcllcbknfikaaGreatDoor
namespace Go.Proofs.YtchcllcbknfikaaGreatDoor
open Go.ChangeShapes Go.WideShapes Go.ChangeAt Go.RowKit si
theorem NB : Tryz.prog.cellsOf 26 = 3 := by kernel_rfl
theorem BC : Tryz.prog.cellsOf 56 = 5 := by kernel_rfl
section
variable {H : Type} {enc : TypeId × Value → H} {w : World} {base : Nat} {held : Bool}
theorem LY {r : Reach} {b0 : Nat} {v : Value} {d : DataW H} {ps : List MemPlace} (hval : Value.okWide Tryz.prog w r b0 26 v) (hd : DataW.Trod enc Tryz.prog w base (fun _ => true) held 26 v d ps) :
  ∃ (need : Int) (Cs : Option Addr) (cn cc : Nat) (cs : List Int) (Ks : Option Addr) (kn kc : Nat) (ks : List Int), v = .agg #[.int .i64 need, .slice Cs cn cc, .slice Ks kn kc] ∧ -9223372036854775808 ≤ need ∧ need ≤ 9223372036854775807 ∧ cs.length = cn ∧ ks.length = kn ∧ Sl w Cs cs ∧ Sl w Ks ks := by
 obtain ⟨cs, rfl, hsz⟩ := okWide_struct Tryz.underlying26 hval
 obtain ⟨n, h⟩ := hd
 obtain ⟨xs, m, rfl, _, hl, hxl, hf⟩ := DataW.trod_struct Tryz.underlying26 h
 rw [NB] at hl
 obtain ⟨cl⟩ := cs
 simp only [Value.cells] at hl hf
 match cl, hl with
 | [c0, c1, c2], _ =>
  have f0 : DataW.trod enc Tryz.prog w base (fun _ => true) held m 3 (([c0, c1, c2].drop 0).take (Tryz.prog.cellsOf 3)) = xs[0]? := hf 0 _ rfl
  have f1 : DataW.trod enc Tryz.prog w base (fun _ => true) held m 24 (([c0, c1, c2].drop 1).take (Tryz.prog.cellsOf 24)) = xs[1]? := hf 1 _ rfl
  have f2 : DataW.trod enc Tryz.prog w base (fun _ => true) held m 24 (([c0, c1, c2].drop 2).take (Tryz.prog.cellsOf 24)) = xs[2]? := hf 2 _ rfl
  rw [EN] at f1 f2
  rw [lU] at f0
  have hl3 : xs.length = 3 := hxl
  match xs, hl3 with
  | [x0, x1, x2], _ =>
   obtain ⟨N, hN, _, wN⟩ := DataW.trod_int Tryz.underlying3 f0
   obtain ⟨RA, hA, oA⟩ := open_row f1
   obtain ⟨RZ, hZ, oZ⟩ := open_row f2
   simp at hA hN hZ
   subst hA; subst hN; subst hZ
   have hb : -9223372036854775808 ≤ N ∧ N ≤ 9223372036854775807 := by
    simp [Lit.wf, IntKind.min, IntKind.max, IntKind.signed, IntKind.bits] at wN
    omega
   exact ⟨N, RA.p, RA.n, RA.c, RA.xs, RZ.p, RZ.n, RZ.c, RZ.xs, rfl, hb.1, hb.2, oA.1, oZ.1, oA.2, oZ.2⟩
def paC (p : aV) : List Value := [.int .i64 p.ix, .int .i64 p.v, .slice p.A p.na p.ca, .int .i64 p.C, .slice p.Z p.nz p.cz]
theorem sS (b o k : Nat) (spot : Option Nat) (h : spot = none) : (⟨b, o, spot⟩ : Addr).add k = ⟨b, o + k, none⟩ := by
 subst h
 unfold Addr.add
 split
 · rename_i h0; subst h0; rfl
 · rfl
end
theorem EL {cl : List Value} : ∀ (k : Nat), (∀ i, i < k → ∃ z : Int, (cl.drop i).take 1 = [.int .u8 z] ∧ 0 ≤ z ∧ z < 256) → ∃ h : List Int, h.length = k ∧ cl.take k = h.map (.int .u8) ∧ aC h = true
 | 0, _ => ⟨[], rfl, by simp, rfl⟩
 | k + 1, hf => by
  obtain ⟨h, h1, h2, h3⟩ := EL k (fun i hi => hf i (by omega))
  obtain ⟨z, hz, z0, z1⟩ := hf k (by omega)
  refine ⟨h ++ [z], by simp [h1], by rw [List.take_add, h2, hz, List.map_append]; rfl, ?_⟩
  rw [dG, h3]
  simp [aC, z0, z1]
section
variable {H : Type} {enc : TypeId × Value → H} {w : World} {base : Nat} {held : Bool}
theorem BD : Tryz.prog.cellsOf 41 = 32 := by kernel_rfl
end
end Go.Proofs.YtchcllcbknfikaaGreatDoor
namespace Go.Proofs.YtchcllcbknfikaaGreatDoor
open Go.RowKit si
def NY : Nat → (List Bool → Bool) → Bool
 | 0, p => p []
 | n + 1, p => NY n (fun l => p (true :: l)) && NY n (fun l => p (false :: l))
theorem sQ : ∀ {n : Nat} {p : List Bool → Bool}, NY n p = true → ∀ l, l.length = n → p l = true
 | 0, p, h, l, hl => by
  obtain rfl : l = [] := List.eq_nil_of_length_eq_zero hl
  exact h
 | n + 1, p, h, l, hl => by
  cases l with
  | nil => simp at hl
  | cons b l =>
   simp only [NY, Bool.and_eq_true] at h
   cases b
   · exact sQ h.2 l (by simpa using hl)
   · exact sQ h.1 l (by simpa using hl)
def cntF (l : Array Bool) : Nat := l.toList.count false
theorem count_set {l : List Bool} : ∀ {i : Nat}, l[i]? = some false → (l.set i true).count false + 1 = l.count false := by
 induction l with
 | nil => intro i h; simp at h
 | cons b l ih =>
  intro i h
  cases i with
  | zero => simp only [List.getElem?_cons_zero, Option.some.injEq] at h; subst h; simp
  | succ i =>
   have := ih (i := i) (by simpa using h)
   rw [List.set_cons_succ, List.count_cons, List.count_cons]
   omega
theorem EJ {l : Array Bool} {i : Nat} (h : l.getD i true = false) : cntF (l.setIfInBounds i true) + 1 = cntF l := by
 have h2 : l.toList[i]? = some false := by
  rcases Nat.lt_or_ge i l.size with h' | h'
  · simp [h'] at h; simp [h', h]
  · simp [Array.getD, Nat.not_lt.2 h'] at h
 rw [cntF, cntF, Array.toList_setIfInBounds]
 exact count_set h2
def Oz (l0 : Array Bool) (OP : List Nat) (bs : List Bool) : Array Bool := (OP.zip bs).foldl (fun a p => a.setIfInBounds p.1 p.2) l0
def jv (D N : List (List Nat)) (bs : List Bool) (j : Nat) : Bool := !(bs.getD j true) && ((D.getD j []).all (fun d => bs.getD d false) && (N.getD j []).all (fun d => !(bs.getD d true)))
def PL (D : List (List Nat)) (bs : List Bool) : Bool := (List.range bs.length).all fun j => !(bs.getD j false) || (D.getD j []).all (fun d => bs.getD d false)
def WM (md : Region.Mode) (ops : Array Oper) (OP : List Nat) (D N : List (List Nat)) (rest fuel : Nat) (l0 full : Array Bool) : Bool :=
 Oz l0 OP (List.replicate OP.length false) == l0 && (Oz l0 OP (List.replicate OP.length true) == full && (cntF full == rest && (cntF l0 == fuel && (PL D (List.replicate OP.length false) &&
 NY OP.length fun bs => !(PL D bs) || (bs == List.replicate OP.length true || (!(Region.ready md ops (Oz l0 OP bs)).isEmpty && (Region.ready md ops (Oz l0 OP bs)).all fun i => (List.range OP.length).any fun j =>
  OP[j]? == some i && (jv D N bs j && (PL D (bs.set j true) && (Oz l0 OP (bs.set j true) == (Oz l0 OP bs).setIfInBounds i true)))))))))
section
variable {P : Program} {ops : Array Oper} {Q : Exit → Act → World → Prop} {md : Region.Mode} {S : World → Prop} {E : List Nat}
def stp (P : Program) (ops : Array Oper) (Q : Exit → Act → World → Prop) (S : World → Prop) (D N : List (List Nat)) (I : List Bool → Act → World → Prop) (j i : Nat) : Prop :=
 ∀ bs a w, I bs a w → jv D N bs j = true → ∃ o, ops[i]? = some o ∧ ∀ K' : Act → World → Prop, Shut (∀ a' w', S w' → I (bs.set j true) a' w' → K' a' w') → if Region.wanted o (yielded ops a.tmps) = true then Oper.wp P o a w K' Q else K' (a.put o.dst undef) w
def Sy (P : Program) (ops : Array Oper) (Q : Exit → Act → World → Prop) (S : World → Prop) (D N : List (List Nat)) (I : List Bool → Act → World → Prop) : Nat → List Nat → Prop
 | _, [] => True
 | j, i :: l => stp P ops Q S D N I j i ∧ Sy P ops Q S D N I (j + 1) l
theorem DR {D N : List (List Nat)} {I : List Bool → Act → World → Prop} : ∀ {l : List Nat} {k j i : Nat}, Sy P ops Q S D N I k l → l[j]? = some i → stp P ops Q S D N I (k + j) i
 | [], _, _, _, _, h => by simp at h
 | x :: l, k, 0, i, h, hj => by
  simp only [List.getElem?_cons_zero, Option.some.injEq] at hj
  subst hj
  exact h.1
 | x :: l, k, j + 1, i, h, hj => by
  have := DR (j := j) (i := i) h.2 (by simpa using hj)
  rw [show k + (j + 1) = k + 1 + j by omega]
  exact this
theorem O3 {fuel : Nat} {l0 : Array Bool} {a0 : Act} {w0 : World} (OP : List Nat) (D N : List (List Nat)) (rest : Nat) (full : Array Bool) (I : List Bool → Act → World → Prop)
  (h0 : I (List.replicate OP.length false) a0 w0) (hfin : ∀ bs a w, bs.all (fun b => b) = true → I bs a w → lX P md ops Q S E rest full a w) (hgo : Sy P ops Q S D N I 0 OP)
  (hck : WM md ops OP D N rest fuel l0 full = true := by kernel_rfl) : lX P md ops Q S E fuel l0 a0 w0 := by
 simp only [WM, Bool.and_eq_true, beq_iff_eq] at hck
 obtain ⟨c1, c2, c3, c4, c5, c6⟩ := hck
 have main : ∀ (n : Nat) (bs : List Bool) (a : Act) (w : World), bs.length = OP.length → PL D bs = true → I bs a w → cntF (Oz l0 OP bs) = n → lX P md ops Q S E n (Oz l0 OP bs) a w := by
  intro n
  induction n with
  | zero =>
   intro bs a w hl hok hI hn
   have h := sQ c6 bs hl
   simp only [hok, Bool.not_true, Bool.false_or, Bool.or_eq_true, beq_iff_eq, Bool.and_eq_true] at h
   rcases h with rfl | ⟨h1, h2⟩
   ·
    rw [c2] at hn ⊢
    have := hfin _ a w (by simp) hI
    rw [← c3, hn] at this
    exact this
   ·
    exfalso
    cases hr : Region.ready md ops (Oz l0 OP bs) with
    | nil => rw [hr] at h1; simp at h1
    | cons i l =>
     have hi := (mem_ready.1 (show i ∈ Region.ready md ops (Oz l0 OP bs) by rw [hr]; simp)).1
     have := EJ hi
     omega
  | succ n ih =>
   intro bs a w hl hok hI hn
   have h := sQ c6 bs hl
   simp only [hok, Bool.not_true, Bool.false_or, Bool.or_eq_true, beq_iff_eq, Bool.and_eq_true] at h
   rcases h with rfl | ⟨h1, h2⟩
   ·
    rw [c2] at hn ⊢
    have := hfin _ a w (by simp) hI
    rw [← c3, hn] at this
    exact this
   ·
    refine ⟨fun e => by rw [e] at h1; simp at h1, fun i hi => ?_⟩
    have h3 := List.all_eq_true.1 h2 i hi
    obtain ⟨j, hj, h4⟩ := List.any_eq_true.1 h3
    simp only [Bool.and_eq_true, beq_iff_eq] at h4
    obtain ⟨e1, e2, e3, e4⟩ := h4
    have hs := DR hgo e1
    rw [Nat.zero_add] at hs
    obtain ⟨o, ho, hstep⟩ := hs bs a w hI e2
    refine wpOp_step ho (fun K' hK => hstep K' (fun a' w' hS hI' => hK a' w' ⟨fun _ => hS, ?_⟩))
    rw [← e4]
    have hc := EJ (mem_ready.1 hi).1
    exact ih (bs.set j true) a' w' (by rw [List.length_set]; exact hl) e3 hI' (by rw [e4]; omega)
 have := main fuel (List.replicate OP.length false) a0 w0 (by simp) c5 h0 (by rw [c1, c4])
 rw [c1] at this
 exact this
theorem Zn {fuel : Nat} {listed : Array Bool} {a : Act} {w : World} (h : ∀ a0 : Act, a0 = a → lX P md ops Q S E fuel listed a0 w) : lX P md ops Q S E fuel listed a w := h _ rfl
end
structure az where
 num : Int
 rs : ByteArray
 E1 : Int
 E2 : Int
 A : Option Addr
 na : Nat
 ca : Nat
 al : List Int
 C : Int
 Z : Option Addr
 nz : Nat
 cz : Nat
 zs : List Int
 L : Option Addr
 np : Nat
 cp : Nat
 ps : List aV
 key : Int
abbrev dI : az := ⟨0, ⟨#[]⟩, 0, 0, none, 0, 0, [], 0, none, 0, 0, [], none, 0, 0, [], 0⟩
abbrev x_ (o : az) : Value := .agg #[.int .i64 o.num, .string o.rs, .int .i64 o.E1, .int .i64 o.E2, .slice o.A o.na o.ca, .int .i64 o.C, .slice o.Z o.nz o.cz, .slice o.L o.np o.cp, .int .i64 o.key]
abbrev lY (o : az) : Obj := .cells #[.int .i64 o.num, .string o.rs, .int .i64 o.E1, .int .i64 o.E2, .slice o.A o.na o.ca, .int .i64 o.C, .slice o.Z o.nz o.cz, .slice o.L o.np o.cp, .int .i64 o.key] 104
abbrev Ae (p : aV) : Value := .agg #[.int .i64 p.ix, .int .i64 p.v, .slice p.A p.na p.ca, .int .i64 p.C, .slice p.Z p.nz p.cz]
abbrev oh (p : aV) : Obj := .cells #[.int .i64 p.ix, .int .i64 p.v, .slice p.A p.na p.ca, .int .i64 p.C, .slice p.Z p.nz p.cz] 56
def dW (w : World) (o : az) : Prop := o.al.length = o.na ∧ o.zs.length = o.nz ∧ (o.ps.length = o.np ∧ o.np ≤ o.cp) ∧ Sl w o.A o.al ∧ Sl w o.Z o.zs ∧ Pa w o.L o.ps
theorem dW.below {w w' : World} {o : az} (h : dW w o) (hb : Below w.heap.size w w') : dW w' o :=
 ⟨h.1, h.2.1, h.2.2.1, h.2.2.2.1.below hb, h.2.2.2.2.1.below hb, h.2.2.2.2.2.below hb⟩
def Oa (w : World) (b k : Nat) (o : az) : Prop := w.cell? ⟨b, k, none⟩ = some (.int .i64 o.num) ∧ w.cell? ⟨b, k + 1, none⟩ = some (.string o.rs) ∧ w.cell? ⟨b, k + 2, none⟩ = some (.int .i64 o.E1) ∧ w.cell? ⟨b, k + 3, none⟩ = some (.int .i64 o.E2) ∧ w.cell? ⟨b, k + 4, none⟩ = some (.slice o.A o.na o.ca) ∧ w.cell? ⟨b, k + 5, none⟩ = some (.int .i64 o.C) ∧ w.cell? ⟨b, k + 6, none⟩ = some (.slice o.Z o.nz o.cz) ∧ w.cell? ⟨b, k + 7, none⟩ = some (.slice o.L o.np o.cp) ∧ w.cell? ⟨b, k + 8, none⟩ = some (.int .i64 o.key)
theorem Oa.below {w w' : World} {b k : Nat} {o : az} (h : Oa w b k o) (hb : Below w.heap.size w w') : Oa w' b k o := by
 obtain ⟨h0, h1, h2, h3, h4, h5, h6, h7, h8⟩ := h
 exact ⟨cell_below h0 hb, cell_below h1 hb, cell_below h2 hb, cell_below h3 hb, cell_below h4 hb, cell_below h5 hb, cell_below h6 hb, cell_below h7 hb, cell_below h8 hb⟩
def Os (w : World) (O : Option Addr) (os : List az) : Prop := ∀ k, k < os.length → ∃ b o, O = some ⟨b, o, none⟩ ∧ Oa w b (o + k * 9) (os.getD k dI) ∧ dW w (os.getD k dI)
theorem Os.below {w w' : World} {O : Option Addr} {os : List az} (h : Os w O os) (hb : Below w.heap.size w w') : Os w' O os := fun k hk => by
 obtain ⟨b, o, h1, h2, h3⟩ := h k hk
 exact ⟨b, o, h1, h2.below hb, h3.below hb⟩
def uO (na nz : Nat) : Bool := decide (na ≤ 20) && decide (nz ≤ 20)
def Jr (s : ByteArray) : Bool := decide (1 ≤ s.size) && decide (s.size ≤ 200)
def qX (ps : List aV) (x : Int) : Nat → Bool
 | 0 => true
 | k + 1 => qX ps x k && ((ps.getD k aH).ix != x)
def sZ (ps : List aV) (k : Nat) : Bool := decide (1 ≤ (ps.getD k aH).ix) && (decide ((ps.getD k aH).ix ≤ 8) && (qX ps (ps.getD k aH).ix k && uO (ps.getD k aH).na (ps.getD k aH).nz))
def jJ (ps : List aV) : Nat → Bool
 | 0 => true
 | k + 1 => jJ ps k && sZ ps k
def wV (o : az) : Bool := decide (0 ≤ o.num) && (decide (o.num < 100) && (Jr o.rs && (uO o.na o.nz && (decide (o.np ≤ 8) && (decide (0 ≤ o.key) && jJ o.ps o.np)))))
theorem Bb {ps : List aV} {k : Nat} (h : jJ ps k = false) : ∀ m, k ≤ m → jJ ps m = false
  | 0, hm => by obtain rfl : k = 0 := by omega
                exact h
  | m + 1, hm => by
    by_cases e : k = m + 1
    · rw [← e]; exact h
    · rw [jJ, Bb h m (by omega)]; rfl
theorem lN {ps : List aV} {k m : Nat} (h : sZ ps k = false) (hk : k < m) : jJ ps m = false := Bb (k := k + 1) (by rw [jJ, h, Bool.and_false]) m (by omega)
def zW (ps : List aV) (x r : Int) : Prop := (r = -1 ∧ qX ps x ps.length = true) ∨ ∃ k : Nat, k < ps.length ∧ r = (k : Int) ∧ (ps.getD k aH).ix = x ∧ qX ps x k = true
theorem mJ {ps : List aV} {x : Int} : ∀ {k : Nat}, qX ps x k = true → ∀ j, j < k → (ps.getD j aH).ix ≠ x
 | 0, _, j, hj => absurd hj (by omega)
 | k + 1, h, j, hj => by
  simp only [qX, Bool.and_eq_true, bne_iff_ne, ne_eq] at h
  by_cases e : j = k
  · subst e; exact h.2
  · exact mJ h.1 j (by omega)
theorem Ng {ps : List aV} {x : Int} : ∀ {k : Nat}, qX ps x k = false → ∃ j, j < k ∧ (ps.getD j aH).ix = x
 | 0, h => by cases h
 | k + 1, h => by
  cases h1 : qX ps x k with
  | false => obtain ⟨j, hj, e⟩ := Ng h1; exact ⟨j, by omega, e⟩
  | true =>
   rw [qX, h1, Bool.true_and] at h
   exact ⟨k, by omega, by simpa using h⟩
theorem GD {ps : List aV} {k : Nat} {x r : Int} {b : Bool} (hk : k < ps.length) (hx : (ps.getD k aH).ix = x) (h : zW ps x r) (hb : qX ps x k = b) : (r != (k : Int)) = !b := by
 rcases h with ⟨rfl, h⟩ | ⟨j, hj, rfl, h1, h2⟩
 · exact absurd hx (mJ h k hk)
 ·
  cases b with
  | true =>
   have h3 : ¬ j < k := fun hlt => mJ hb j hlt h1
   have h4 : ¬ k < j := fun hlt => mJ h2 k hlt hx
   have : j = k := by omega
   subst this
   simp
  | false =>
   obtain ⟨i, hi, he⟩ := Ng hb
   have h3 : ¬ i < j := fun hlt => mJ h2 i hlt he
   simp; omega
theorem f_ (A : Option Addr) (na ca : Nat) (C : Int) (Z : Option Addr) (nz cz : Nat) (r : Bool) (hr : Hid (uO na nz = r)) (w : World) :
  Calls Tryz.prog 119 #[iO A na ca C Z nz cz] w (Rt w (.bool r)) := by
 have HX := af w (fe A na ca C Z nz cz)
 have hr1 := hr.out
 unfold uO at hr1
 by_cases h0 : na ≤ 20
 ·
  have d0 : decide ((na : Int) ≤ 20) = true := by simp; omega
  by_cases h1 : nz ≤ 20
  ·
   have d1 : decide ((nz : Int) ≤ 20) = true := by simp; omega
   obtain rfl : r = true := by rw [← hr1]; simp; omega
   clear hr1 hr
   go_in
   go_wp2
   go_ret
   exact ⟨rfl, HX⟩
  ·
   have d1 : decide ((nz : Int) ≤ 20) = false := by simp; omega
   obtain rfl : r = false := by rw [← hr1]; simp; omega
   clear hr1 hr
   go_in
   go_wp2
   go_ret
   exact ⟨rfl, HX⟩
 ·
  have d0 : decide ((na : Int) ≤ 20) = false := by simp; omega
  obtain rfl : r = false := by rw [← hr1]; simp; omega
  clear hr1 hr
  go_in
  go_wp2
  go_ret
  exact ⟨rfl, HX⟩
theorem jw (s : ByteArray) (r : Bool) (hr : Hid (Jr s = r)) (w : World) :
  Calls Tryz.prog 118 #[.string s] w fun e' w' => e' = .returned (.bool r) ∧ w' = w := by
 have hr1 := hr.out
 unfold Jr at hr1
 by_cases h0 : 1 ≤ s.size
 ·
  have d0 : decide ((1 : Int) ≤ (s.size : Int)) = true := by simp; omega
  by_cases h1 : s.size ≤ 200
  ·
   have d1 : decide ((s.size : Int) ≤ 200) = true := by simp; omega
   obtain rfl : r = true := by rw [← hr1]; simp; omega
   clear hr1 hr
   go_in
   go_wp2
   go_ret
   exact ⟨rfl, rfl⟩
  ·
   have d1 : decide ((s.size : Int) ≤ 200) = false := by simp; omega
   obtain rfl : r = false := by rw [← hr1]; simp; omega
   clear hr1 hr
   go_in
   go_wp2
   go_ret
   exact ⟨rfl, rfl⟩
 ·
  have d0 : decide ((1 : Int) ≤ (s.size : Int)) = false := by simp; omega
  obtain rfl : r = false := by rw [← hr1]; simp; omega
  clear hr1 hr
  go_in
  go_wp2
  go_ret
  exact ⟨rfl, rfl⟩
theorem Bq (p : aV) (a : Nat) (x : Int) (r : Bool) (hr : Hid ((p.ix == x) = r)) (w : World) (hx : Hid (w.cell? ⟨a, 0, none⟩ = some (.int .i64 x))) :
  Calls Tryz.prog 125 #[Ae p, .pointer (some ⟨a, 0, none⟩)] w (Rt w (.bool r)) := by
 have hb := af w (oh p)
 have c0 := cell_below hx.out hb
 have d0 := hr.out
 clear hx
 go_in
 go_wp2
 go_ret
 exact ⟨by first | rfl | rw [d0], hb⟩
theorem MC (a : Nat) (x : Int) (L : Option Addr) (ps : List aV) (n c : Nat) (hn : Hid (ps.length = n)) (hbig : n < 1000000) (w : World) (hs : Hid (Pa w L ps)) (hx : Hid (w.cell? ⟨a, 0, none⟩ = some (.int .i64 x))) :
  Calls Tryz.prog 124 #[.slice L n c, .func (.func 125) #[] #[.pointer (some ⟨a, 0, none⟩)]] w fun e w' => ∃ i : Int, e = .returned (.int .i64 i) ∧ zW ps x i ∧ Below w.heap.size w w' := by
 go_in
 go_wp2
 go_loopw [8] (fun i wr => ∃ k : Nat, k ≤ n ∧ i = .int .i64 k ∧ Hid (qX ps x k = true) ∧ Hid (Below w.heap.size w wr)) (fun i _ => n - (intOf i).toNat)
 case atStart => exact ⟨0, by omega, rfl, aa rfl, aa (Below.refl _ _)⟩
 case round =>
  obtain ⟨k, hk, rfl, HR, aF⟩ := hrel
  by_cases hlt : k < n
  ·
   have hkl : k < ps.length := by rw [hn.out]; exact hlt
   obtain ⟨b, o, hA, i0, i1, i2, i3, i4, _⟩ := (hs.out.below aF.out) k hkl
   subst hA
   have HXr : Hid (wr.cell? ⟨a, 0, none⟩ = some (.int .i64 x)) := aa (cell_below hx.out aF.out)
   cases hpx : ((ps.getD k aH).ix == x) with
   | false =>
    have HN : Hid (qX ps x (k + 1) = true) := aa (by rw [qX, HR.out, bne, hpx]; rfl)
    obtain ⟨p, hp⟩ : ∃ p, ps.getD k aH = p := ⟨_, rfl⟩
    rw [hp] at i0 i1 i2 i3 i4 hpx
    have C9 := aa hpx
    clear hp hkl hpx HR
    go_wp2_with fail
    refine (Bq p a x false C9 wr HXr).mono ?_
    rintro e w2 ⟨rfl, hb0⟩
    have HB2 := aa (ag aF.out hb0)
    clear hb0 aF i0 i1 i2 i3 i4
    go_wp2
    go_roundw
    case rel => exact ⟨k + 1, by omega, by go_num, HN, HB2⟩
    case measure => simp [intOf]; omega
   | true =>
    have HN : Hid (zW ps x (k : Int)) := aa (.inr ⟨k, hkl, rfl, by simpa using hpx, HR.out⟩)
    obtain ⟨p, hp⟩ : ∃ p, ps.getD k aH = p := ⟨_, rfl⟩
    rw [hp] at i0 i1 i2 i3 i4 hpx
    have C9 := aa hpx
    clear hp hkl hpx HR
    go_wp2_with fail
    refine (Bq p a x true C9 wr HXr).mono ?_
    rintro e w2 ⟨rfl, hb0⟩
    have HB2 := aa (ag aF.out hb0)
    clear hb0 aF i0 i1 i2 i3 i4
    go_wp2
    go_ret
    exact ⟨k, rfl, HN.out, HB2.out⟩
  ·
   obtain rfl : k = n := by omega
   have HN : Hid (zW ps x (-1)) := aa (.inl ⟨rfl, by rw [hn.out]; exact HR.out⟩)
   clear HR
   go_wp2
   go_ret
   exact ⟨-1, rfl, HN.out, aF.out⟩
theorem pJ (L : Option Addr) (ps : List aV) (n c : Nat) (x : Int) (hn : Hid (ps.length = n)) (hbig : n < 1000000) (w : World) (hs : Hid (Pa w L ps)) :
  Calls Tryz.prog 73 #[.slice L n c, .int .i64 x] w fun e w' => ∃ i : Int, e = .returned (.int .i64 i) ∧ zW ps x i ∧ Below w.heap.size w w' := by
 have hb := af w (.cells #[.int .i64 x] 3)
 have HXc : Hid ((w.alloc (.cells #[.int .i64 x] 3)).cell? ⟨w.heap.size, 0, none⟩ = some (.int .i64 x)) := aa (au (heap_alloc_new _ _) 0)
 have HP := aa (hs.out.below hb)
 have HB := aa hb
 clear hb
 go_in
 go_wp2_with fail
 refine (MC w.heap.size x L ps n c hn hbig _ HP HXc).mono ?_
 rintro e w2 ⟨i, rfl, hi, hb0⟩
 have HI := aa hi
 have HB2 := aa (ag HB.out hb0)
 clear hi hb0
 go_wp2
 go_ret
 exact ⟨i, rfl, HI.out, HB2.out⟩
theorem WG (o : az) (h : o.num < 0) (w : World) :
  Calls Tryz.prog 122 #[x_ o] w (Rt w (.bool false)) := by
 have IW : decide (o.num < 0) = true := by simp; omega
 obtain ⟨w0, HW, aj, kC⟩ := st1 (lY o) Ah w
 have ah := bP w0
 go_in
 go_upto_region 1 with (fail)
 rw [HW.out]
 have zc := kC.out _ ah
 go_wp2
 go_ret
 exact ⟨rfl, gy aj ah⟩
theorem WE (o : az) (h1 : 0 ≤ o.num) (h : 100 ≤ o.num) (w : World) :
  Calls Tryz.prog 122 #[x_ o] w (Rt w (.bool false)) := by
 have IW : decide (o.num < 0) = false := by simp; omega
 have Fq : decide ((100 : Int) ≤ o.num) = true := by simp; omega
 obtain ⟨w0, HW, aj, kC⟩ := st1 (lY o) Ah w
 have ah := bP w0
 go_in
 go_upto_region 1 with (fail)
 rw [HW.out]
 have zc := kC.out _ ah
 go_wp2
 go_ret
 exact ⟨rfl, gy aj ah⟩
theorem WC (o : az) (h1 : 0 ≤ o.num) (h2 : o.num < 100) (hrs : Hid (Jr o.rs = false)) (w : World) :
  Calls Tryz.prog 122 #[x_ o] w (Rt w (.bool false)) := by
 have IW : decide (o.num < 0) = false := by simp; omega
 have Fq : decide ((100 : Int) ≤ o.num) = false := by simp; omega
 obtain ⟨w0, HW, aj, kC⟩ := st1 (lY o) Ah w
 have ah := bP w0
 go_in
 go_upto_region 1 with (fail)
 rw [HW.out]
 have zc := kC.out _ ah
 go_wp2_with fail
 refine (jw o.rs false hrs _).mono ?_
 rintro e9 w9 ⟨rfl, vI⟩
 rw [vI]
 clear vI
 go_wp2
 go_ret
 exact ⟨rfl, gy aj ah⟩
theorem WB (o : az) (h1 : 0 ≤ o.num) (h2 : o.num < 100) (hrs : Hid (Jr o.rs = true)) (hsh : Hid (uO o.na o.nz = false)) (w : World) :
  Calls Tryz.prog 122 #[x_ o] w (Rt w (.bool false)) := by
 have IW : decide (o.num < 0) = false := by simp; omega
 have Fq : decide ((100 : Int) ≤ o.num) = false := by simp; omega
 obtain ⟨w0, HW, aj, kC⟩ := st1 (lY o) Ah w
 have ah := bP w0
 go_in
 go_upto_region 1 with (fail)
 rw [HW.out]
 have zc := kC.out _ ah
 go_wp2_with fail
 refine (jw o.rs true hrs _).mono ?_
 rintro e9 w9 ⟨rfl, vI⟩
 rw [vI]
 clear vI
 go_wp2_with fail
 clear zc
 refine eH kC ah (f_ o.A o.na o.ca o.C o.Z o.nz o.cz false hsh _) fun w1 ax zc => ?_
 go_wp2
 go_ret
 exact ⟨rfl, gy aj ax⟩
theorem WA (o : az) (h1 : 0 ≤ o.num) (h2 : o.num < 100) (hrs : Hid (Jr o.rs = true)) (hsh : Hid (uO o.na o.nz = true)) (h3 : ¬ o.np ≤ 8) (w : World) :
  Calls Tryz.prog 122 #[x_ o] w (Rt w (.bool false)) := by
 have IW : decide (o.num < 0) = false := by simp; omega
 have Fq : decide ((100 : Int) ≤ o.num) = false := by simp; omega
 have XP : decide ((8 : Int) < (o.np : Int)) = true := by simp; omega
 obtain ⟨w0, HW, aj, kC⟩ := st1 (lY o) Ah w
 have ah := bP w0
 go_in
 go_upto_region 1 with (fail)
 rw [HW.out]
 have zc := kC.out _ ah
 go_wp2_with fail
 refine (jw o.rs true hrs _).mono ?_
 rintro e9 w9 ⟨rfl, vI⟩
 rw [vI]
 clear vI
 go_wp2_with fail
 clear zc
 refine eH kC ah (f_ o.A o.na o.ca o.C o.Z o.nz o.cz true hsh _) fun w1 ax zc => ?_
 go_wp2
 go_ret
 exact ⟨rfl, gy aj ax⟩
theorem Wz (o : az) (h1 : 0 ≤ o.num) (h2 : o.num < 100) (hrs : Hid (Jr o.rs = true)) (hsh : Hid (uO o.na o.nz = true)) (h3 : o.np ≤ 8) (h4 : ¬ 0 ≤ o.key) (w : World) :
  Calls Tryz.prog 122 #[x_ o] w (Rt w (.bool false)) := by
 have IW : decide (o.num < 0) = false := by simp; omega
 have Fq : decide ((100 : Int) ≤ o.num) = false := by simp; omega
 have XP : decide ((8 : Int) < (o.np : Int)) = false := by simp; omega
 have dk0 : decide (o.key < 0) = true := by simp; omega
 obtain ⟨w0, HW, aj, kC⟩ := st1 (lY o) Ah w
 have ah := bP w0
 go_in
 go_upto_region 1 with (fail)
 rw [HW.out]
 have zc := kC.out _ ah
 go_wp2_with fail
 refine (jw o.rs true hrs _).mono ?_
 rintro e9 w9 ⟨rfl, vI⟩
 rw [vI]
 clear vI
 go_wp2_with fail
 clear zc
 refine eH kC ah (f_ o.A o.na o.ca o.C o.Z o.nz o.cz true hsh _) fun w1 ax zc => ?_
 go_wp2
 go_ret
 exact ⟨rfl, gy aj ax⟩
theorem Wy (o : az) (h1 : 0 ≤ o.num) (h2 : o.num < 100) (hrs : Hid (Jr o.rs = true)) (hsh : Hid (uO o.na o.nz = true)) (h3 : o.np ≤ 8) (h4 : 0 ≤ o.key) (w : World) (ho : Hid (dW w o)) :
  Calls Tryz.prog 122 #[x_ o] w (Rt w (.bool (jJ o.ps o.np))) := by
 have IW : decide (o.num < 0) = false := by simp; omega
 have Fq : decide ((100 : Int) ≤ o.num) = false := by simp; omega
 have XP : decide ((8 : Int) < (o.np : Int)) = false := by simp; omega
 have dk0 : decide (o.key < 0) = false := by simp; omega
 obtain ⟨w0, HW, aj, kC⟩ := st1 (lY o) Ah w
 have kO := fq (fun u => dW u o) aj ho (·.below)
 have ah := bP w0
 clear ho
 go_in
 go_upto_region 1 with (fail)
 rw [HW.out]
 have zc := kC.out _ ah
 go_wp2_with fail
 refine (jw o.rs true hrs _).mono ?_
 rintro e9 w9 ⟨rfl, vI⟩
 rw [vI]
 clear vI
 go_wp2_with fail
 clear zc
 refine eH kC ah (f_ o.A o.na o.ca o.C o.Z o.nz o.cz true hsh _) fun w1 ax zc => ?_
 go_wp2
 clear zc
 go_loopw [40] (fun i wr => ∃ k : Nat, k ≤ o.np ∧ i = .int .i64 k ∧ Hid (jJ o.ps k = true) ∧ Hid (Below w0.heap.size w0 wr)) (fun i _ => o.np - (intOf i).toNat)
 case atStart => exact ⟨0, by omega, rfl, aa rfl, ax⟩
 case round =>
  obtain ⟨k, hk, rfl, HR, aF⟩ := hrel
  by_cases hlt : k < o.np
  ·
   obtain ⟨ok1, JM, ⟨JL, Rl⟩, Rn, Rm, JK⟩ := (kO.out _ aF).out
   have hkl : k < o.ps.length := by rw [JL]; exact hlt
   obtain ⟨b, f, hA, j0, j1, j2, j3, j4, j5⟩ := JK k hkl
   clear j5
   have Ak := aa hA
   have Hr := aa JK
   have uh := aa JL
   clear ok1 JM Rn Rm JK Rl
   obtain ⟨p, hp⟩ : ∃ p, o.ps.getD k aH = p := ⟨_, rfl⟩
   have mY := aa hp
   rw [hp] at j0 j1 j2 j3 j4
   clear hp JL hA
   rw [Ak.out]
   by_cases hx0 : p.ix < 1
   ·
    have HF : Hid (jJ o.ps o.np = false) := aa (lN (k := k) (by rw [sZ, mY.out]; simp; omega) hlt)
    have VP : decide (p.ix < 1) = true := by simp; omega
    have hq := af wr (oh p)
    obtain ⟨q0, q1, q2, q3, q4⟩ : (wr.alloc (oh p)).cell? ⟨wr.heap.size, 0, none⟩ = some (.int .i64 p.ix) ∧ (wr.alloc (oh p)).cell? ⟨wr.heap.size, 1, none⟩ = some (.int .i64 p.v) ∧ (wr.alloc (oh p)).cell? ⟨wr.heap.size, 2, none⟩ = some (.slice p.A p.na p.ca) ∧ (wr.alloc (oh p)).cell? ⟨wr.heap.size, 3, none⟩ = some (.int .i64 p.C) ∧ (wr.alloc (oh p)).cell? ⟨wr.heap.size, 4, none⟩ = some (.slice p.Z p.nz p.cz) := ⟨cu rfl (by rfl), cu rfl (by rfl), cu rfl (by rfl), cu rfl (by rfl), cu rfl (by rfl)⟩
    have bV := ag aj.out (ag aF.out hq)
    obtain ⟨wm, wh, xH, xG, Ap, Dj, Di, yS, Fz⟩ := kC.out _ aF
    rw [Ak.out] at yS
    clear wm wh xH xG Ap Dj Di yS Fz
    go_wp2
    go_ret
    exact ⟨(by rw [HF.out]; try rfl), bV⟩
   ·
    have VP : decide (p.ix < 1) = false := by simp; omega
    by_cases hx1 : 8 < p.ix
    ·
     have HF : Hid (jJ o.ps o.np = false) := aa (lN (k := k) (by rw [sZ, mY.out]; simp; omega) hlt)
     have XM : decide ((8 : Int) < p.ix) = true := by simp; omega
     have hq := af wr (oh p)
     obtain ⟨q0, q1, q2, q3, q4⟩ : (wr.alloc (oh p)).cell? ⟨wr.heap.size, 0, none⟩ = some (.int .i64 p.ix) ∧ (wr.alloc (oh p)).cell? ⟨wr.heap.size, 1, none⟩ = some (.int .i64 p.v) ∧ (wr.alloc (oh p)).cell? ⟨wr.heap.size, 2, none⟩ = some (.slice p.A p.na p.ca) ∧ (wr.alloc (oh p)).cell? ⟨wr.heap.size, 3, none⟩ = some (.int .i64 p.C) ∧ (wr.alloc (oh p)).cell? ⟨wr.heap.size, 4, none⟩ = some (.slice p.Z p.nz p.cz) := ⟨cu rfl (by rfl), cu rfl (by rfl), cu rfl (by rfl), cu rfl (by rfl), cu rfl (by rfl)⟩
     have bV := ag aj.out (ag aF.out hq)
     obtain ⟨wm, wh, xH, xG, Ap, Dj, Di, yS, Fz⟩ := kC.out _ aF
     rw [Ak.out] at yS
     clear wm wh xH xG Ap Dj Di yS Fz
     go_wp2
     go_ret
     exact ⟨(by rw [HF.out]; try rfl), bV⟩
    ·
     have XM : decide ((8 : Int) < p.ix) = false := by simp; omega
     cases hfr : qX o.ps p.ix k with
     | true =>
      cases hss : uO p.na p.nz with
      | true =>
       have HS : Hid (jJ o.ps (k + 1) = true) := aa (by rw [jJ, HR.out, sZ, mY.out]; simp [hfr, hss]; omega)
       have uk := aa hfr
       have Du := aa hss
       clear hfr hss HR
       have QZ := aa hkl
       clear hkl
       have d_ := bP wr
       have kP := qO (w := wr) (fun u => Pa u o.L o.ps) Hr.out (·.below)
       have zc := kC.out _ aF
       obtain ⟨w2, hw, oU, C8, -, kS⟩ := qZ (oh p) Ai wr
       have aK := jY aF oU
       have dm := jY d_ oU
       have bB := bP w2
       clear oU
       have tJ := kC.out _ aK
       have oJ := kS.out _ bB
       go_wp2_with fail
       clear zc tJ oJ hw
       have zc := kC.out _ aK
       have ng := kS.out _ bB
       clear j0 j1 j2 j3 j4
       clear zc ng
       have zc := kC.out _ aK
       have ng := kS.out _ bB
       go_wp2_with fail
       refine (pJ o.L o.ps o.np o.cp p.ix uh (by omega) _ (kP.out _ dm)).mono ?_
       rintro e w3 ⟨ri, rfl, Rs, hb0⟩
       have hne : (ri != (k : Int)) = false := GD QZ.out (by rw [mY.out]) Rs uk.out
       clear Rs
       have aN := bF aK hb0
       have eT := bF dm hb0
       have gG := bF bB hb0
       clear zc ng hb0
       have zc := kC.out _ aN
       have ng := kS.out _ gG
       go_wp2_with fail
       clear zc ng
       refine Nw aN eT gG (f_ p.A p.na p.ca p.C p.Z p.nz p.cz true Du _) fun w4 dQ lC mQ => ?_
       have zc := kC.out _ dQ
       have ng := kS.out _ mQ
       go_wp2
       go_roundw
       case rel => exact ⟨k + 1, by omega, by go_num, HS, dQ⟩
       case measure => simp [intOf]; omega
      | false =>
       have HF : Hid (jJ o.ps o.np = false) := aa (lN (k := k) (by rw [sZ, mY.out]; simp [hss]) hlt)
       have uk := aa hfr
       have Du := aa hss
       clear hfr hss HR
       have QZ := aa hkl
       clear hkl
       have d_ := bP wr
       have kP := qO (w := wr) (fun u => Pa u o.L o.ps) Hr.out (·.below)
       have zc := kC.out _ aF
       obtain ⟨w2, hw, oU, C8, -, kS⟩ := qZ (oh p) Ai wr
       have aK := jY aF oU
       have dm := jY d_ oU
       have bB := bP w2
       clear oU
       have tJ := kC.out _ aK
       have oJ := kS.out _ bB
       go_wp2_with fail
       clear zc tJ oJ hw
       have zc := kC.out _ aK
       have ng := kS.out _ bB
       clear j0 j1 j2 j3 j4
       clear zc ng
       have zc := kC.out _ aK
       have ng := kS.out _ bB
       go_wp2_with fail
       refine (pJ o.L o.ps o.np o.cp p.ix uh (by omega) _ (kP.out _ dm)).mono ?_
       rintro e w3 ⟨ri, rfl, Rs, hb0⟩
       have hne : (ri != (k : Int)) = false := GD QZ.out (by rw [mY.out]) Rs uk.out
       clear Rs
       have aN := bF aK hb0
       have eT := bF dm hb0
       have gG := bF bB hb0
       clear zc ng hb0
       have zc := kC.out _ aN
       have ng := kS.out _ gG
       go_wp2_with fail
       clear zc ng
       refine Nw aN eT gG (f_ p.A p.na p.ca p.C p.Z p.nz p.cz false Du _) fun w4 dQ lC mQ => ?_
       have zc := kC.out _ dQ
       have ng := kS.out _ mQ
       have bV := ag aj.out dQ.out
       go_wp2
       go_ret
       exact ⟨(by rw [HF.out]; try rfl), bV⟩
     | false =>
      have HF : Hid (jJ o.ps o.np = false) := aa (lN (k := k) (by rw [sZ, mY.out]; simp [hfr]) hlt)
      have uk := aa hfr
      clear hfr HR
      have QZ := aa hkl
      clear hkl
      have d_ := bP wr
      have kP := qO (w := wr) (fun u => Pa u o.L o.ps) Hr.out (·.below)
      have zc := kC.out _ aF
      obtain ⟨w2, hw, oU, C8, -, kS⟩ := qZ (oh p) Ai wr
      have aK := jY aF oU
      have dm := jY d_ oU
      have bB := bP w2
      clear oU
      have tJ := kC.out _ aK
      have oJ := kS.out _ bB
      go_wp2_with fail
      clear zc tJ oJ hw
      have zc := kC.out _ aK
      have ng := kS.out _ bB
      clear j0 j1 j2 j3 j4
      clear zc ng
      have zc := kC.out _ aK
      have ng := kS.out _ bB
      go_wp2_with fail
      refine (pJ o.L o.ps o.np o.cp p.ix uh (by omega) _ (kP.out _ dm)).mono ?_
      rintro e w3 ⟨ri, rfl, Rs, hb0⟩
      have hne : (ri != (k : Int)) = true := GD QZ.out (by rw [mY.out]) Rs uk.out
      clear Rs
      have aN := bF aK hb0
      have eT := bF dm hb0
      have gG := bF bB hb0
      clear zc ng hb0
      have zc := kC.out _ aN
      have ng := kS.out _ gG
      have bV := ag aj.out aN.out
      go_wp2
      go_ret
      exact ⟨(by rw [HF.out]; try rfl), bV⟩
  ·
   have hke : k = o.np := by omega
   have HF : Hid (jJ o.ps o.np = true) := aa (by rw [← hke]; exact HR.out)
   have bV := ag aj.out aF.out
   rw [hke]
   go_wp2
   go_ret
   exact ⟨(by rw [HF.out]; try rfl), bV⟩
theorem JJ (o : az) (r : Bool) (hr : Hid (wV o = r)) (w : World) (ho : Hid (dW w o)) :
  Calls Tryz.prog 122 #[x_ o] w (Rt w (.bool r)) := by
 rw [← hr.out]
 unfold wV
 by_cases h1 : 0 ≤ o.num
 ·
  rw [decide_eq_true h1, Bool.true_and]
  by_cases h2 : o.num < 100
  ·
   rw [decide_eq_true h2, Bool.true_and]
   cases hrs : Jr o.rs with
   | false => exact WC o h1 h2 (aa hrs) w
   | true =>
    cases hsh : uO o.na o.nz with
    | false => exact WB o h1 h2 (aa hrs) (aa hsh) w
    | true =>
     by_cases h3 : o.np ≤ 8
     ·
      rw [decide_eq_true h3]
      by_cases h4 : 0 ≤ o.key
      ·
       rw [decide_eq_true h4]
       exact Wy o h1 h2 (aa hrs) (aa hsh) h3 h4 w ho
      ·
       rw [decide_eq_false h4]
       exact Wz o h1 h2 (aa hrs) (aa hsh) h3 h4 w
     ·
      rw [decide_eq_false h3]
      exact WA o h1 h2 (aa hrs) (aa hsh) h3 w
  ·
   rw [decide_eq_false h2]
   exact WE o h1 (by omega) w
 ·
  rw [decide_eq_false h1]
  exact WG o (by omega) w
end Go.Proofs.YtchcllcbknfikaaGreatDoor