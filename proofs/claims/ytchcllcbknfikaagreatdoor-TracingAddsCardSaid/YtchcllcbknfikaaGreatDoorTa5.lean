/- Contracts and lemmas: TrG, TrH, DrA, DrC, Two, TruD, LcA, LcB, LinG, LinI, LinJ, LinK, LinO, LinP, LinQ, LinS, LinW, LcC. -/
import Derived.Deep.AppendLies
import Derived.Deep.MidRow
import Derived.Test.YtchcllcbknfikaaGreatDoorTa4
set_option linter.unusedVariables false
set_option linter.unusedSimpArgs false
set_option maxRecDepth 100000
set_option maxHeartbeats 25600000
namespace Go.Proofs.YtchcllcbknfikaaGreatDoor
open Go.RowKit si
theorem gV (w : World) (a : Nat) (cs : Array Value) : w.grownBy (w.setRow a cs) (some a) :=
 ⟨rfl, rfl, rfl, by simp [World.setRow], fun k hk hne => setRow_other w a k cs (fun e => hne (by rw [e]))⟩
theorem dO.setRow {w : World} {base a : Nat} {v : Value} {cs : List Ic} {r : Array Value} (h : dO w base v cs) (ha : a < base) : dO (w.setRow a r) base v cs :=
 World.ownsRow.kept h (gV w a r) (Or.inr (h.no ha))
theorem Sk.setRow {K : IntKind} {w : World} {b a : Nat} {l : List Int} {r : Array Value} (h : Sk K w (some ⟨b, 0, none⟩) l) (hne : a ≠ b) : Sk K (w.setRow a r) (some ⟨b, 0, none⟩) l :=
 h.grown (gV w a r) (fun b' o' e _ e2 => by cases e; cases e2; exact hne rfl)
theorem cK (c : Ic) : (Tryz.prog.info? 117).map (·.size) = some c.cs.size := by
 have h : (Tryz.prog.info? 117).map (·.size) = some 4 := by kernel_rfl
 exact h
theorem jy (c : Ic) : c.cs.all (·.oneCell') = true := by simp [Ic.cs, Value.oneCell']
theorem Pv (h : List Int) (hl : Hid (h.length = 32)) (hb : Hid (aC h = true)) (c : Int) (s : ByteArray) (hs0 : 1 ≤ s.size) (hs : s.size ≤ 1000) (w : World) :
  Calls Tryz.prog 252 #[.agg (dx h c), .string s, .slice none 0 0] w (E5 (.lst [.byt h, .byt (aX s)]) w) := by
 obtain ⟨i0, hi, hz0, hz1, hz2⟩ := info_parts jl
 obtain ⟨i1, hi1, hy0, hy1, hy2⟩ := info_parts dS
 obtain ⟨W, hW⟩ : ∃ W, (w.alloc (.cells (dx h c) 237)).alloc (.cells #[.int .i64 0, .int .i64 0, .slice none 0 0, .slice none 0 0] 117) = W := ⟨_, rfl⟩
 have bT : Hid (Below w.heap.size w W) := aa (by rw [← hW]; exact aJ (Below.refl _ _))
 have HT0 : Hid (dM W w.heap.size h c) := aa (by rw [← hW]; exact heap_alloc2_old _ _ _)
 have eG : Hid (W.heap[w.heap.size + 1]? = some (.cells #[.int .i64 0, .int .i64 0, .slice none 0 0, .slice none 0 0] 117 (0, 0))) := aa (by rw [← hW]; exact heap_alloc2_new _ _ _)
 have lu : Hid (W.heap.size = w.heap.size + 2) := aa (by rw [← hW]; simp)
 have HW := aa hW
 have hcv := fun w => run_bytes_of_string (P := Tryz.prog) w 9 114 5 s Tryz.underlying9 Tryz.underlying114 Tryz.underlying5
 clear hW
 go_in
 go_upto_region 1 with (fail)
 rw [HW.out]
 clear HW
 have HT1 := aa (HT0.out.below (af W (.cells #[] 5)))
 have hrow : (W.alloc (.cells #[] 5)).ownsRow W.heap.size 5 1 (.slice (some ⟨W.heap.size, 0, none⟩) 0 0) 0 [] := ⟨rfl, Or.inr ⟨W.heap.size, 0, #[], rfl, Nat.le_refl _, heap_alloc_new _ _, Nat.le_refl _, by decide, rfl, rfl⟩⟩
 have b1 : 0 + 32 ≤ maxLen := by unfold maxLen; omega
 have b2 : (0 + 32) * 1 ≤ 140737488355328 := by omega
 have b3 : W.heap.size ≤ (W.alloc (.cells #[] 5)).heap.size := by simp
 have hlen : (h.map (Value.int .u8)).length = 32 * 1 := by simp [hl.out]
 go_upto_region 2 with (at_builtin; refine wpList_append_lies rfl _ _ 114 rfl W.heap.size 5 i1 (.int .u8 0) 1 1 Tryz.underlying114 hi1 hy0 hy1 hy2 rfl (by decide) (.slice (some ⟨W.heap.size, 0, none⟩) 0 0) _ _ rfl hrow ⟨w.heap.size, 0, none⟩ 32 32 (h.map (.int .u8)) rfl hlen HT1.out.sk.news (ints_oneCell .u8 _) (by decide) b1 b2 b3 _ rfl ?_; intro g1 rZ w1 hown1 hgrow1 Ut hlt1)
 have Vj : Hid (aR .u8 5 w1 W.heap.size (.slice (some ⟨g1, 0, none⟩) 32 rZ) h) := aa (by unfold aR; rw [hl.out]; simpa using hown1)
 have HB1 : Hid (Below W.heap.size W w1) := aa (((Below.refl W.heap.size W).alloc (Nat.le_refl _) (.cells #[] 5)).grown hgrow1 (by simp) (fun j hj => by cases hj; exact Nat.le_refl _))
 have Q6 : Hid (W.heap.size ≤ g1) := aa (Vj.out.lt g1 rfl).1
 have YF : Hid (Sk .u8 w1 (some ⟨g1, 0, none⟩) h) := aa (by
  obtain ⟨g, cap, e, _, _, _, hsk⟩ := Vj.out.cells (by rw [hl.out]; decide)
  simp only [Value.slice.injEq, Option.some.injEq, Addr.mk.injEq] at e
  obtain ⟨⟨rfl, -⟩, -, -⟩ := e
  exact hsk)
 have KJ := aa hlt1
 clear hown1 hgrow1 Ut hlt1 hrow b1 b2 b3 hlen HT1 hcv Vj
 obtain ⟨gc, hgc⟩ : ∃ g, grownCap w1 s.size 0 5 = g := ⟨_, rfl⟩
 rw [hgc]
 obtain ⟨Wc, hWc⟩ : ∃ u, w1.alloc (.cells (bytesRow s gc) 5 ((bytesRow s gc).size, (bytesRow s gc).size + 1)) = u := ⟨_, rfl⟩
 rw [hWc]
 have su : Hid (Below w1.heap.size w1 Wc) := aa (by rw [← hWc]; exact af _ _)
 have HSc : Hid (Sk .u8 Wc (some ⟨w1.heap.size, 0, none⟩) (aX s)) := aa (by rw [← hWc]; exact mh (heap_alloc_new w1 _))
 have E_ : Hid (Wc.heap.size = w1.heap.size + 1) := aa (by rw [← hWc]; simp)
 obtain ⟨W2, hW2⟩ : ∃ u, (Wc.alloc (.cells #[.int .i64 2, .int .i64 0, .slice (some ⟨g1, 0, none⟩) 32 rZ, .slice none 0 0, .int .i64 2, .int .i64 0, .slice (some ⟨w1.heap.size, 0, none⟩) s.size gc, .slice none 0 0] 117)).drew = u := ⟨_, rfl⟩
 have uj : Hid (dO W2 Wc.heap.size (.slice (some ⟨w1.heap.size + 1, 0, none⟩) 2 2) [aI (some ⟨g1, 0, none⟩) 32 rZ, aI (some ⟨w1.heap.size, 0, none⟩) s.size gc]) := aa (by
  rw [← hW2]
  have h := (vB Wc (aI (some ⟨g1, 0, none⟩) 32 rZ) (aI (some ⟨w1.heap.size, 0, none⟩) s.size gc)).keep (Below.refl _ _).drew
  rw [E_.out] at h ⊢
  exact h)
 have H9 : Hid (Below w1.heap.size w1 W2) := aa (ag su.out (by rw [← hW2]; exact (af _ _).drew))
 have HB2 : Hid (Below W.heap.size W W2) := aa (ag HB1.out H9.out)
 have HS2 : Hid (Sk .u8 W2 (some ⟨w1.heap.size, 0, none⟩) (aX s)) := aa (HSc.out.below (by rw [← hW2]; exact (af _ _).drew))
 have Vf : Hid (Sk .u8 W2 (some ⟨g1, 0, none⟩) h) := aa (YF.out.below H9.out)
 have HZ1 : Hid (W.heap.size ≤ w1.heap.size) := aa HB1.out.size
 have hzW : Wc.heap.size < W2.heap.size := by rw [← hW2]; simp
 rw [hW2]
 clear hW2 hWc hgc HSc su YF
 have hrow : W2.ownsRow Wc.heap.size 117 4 (.slice (some ⟨w1.heap.size + 1, 0, none⟩) 2 2) 2 ([aI (some ⟨g1, 0, none⟩) 32 rZ, aI (some ⟨w1.heap.size, 0, none⟩) s.size gc].flatMap aT) := uj.out
 have jF : Hid (W2.heap[w.heap.size + 1]? = some (.cells #[.int .i64 0, .int .i64 0, .slice none 0 0, .slice none 0 0] 117 (0, 0))) := aa ((HB2.out.block _ (by have := lu.out; omega)).trans eG.out)
 have HOL := uj
 have Vb := Vf
 have Va := HS2
 have Kw := HB2
 go_wp2_with (first
  | (at_builtin; refine wpList_append_own_none rfl _ _ 115 rfl Wc.heap.size 117 i0 4 Tryz.underlying115 hi _ _ _ rfl hrow rfl ?_)
  | ((with_reducible show wpList _ _ _ (⟨none, _, _, _, _, _⟩ :: _) _ _); refine wpList_store_row rfl 117 _ _ rfl (w.heap.size + 1) (Ic.cs ⟨3, 0, none, 0, 0, some ⟨w1.heap.size + 1, 0, none⟩, 2, 2⟩) rfl rfl _ _ jF.out (cK _) rfl (jy _) ?_))
 skip
 obtain ⟨WF, tC⟩ : ∃ u, W2.setRow (w.heap.size + 1) (Ic.cs ⟨3, 0, none, 0, 0, some ⟨w1.heap.size + 1, 0, none⟩, 2, 2⟩) = u := ⟨_, rfl⟩
 have YL : Hid (dO WF Wc.heap.size (.slice (some ⟨w1.heap.size + 1, 0, none⟩) 2 2) [aI (some ⟨g1, 0, none⟩) 32 rZ, aI (some ⟨w1.heap.size, 0, none⟩) s.size gc]) := aa (by rw [← tC]; exact HOL.out.setRow (by have := E_.out; have := lu.out; have := HZ1.out; omega))
 have Vd : Hid (Sk .u8 WF (some ⟨g1, 0, none⟩) h) := aa (by rw [← tC]; exact Vb.out.setRow (by have := Q6.out; have := lu.out; omega))
 have ZO : Hid (Sk .u8 WF (some ⟨w1.heap.size, 0, none⟩) (aX s)) := aa (by rw [← tC]; exact Va.out.setRow (by have := HZ1.out; have := lu.out; omega))
 have fM : Hid (Below w.heap.size w WF) := aa (by rw [← tC]; exact ai (ag bT.out Kw.out) (Nat.le_succ _))
 have HRW : Hid (WF.heap[w.heap.size + 1]? = some (.cells (Ic.cs ⟨3, 0, none, 0, 0, some ⟨w1.heap.size + 1, 0, none⟩, 2, 2⟩) 117 (0, 0))) := aa (by rw [← tC]; exact setRow_heap _ _ _ _ _ _ jF.out)
 have Ol : Hid (∃ g cap, (Value.slice (some ⟨w1.heap.size + 1, 0, none⟩) 2 2) = .slice (some ⟨g, 0, none⟩) 2 cap ∧ nV WF (.lst [.byt h, .byt (aX s)]) ⟨3, 0, none, 0, 0, some ⟨g, 0, none⟩, 2, cap⟩) := aa (rP YL.out rfl rfl (by decide) (fun k hk => by
  rcases (show k = 0 ∨ k = 1 by omega) with rfl | rfl
  · exact jo Vd.out hl.out
  · exact jo ZO.out (bE s)))
 obtain ⟨g, cap, e3, hit⟩ := Ol.out
 simp only [Value.slice.injEq, Option.some.injEq, Addr.mk.injEq] at e3
 obtain ⟨⟨rfl, -⟩, -, rfl⟩ := e3
 have HIT := aa hit
 clear hit Ol
 rw [tC]
 clear tC
 exact bodyPost_ret (v := .agg (Ic.cs ⟨3, 0, none, 0, 0, some ⟨w1.heap.size + 1, 0, none⟩, 2, 2⟩)) (aD (p := 6) (ty := 117) rfl _ _ ⟨w.heap.size + 1, 0, none⟩ _ rfl (run_loadVar_row _ _ _ _ _ _ _ HRW.out Tryz.underlying117 rfl (cK _))) rfl ⟨⟨3, 0, none, 0, 0, some ⟨w1.heap.size + 1, 0, none⟩, 2, 2⟩, rfl, HIT.out, fM.out⟩
theorem Pt (h : List Int) (hl : Hid (h.length = 32)) (hb : Hid (aC h = true)) (c : Int) (s : ByteArray) (hs0 : 1 ≤ s.size) (hs : s.size ≤ 1000) (item : It) (cI : Ic) (gm cm : Nat) (w : World) (hF : Hid (Four w gm 0 cI)) (hI : Hid (nV w item cI)) :
  Calls Tryz.prog 252 #[.agg (dx h c), .string s, .slice (some ⟨gm, 0, none⟩) 1 cm] w (E5 (.lst [.byt h, .byt (aX s), item]) w) := by
 obtain ⟨i0, hi, hz0, hz1, hz2⟩ := info_parts jl
 obtain ⟨i1, hi1, hy0, hy1, hy2⟩ := info_parts dS
 obtain ⟨W, hW⟩ : ∃ W, (w.alloc (.cells (dx h c) 237)).alloc (.cells #[.int .i64 0, .int .i64 0, .slice none 0 0, .slice none 0 0] 117) = W := ⟨_, rfl⟩
 have bT : Hid (Below w.heap.size w W) := aa (by rw [← hW]; exact aJ (Below.refl _ _))
 have HT0 : Hid (dM W w.heap.size h c) := aa (by rw [← hW]; exact heap_alloc2_old _ _ _)
 have eG : Hid (W.heap[w.heap.size + 1]? = some (.cells #[.int .i64 0, .int .i64 0, .slice none 0 0, .slice none 0 0] 117 (0, 0))) := aa (by rw [← hW]; exact heap_alloc2_new _ _ _)
 have lu : Hid (W.heap.size = w.heap.size + 2) := aa (by rw [← hW]; simp)
 have HW := aa hW
 have hcv := fun w => run_bytes_of_string (P := Tryz.prog) w 9 114 5 s Tryz.underlying9 Tryz.underlying114 Tryz.underlying5
 clear hW
 go_in
 go_upto_region 1 with (fail)
 rw [HW.out]
 clear HW
 have HT1 := aa (HT0.out.below (af W (.cells #[] 5)))
 have hrow : (W.alloc (.cells #[] 5)).ownsRow W.heap.size 5 1 (.slice (some ⟨W.heap.size, 0, none⟩) 0 0) 0 [] := ⟨rfl, Or.inr ⟨W.heap.size, 0, #[], rfl, Nat.le_refl _, heap_alloc_new _ _, Nat.le_refl _, by decide, rfl, rfl⟩⟩
 have b1 : 0 + 32 ≤ maxLen := by unfold maxLen; omega
 have b2 : (0 + 32) * 1 ≤ 140737488355328 := by omega
 have b3 : W.heap.size ≤ (W.alloc (.cells #[] 5)).heap.size := by simp
 have hlen : (h.map (Value.int .u8)).length = 32 * 1 := by simp [hl.out]
 go_upto_region 2 with (at_builtin; refine wpList_append_lies rfl _ _ 114 rfl W.heap.size 5 i1 (.int .u8 0) 1 1 Tryz.underlying114 hi1 hy0 hy1 hy2 rfl (by decide) (.slice (some ⟨W.heap.size, 0, none⟩) 0 0) _ _ rfl hrow ⟨w.heap.size, 0, none⟩ 32 32 (h.map (.int .u8)) rfl hlen HT1.out.sk.news (ints_oneCell .u8 _) (by decide) b1 b2 b3 _ rfl ?_; intro g1 rZ w1 hown1 hgrow1 Ut hlt1)
 have Vj : Hid (aR .u8 5 w1 W.heap.size (.slice (some ⟨g1, 0, none⟩) 32 rZ) h) := aa (by unfold aR; rw [hl.out]; simpa using hown1)
 have HB1 : Hid (Below W.heap.size W w1) := aa (((Below.refl W.heap.size W).alloc (Nat.le_refl _) (.cells #[] 5)).grown hgrow1 (by simp) (fun j hj => by cases hj; exact Nat.le_refl _))
 have Q6 : Hid (W.heap.size ≤ g1) := aa (Vj.out.lt g1 rfl).1
 have YF : Hid (Sk .u8 w1 (some ⟨g1, 0, none⟩) h) := aa (by
  obtain ⟨g, cap, e, _, _, _, hsk⟩ := Vj.out.cells (by rw [hl.out]; decide)
  simp only [Value.slice.injEq, Option.some.injEq, Addr.mk.injEq] at e
  obtain ⟨⟨rfl, -⟩, -, -⟩ := e
  exact hsk)
 have KJ := aa hlt1
 clear hown1 hgrow1 Ut hlt1 hrow b1 b2 b3 hlen HT1 hcv Vj
 obtain ⟨gc, hgc⟩ : ∃ g, grownCap w1 s.size 0 5 = g := ⟨_, rfl⟩
 rw [hgc]
 obtain ⟨Wc, hWc⟩ : ∃ u, w1.alloc (.cells (bytesRow s gc) 5 ((bytesRow s gc).size, (bytesRow s gc).size + 1)) = u := ⟨_, rfl⟩
 rw [hWc]
 have su : Hid (Below w1.heap.size w1 Wc) := aa (by rw [← hWc]; exact af _ _)
 have HSc : Hid (Sk .u8 Wc (some ⟨w1.heap.size, 0, none⟩) (aX s)) := aa (by rw [← hWc]; exact mh (heap_alloc_new w1 _))
 have E_ : Hid (Wc.heap.size = w1.heap.size + 1) := aa (by rw [← hWc]; simp)
 obtain ⟨W2, hW2⟩ : ∃ u, (Wc.alloc (.cells #[.int .i64 2, .int .i64 0, .slice (some ⟨g1, 0, none⟩) 32 rZ, .slice none 0 0, .int .i64 2, .int .i64 0, .slice (some ⟨w1.heap.size, 0, none⟩) s.size gc, .slice none 0 0] 117)).drew = u := ⟨_, rfl⟩
 have uj : Hid (dO W2 Wc.heap.size (.slice (some ⟨w1.heap.size + 1, 0, none⟩) 2 2) [aI (some ⟨g1, 0, none⟩) 32 rZ, aI (some ⟨w1.heap.size, 0, none⟩) s.size gc]) := aa (by
  rw [← hW2]
  have h := (vB Wc (aI (some ⟨g1, 0, none⟩) 32 rZ) (aI (some ⟨w1.heap.size, 0, none⟩) s.size gc)).keep (Below.refl _ _).drew
  rw [E_.out] at h ⊢
  exact h)
 have H9 : Hid (Below w1.heap.size w1 W2) := aa (ag su.out (by rw [← hW2]; exact (af _ _).drew))
 have HB2 : Hid (Below W.heap.size W W2) := aa (ag HB1.out H9.out)
 have HS2 : Hid (Sk .u8 W2 (some ⟨w1.heap.size, 0, none⟩) (aX s)) := aa (HSc.out.below (by rw [← hW2]; exact (af _ _).drew))
 have Vf : Hid (Sk .u8 W2 (some ⟨g1, 0, none⟩) h) := aa (YF.out.below H9.out)
 have HZ1 : Hid (W.heap.size ≤ w1.heap.size) := aa HB1.out.size
 have hzW : Wc.heap.size < W2.heap.size := by rw [← hW2]; simp
 rw [hW2]
 clear hW2 hWc hgc HSc su YF
 have hrow : W2.ownsRow Wc.heap.size 117 4 (.slice (some ⟨w1.heap.size + 1, 0, none⟩) 2 2) 2 ([aI (some ⟨g1, 0, none⟩) 32 rZ, aI (some ⟨w1.heap.size, 0, none⟩) s.size gc].flatMap aT) := uj.out
 have VX : Hid (Four W2 gm 0 cI) := aa ((hF.out.below bT.out).below HB2.out)
 have vZ : Wc.heap.size ≤ W2.heap.size := by omega
 have b1 : 2 + 1 ≤ maxLen := by unfold maxLen; omega
 have b2 : (2 + 1) * 64 ≤ 140737488355328 := by omega
 have YM : ∀ (j : Nat) (u : Value), (aT cI)[j]? = some u → W2.cell? ((⟨gm, 0, none⟩ : Addr).add j) = some u := Bo VX.out
 go_wp2_with (first
  | (at_builtin; refine wpList_append_lies rfl _ _ 115 rfl Wc.heap.size 117 i0 (.agg #[.int .i64 0, .int .i64 0, .slice none 0 0, .slice none 0 0]) 4 64 Tryz.underlying115 hi hz0 hz1 hz2 rfl (by decide) (.slice (some ⟨w1.heap.size + 1, 0, none⟩) 2 2) _ _ rfl hrow ⟨gm, 0, none⟩ 1 cm (aT cI) rfl rfl YM (tT cI) (by decide) b1 b2 vZ _ rfl ?_; intro g3 nU w3 hown3 hgrow3 Us hlt3; have Kw : Hid (Below W.heap.size W w3) := aa (HB2.out.grown hgrow3 (by have := E_.out; have := HZ1.out; omega) (fun j hj => by have := E_.out; have := HZ1.out; have := (World.ownsRow.lt hrow j hj).1; omega)); have jF : Hid (w3.heap[w.heap.size + 1]? = some (.cells #[.int .i64 0, .int .i64 0, .slice none 0 0, .slice none 0 0] 117 (0, 0))) := aa ((Kw.out.block _ (by have := lu.out; omega)).trans eG.out))
  | ((with_reducible show wpList _ _ _ (⟨none, _, _, _, _, _⟩ :: _) _ _); refine wpList_store_row rfl 117 _ _ rfl (w.heap.size + 1) (Ic.cs ⟨3, 0, none, 0, 0, some ⟨g3, 0, none⟩, 3, nU⟩) rfl rfl _ _ jF.out (cK _) rfl (jy _) ?_))
 have Ou : Hid (Below (w1.heap.size + 1) W2 w3) := aa ((Below.refl _ _).grown hgrow3 (by have := E_.out; omega) (fun j hj => by have := E_.out; have := (World.ownsRow.lt hrow j hj).1; omega))
 have HOL : Hid (dO w3 Wc.heap.size (.slice (some ⟨g3, 0, none⟩) 3 nU) [aI (some ⟨g1, 0, none⟩) 32 rZ, aI (some ⟨w1.heap.size, 0, none⟩) s.size gc, cI]) := aa hown3
 have Vb : Hid (Sk .u8 w3 (some ⟨g1, 0, none⟩) h) := aa (FK Vf.out Ou.out (by have := KJ.out; omega))
 have Va : Hid (Sk .u8 w3 (some ⟨w1.heap.size, 0, none⟩) (aX s)) := aa (FK HS2.out Ou.out (by omega))
 clear hown3 hgrow3 Us hlt3 YM
 obtain ⟨WF, tC⟩ : ∃ u, w3.setRow (w.heap.size + 1) (Ic.cs ⟨3, 0, none, 0, 0, some ⟨g3, 0, none⟩, 3, nU⟩) = u := ⟨_, rfl⟩
 have YL : Hid (dO WF Wc.heap.size (.slice (some ⟨g3, 0, none⟩) 3 nU) [aI (some ⟨g1, 0, none⟩) 32 rZ, aI (some ⟨w1.heap.size, 0, none⟩) s.size gc, cI]) := aa (by rw [← tC]; exact HOL.out.setRow (by have := E_.out; have := lu.out; have := HZ1.out; omega))
 have Vd : Hid (Sk .u8 WF (some ⟨g1, 0, none⟩) h) := aa (by rw [← tC]; exact Vb.out.setRow (by have := Q6.out; have := lu.out; omega))
 have ZO : Hid (Sk .u8 WF (some ⟨w1.heap.size, 0, none⟩) (aX s)) := aa (by rw [← tC]; exact Va.out.setRow (by have := HZ1.out; have := lu.out; omega))
 have fM : Hid (Below w.heap.size w WF) := aa (by rw [← tC]; exact ai (ag bT.out Kw.out) (Nat.le_succ _))
 have HRW : Hid (WF.heap[w.heap.size + 1]? = some (.cells (Ic.cs ⟨3, 0, none, 0, 0, some ⟨g3, 0, none⟩, 3, nU⟩) 117 (0, 0))) := aa (by rw [← tC]; exact setRow_heap _ _ _ _ _ _ jF.out)
 have Ol : Hid (∃ g cap, (Value.slice (some ⟨g3, 0, none⟩) 3 nU) = .slice (some ⟨g, 0, none⟩) 3 cap ∧ nV WF (.lst [.byt h, .byt (aX s), item]) ⟨3, 0, none, 0, 0, some ⟨g, 0, none⟩, 3, cap⟩) := aa (rP YL.out rfl rfl (by decide) (fun k hk => by
  rcases (show k = 0 ∨ k = 1 ∨ k = 2 by omega) with rfl | rfl | rfl
  · exact jo Vd.out hl.out
  · exact jo ZO.out (bE s)
  · exact hI.out.kept fM.out))
 obtain ⟨g, cap, e3, hit⟩ := Ol.out
 simp only [Value.slice.injEq, Option.some.injEq, Addr.mk.injEq] at e3
 obtain ⟨⟨rfl, -⟩, -, rfl⟩ := e3
 have HIT := aa hit
 clear hit Ol
 rw [tC]
 clear tC
 exact bodyPost_ret (v := .agg (Ic.cs ⟨3, 0, none, 0, 0, some ⟨g3, 0, none⟩, 3, nU⟩)) (aD (p := 6) (ty := 117) rfl _ _ ⟨w.heap.size + 1, 0, none⟩ _ rfl (run_loadVar_row _ _ _ _ _ _ _ HRW.out Tryz.underlying117 rfl (cK _))) rfl ⟨⟨3, 0, none, 0, 0, some ⟨g3, 0, none⟩, 3, nU⟩, rfl, HIT.out, fM.out⟩
theorem Jv (A : Option Addr) (l : List Int) (n c : Nat) (hn : Hid (l.length = n)) (hbig : n ≤ 1000000) (w : World) (hs : Hid (Sl w A l)) :
  Calls Tryz.prog 249 #[.slice A n c] w (E5 (.lst (l.map .int)) w) := by
 obtain ⟨i0, hi, hz0, hz1, hz2⟩ := info_parts jl
 obtain ⟨W, hW⟩ : ∃ W, (w.alloc (.cells #[.int .i64 0, .int .i64 0, .slice none 0 0, .slice none 0 0] 117)).alloc (.cells #[.int .i64 3, .int .i64 0, .slice none 0 0, .slice none 0 0] 117) = W := ⟨_, rfl⟩
 have bT : Hid (Below w.heap.size w W) := aa (by rw [← hW]; exact aJ (Below.refl _ _))
 have lu : Hid (W.heap.size = w.heap.size + 2) := aa (by rw [← hW]; simp)
 have hF : Four W (w.heap.size + 1) 0 ⟨3, 0, none, 0, 0, none, 0, 0⟩ := by
  rw [← hW]
  have h := heap_alloc2_new w (.cells #[.int .i64 0, .int .i64 0, .slice none 0 0, .slice none 0 0] 117) (.cells #[.int .i64 3, .int .i64 0, .slice none 0 0, .slice none 0 0] 117)
  exact ⟨au h 0, au h 1, au h 2, au h 3⟩
 have hf0 : ∀ j, W.frozen? ⟨w.heap.size + 1, j, none⟩ = false := by
  rw [← hW]
  exact fun j => av (heap_alloc2_new _ _ _) j
 have HG : Hid ((Four W w.heap.size 0 ⟨0, 0, none, 0, 0, none, 0, 0⟩) ∧ ∀ j, W.frozen? ⟨w.heap.size, j, none⟩ = false) := aa (by
  rw [← hW]
  have h := heap_alloc2_old w (.cells #[.int .i64 0, .int .i64 0, .slice none 0 0, .slice none 0 0] 117) (.cells #[.int .i64 3, .int .i64 0, .slice none 0 0, .slice none 0 0] 117)
  exact ⟨⟨au h 0, au h 1, au h 2, au h 3⟩, fun j => av h j⟩)
 have Kq : Hid (W.heap[w.heap.size]? = some (.cells #[.int .i64 0, .int .i64 0, .slice none 0 0, .slice none 0 0] 117 (0, 0))) := aa (by rw [← hW]; exact heap_alloc2_old w _ _)
 have HS := aa hs.out
 have HW := aa hW
 have HX : Hid (Own W ⟨w.heap.size + 1, 0, none⟩ (.int .i64 3) ∧ Own W ⟨w.heap.size + 1, 1, none⟩ (.int .i64 0) ∧ Own W ⟨w.heap.size + 1, 2, none⟩ (.slice none 0 0)) := aa ⟨⟨hF.1, hf0 0⟩, ⟨hF.2.1, hf0 1⟩, ⟨hF.2.2.1, hf0 2⟩⟩
 have HL : Hid (Own W ⟨w.heap.size + 1, 3, none⟩ (.slice none 0 0)) := aa ⟨hF.2.2.2, hf0 3⟩
 clear hW hs hF hf0
 go_in
 go_wp2
 rw [HW.out]
 go_loopw [4] (fun i u => ∃ (k : Nat) (v : Value), k ≤ n ∧ i = .int .i64 k ∧ Hid (Own u ⟨w.heap.size + 1, 3, none⟩ v) ∧ Hid (dO u (w.heap.size + 2) v ((l.take k).map aM)) ∧ Hid (Own u ⟨w.heap.size + 1, 0, none⟩ (.int .i64 3) ∧ Own u ⟨w.heap.size + 1, 1, none⟩ (.int .i64 0) ∧ Own u ⟨w.heap.size + 1, 2, none⟩ (.slice none 0 0)) ∧ Hid (Below (w.heap.size + 1) W u)) (fun i _ => n - (intOf i).toNat)
 case atStart => exact ⟨0, _, by omega, rfl, HL, aa (rM _ _), HX, aa (Below.refl _ _)⟩
 case round =>
  obtain ⟨k, v, hk, rfl, HV, HO, oI, aF⟩ := hrel
  by_cases hlt : k < n
  ·
   have hkl : k < l.length := by rw [hn.out]; exact hlt
   obtain ⟨b, o, hA, hc⟩ := (HS.out.below (bT.out.trans (aF.out.mono (Nat.le_succ _)))) k hkl
   subst hA
   have yx := aa (uD hkl)
   obtain ⟨x, hx⟩ : ∃ x, l.getD k 0 = x := ⟨_, rfl⟩
   rw [hx] at hc yx
   have ry : Hid (((l.take k).map aM).length = k) := aa (by rw [List.length_map, List.length_take]; omega)
   have hown : wr.ownsRow (w.heap.size + 2) 117 4 v k (((l.take k).map aM).flatMap aT) := by have h := HO.out; unfold dO at h; rwa [ry.out] at h
   have hbs : w.heap.size + 2 ≤ wr.heap.size := by have := aF.out.size; have := lu.out; omega
   have hno : v.ownBlock ≠ some (w.heap.size + 1) := HO.out.no (by omega)
   obtain ⟨v3, FJ⟩ := HV.out
   have hS := aa (show ∀ u1 : World, Hid (Below wr.drew.heap.size wr.drew u1) → (u1.cell? ⟨w.heap.size + 1, 3, none⟩ = some v ∧ u1.cell? ⟨b, o + k, none⟩ = some (.int .i64 x) ∧ Hid (Below wr.drew.heap.size wr.drew u1)) from fun u1 h1 => ⟨cell_below (w := wr.drew) v3 h1.out, cell_below (w := wr.drew) hc h1.out, h1⟩)
   have HOWN := aa hown
   clear hx hkl hown v3 FJ hc
   go_wp2
   refine bJ (S := fun w' => w'.cell? ⟨w.heap.size + 1, 3, none⟩ = some v ∧ w'.cell? ⟨b, o + k, none⟩ = some (.int .i64 x) ∧ Hid (Below wr.drew.heap.size wr.drew w')) (E := [8, 9, 10]) (by kernel_rfl) (hS.out _ (aa (Below.refl _ _))) (fun hHeld => ?_)
   refine bQ 0 ?_
   refine bQ 1 ?_
   refine bQ 2 ?_
   refine bQ 3 ?_
   refine bQ 4 ?_
   refine bQ 5 ?_
   refine bQ 6 ?_
   refine bY 7 fun K hK => ?_
   go_simp
   refine hK.out _ _ ?_ (fun hHeld => ?_)
   · exact hS.out _ (aa (af _ _))
   clear hK K
   try simp only [qq]
   refine mR 8 fun K hK => ?_
   refine step_append_lies _ (by rfl) _ _ _ (by rfl) (w.heap.size + 2) 117 i0 _ 4 64 Tryz.underlying115 hi hz0 hz1 hz2 rfl (by omega) v k (((l.take k).map aM).flatMap aT) (by rfl) ((HOWN.out.alloc _).drew)
    ⟨wr.heap.size, 0, none⟩ 1 1 [.int .i64 1, .int .i64 x, .slice none 0 0, .slice none 0 0] (by rfl) (by rfl) (World.news_of_block (cs := #[.int .i64 1, .int .i64 x, .slice none 0 0, .slice none 0 0]) (t := 117) (fr := (0, 0)) (heap_alloc_new wr _)) (by simp [Value.oneCell'])
    (by omega) (by unfold maxLen; omega) (by omega) (by simp; omega) (wr.heap.size + 1) (by simp) ?_; intro gg cap wz hown1 hgrow hat hlt2
   have He := aO (w := (wr.alloc (.cells #[.int .i64 1, .int .i64 x, .slice none 0 0, .slice none 0 0] 117)).drew) (HV.out.below (af wr (.cells #[.int .i64 1, .int .i64 x, .slice none 0 0, .slice none 0 0] 117)).drew) hgrow hno
   have U4 := He
   obtain ⟨p2, f2⟩ := U4
   refine hK.out _ _ ?_
   clear hK K
   try simp only [qq]
   refine mR 9 fun K hK => ?_
   go_simp
   refine hK.out _ _ ?_
   clear hK K
   try simp only [qq]
   refine mR 10 fun K hK => ?_
   go_simp
   refine hK.out _ _ ?_
   clear hK K
   try simp only [qq]
   refine gH ?_
   have HB2 : Hid (Below (w.heap.size + 1) W wz) := aa (((aF.out.alloc (by omega) (.cells #[.int .i64 1, .int .i64 x, .slice none 0 0, .slice none 0 0] 117)).drew).grown hgrow (by simp; omega) (fun j hj => by have := (World.ownsRow.lt HOWN.out j hj).1; omega))
   have uj : Hid (dO wz (w.heap.size + 2) (.slice (some ⟨gg, 0, none⟩) (k + 1) cap) ((l.take (k + 1)).map aM)) := aa (by
    rw [yx.out]
    exact dO.app ry.out.symm hown1)
   have hd := (Below.refl wr.heap.size wr)
   have a0 := aO (w := (wr.alloc (.cells #[.int .i64 1, .int .i64 x, .slice none 0 0, .slice none 0 0] 117)).drew) (oI.out.1.below (af wr (.cells #[.int .i64 1, .int .i64 x, .slice none 0 0, .slice none 0 0] 117)).drew) hgrow hno
   have a1 := aO (w := (wr.alloc (.cells #[.int .i64 1, .int .i64 x, .slice none 0 0, .slice none 0 0] 117)).drew) (oI.out.2.1.below (af wr (.cells #[.int .i64 1, .int .i64 x, .slice none 0 0, .slice none 0 0] 117)).drew) hgrow hno
   have a2 := aO (w := (wr.alloc (.cells #[.int .i64 1, .int .i64 x, .slice none 0 0, .slice none 0 0] 117)).drew) (oI.out.2.2.below (af wr (.cells #[.int .i64 1, .int .i64 x, .slice none 0 0, .slice none 0 0] 117)).drew) hgrow hno
   have uG : Hid (Own (wz.setCell ⟨w.heap.size + 1, 3, none⟩ (.slice (some ⟨gg, 0, none⟩) (k + 1) cap)) ⟨w.heap.size + 1, 3, none⟩ (.slice (some ⟨gg, 0, none⟩) (k + 1) cap)) := aa (bu He)
   have yO : Hid (dO (wz.setCell ⟨w.heap.size + 1, 3, none⟩ (.slice (some ⟨gg, 0, none⟩) (k + 1) cap)) (w.heap.size + 2) (.slice (some ⟨gg, 0, none⟩) (k + 1) cap) ((l.take (k + 1)).map aM)) := aa (uj.out.set (by omega))
   have QM : Hid (Own (wz.setCell ⟨w.heap.size + 1, 3, none⟩ (.slice (some ⟨gg, 0, none⟩) (k + 1) cap)) ⟨w.heap.size + 1, 0, none⟩ (.int .i64 3) ∧ Own (wz.setCell ⟨w.heap.size + 1, 3, none⟩ (.slice (some ⟨gg, 0, none⟩) (k + 1) cap)) ⟨w.heap.size + 1, 1, none⟩ (.int .i64 0) ∧ Own (wz.setCell ⟨w.heap.size + 1, 3, none⟩ (.slice (some ⟨gg, 0, none⟩) (k + 1) cap)) ⟨w.heap.size + 1, 2, none⟩ (.slice none 0 0)) :=
    aa ⟨ak a0 (by simp), ak a1 (by simp), ak a2 (by simp)⟩
   have kL : Hid (Below (w.heap.size + 1) W (wz.setCell ⟨w.heap.size + 1, 3, none⟩ (.slice (some ⟨gg, 0, none⟩) (k + 1) cap))) := aa (HB2.out.setCell (Nat.le_refl _) _)
   clear hown1 hgrow HO oI HV p2 f2 a0 a1 a2 HB2 uj He hd
   go_wp2
   go_roundw
   case rel => exact ⟨k + 1, _, by omega, by go_num, uG, yO, QM, kL⟩
   case measure => simp [intOf]; omega
  ·
   have xC : Hid (dO wr (w.heap.size + 2) v (l.map aM)) := aa (by
    have h := HO.out
    rwa [List.take_of_length_le (by have := hn.out; omega)] at h)
   obtain ⟨L, cl, RG⟩ := xC.out.len
   rw [List.length_map, hn.out] at RG
   subst RG
   obtain ⟨p0, p0f⟩ := oI.out.1
   obtain ⟨p1, p1f⟩ := oI.out.2.1
   obtain ⟨p2, p2f⟩ := oI.out.2.2
   obtain ⟨p3, p3f⟩ := HV.out
   have Y5 := HG.out
   have r0 := (aF.out.cell (p := ⟨w.heap.size, 0, none⟩) (Nat.lt_succ_self _)).trans HG.out.1.1
   have r1 := (aF.out.cell (p := ⟨w.heap.size, 1, none⟩) (Nat.lt_succ_self _)).trans HG.out.1.2.1
   have r2 := (aF.out.cell (p := ⟨w.heap.size, 2, none⟩) (Nat.lt_succ_self _)).trans HG.out.1.2.2.1
   have r3 := (aF.out.cell (p := ⟨w.heap.size, 3, none⟩) (Nat.lt_succ_self _)).trans HG.out.1.2.2.2
   have z0 := (aF.out.frozen (p := ⟨w.heap.size, 0, none⟩) (Nat.lt_succ_self _)).trans (HG.out.2 0)
   have z1 := (aF.out.frozen (p := ⟨w.heap.size, 1, none⟩) (Nat.lt_succ_self _)).trans (HG.out.2 1)
   have z2 := (aF.out.frozen (p := ⟨w.heap.size, 2, none⟩) (Nat.lt_succ_self _)).trans (HG.out.2 2)
   have z3 := (aF.out.frozen (p := ⟨w.heap.size, 3, none⟩) (Nat.lt_succ_self _)).trans (HG.out.2 3)
   have vZ := aa (bT.out.trans (aF.out.mono (Nat.le_succ _)))
   clear oI HV HO Y5
   obtain ⟨WF, tC⟩ : ∃ u, (((wr.setCell ⟨w.heap.size, 0, none⟩ (.int .i64 3)).setCell ⟨w.heap.size, 1, none⟩ (.int .i64 0)).setCell ⟨w.heap.size, 2, none⟩ (.slice none 0 0)).setCell ⟨w.heap.size, 3, none⟩ (.slice L n cl) = u := ⟨_, rfl⟩
   have hgB : WF.heap[w.heap.size]? = some (.cells #[.int .i64 3, .int .i64 0, .slice none 0 0, .slice L n cl] 117 (0, 0)) := by
    have h0 := (aF.out.block w.heap.size (Nat.lt_succ_self _)).trans Kq.out
    rw [← tC, heap_setCell_same _ _ _ _ _ _ (heap_setCell_same _ _ _ _ _ _ (heap_setCell_same _ _ _ _ _ _ (heap_setCell_same _ _ _ _ _ _ h0)))]
    rfl
   have Dv : Hid (dO WF (w.heap.size + 2) (.slice L n cl) (l.map aM)) := aa (by
    rw [← tC]
    exact (((xC.out.set (by omega)).set (by omega)).set (by omega)).set (by omega))
   have fM : Hid (Below w.heap.size w WF) := aa (by
    rw [← tC]
    exact (((vZ.out.setCell (Nat.le_refl _) _).setCell (Nat.le_refl _) _).setCell (Nat.le_refl _) _).setCell (Nat.le_refl _) _)
   obtain ⟨L', cl', e, zH⟩ := Er Dv.out
   rw [hn.out] at e zH
   simp only [Value.slice.injEq] at e
   obtain ⟨rfl, _, rfl⟩ := e
   have HIT := aa zH
   have Vn : Kp ((loadVar 117 ⟨w.heap.size, 0, none⟩).run Tryz.prog WF = .ok (.agg #[.int .i64 3, .int .i64 0, .slice none 0 0, .slice L n cl]) WF) := ⟨run_loadVar_row _ _ _ _ _ _ _ hgB Tryz.underlying117 rfl (by kernel_rfl)⟩
   have Ym := aa tC
   clear zH xC Dv hgB tC
   go_wp2
   rw [Ym.out]
   exact bodyPost_ret (v := .agg #[.int .i64 3, .int .i64 0, .slice none 0 0, .slice L n cl]) (aD (p := 2) (ty := 117) rfl _ _ ⟨w.heap.size, 0, none⟩ _ rfl Vn.out) rfl ⟨⟨3, 0, none, 0, 0, L, n, cl⟩, rfl, HIT.out, fM.out⟩
def v_ (w : World) (b : Nat) (h : List Int) (c : Int) : Prop := w.heap[b]? = some (.cells (dx h c) 43 (0, 0))
theorem v_.below {w w' : World} {b : Nat} {h : List Int} {c : Int} (hh : v_ w b h c) (hb : Below w.heap.size w w') : v_ w' b h c := (hb.block b (Array.getElem?_eq_some_iff.1 hh).1).trans hh
theorem v_.new (w : World) (h : List Int) (c : Int) : v_ (w.alloc (.cells (dx h c) 43)) w.heap.size h c := heap_alloc_new _ _
theorem v_.lt {w : World} {b : Nat} {h : List Int} {c : Int} (hh : v_ w b h c) : b < w.heap.size := (Array.getElem?_eq_some_iff.1 hh).1
theorem v_.count {w : World} {b : Nat} {h : List Int} {c : Int} (hh : v_ w b h c) (hl : h.length = 32) : w.cell? ⟨b, 32, none⟩ = some (.int .i64 c) := by
 rw [au hh, dx, Array.getElem?_append_right (by rw [dL, hl]; exact Nat.le_refl _), dL, hl]
 rfl
theorem v_.sk {w : World} {b : Nat} {h : List Int} {c : Int} (hh : v_ w b h c) : Sk .u8 w (some ⟨b, 0, none⟩) h := fun j hj => ⟨b, 0, rfl, by
 rw [Nat.zero_add, au hh, dx, Array.getElem?_append_left (by rw [dL]; exact hj)]
 exact yK hj⟩
theorem v_.setRow {w : World} {b : Nat} {h h' : List Int} {c c' : Int} (hh : v_ w b h c) : v_ (w.setRow b (dx h' c')) b h' c' := setRow_heap w b _ _ _ _ hh
def VL (h : List Int) (c : Int) (f : Bool) : Array Value := arr .u8 h ++ #[.int .i64 c, .bool f]
def zR (w : World) (b : Nat) (h : List Int) (c : Int) (f : Bool) : Prop := w.heap[b]? = some (.cells (VL h c f) 135 (0, 0))
variable {w : World} {b : Nat} {h : List Int} {c : Int} {f : Bool}
theorem zR.lt (hh : zR w b h c f) : b < w.heap.size := (Array.getElem?_eq_some_iff.1 hh).1
theorem zR.below {w' : World} (hh : zR w b h c f) (hb : Below w.heap.size w w') : zR w' b h c f := (hb.block b hh.lt).trans hh
theorem DV (hl : h.length = 32) : (VL h c f)[32]? = some (.int .i64 c) := by
 rw [VL, Array.getElem?_append_right (by rw [dL, hl]; exact Nat.le_refl _), dL, hl]; rfl
theorem K6 (hl : h.length = 32) : (VL h c f)[33]? = some (.bool f) := by
 rw [VL, Array.getElem?_append_right (by rw [dL, hl]; decide), dL, hl]; rfl
theorem zR.count (hh : zR w b h c f) (hl : h.length = 32) : Own w ⟨b, 32, none⟩ (.int .i64 c) := ⟨(au hh 32).trans (DV hl), av hh 32⟩
theorem zR.full (hh : zR w b h c f) (hl : h.length = 32) : Own w ⟨b, 33, none⟩ (.bool f) := ⟨(au hh 33).trans (K6 hl), av hh 33⟩
theorem zR.range (hh : zR w b h c f) (hl : h.length = 32) : w.rangeAt b 0 (dx h c).toList := fun j v hj => by
 have hlt : j < 33 := by
  have h2 := (List.getElem?_eq_some_iff.1 hj).1
  rw [Array.length_toList, uT hl] at h2
  exact h2
 rw [Nat.zero_add, au hh, ← hj, Array.getElem?_toList]
 by_cases h3 : j < 32
 · rw [VL, dx, Array.getElem?_append_left (by rw [dL, hl]; exact h3), Array.getElem?_append_left (by rw [dL, hl]; exact h3)]
 ·
  obtain rfl : j = 32 := by omega
  rw [DV hl, dx, Array.getElem?_append_right (by rw [dL, hl]; exact Nat.le_refl _), dL, hl]
  rfl
theorem nM {w w' : World} (h : Below w.heap.size w w') (r : Option Nat) : w.grownBy w' r := ⟨h.os, h.tape, h.output, h.size, fun k hk _ => h.block k hk⟩
theorem zK {w : World} (b j : Nat) (v : Value) : w.grownBy (w.setCell ⟨b, j, none⟩ v) (some b) := iQ w b j v
structure QI (w0 : World) (hb : Nat) (box : Obj) (vX : Value) (nX : Nat) (xs : List Int) (vY : Value) (nY : Nat) (ys : List Int) (u : World) : Prop where
 b : Below w0.heap.size w0 u
 x : u.heap[hb]? = some box
 ox : u.ownsRow w0.heap.size 3 1 vX nX (xs.map (Value.int .i64))
 oy : u.ownsRow w0.heap.size 3 1 vY nY (ys.map (Value.int .i64))
 nxy : ∀ j, vX.ownBlock = some j → vY.ownBlock ≠ some j
 nx : vX.ownBlock ≠ some hb
 ny : vY.ownBlock ≠ some hb
theorem nD (v : Value) : v.ownBlock = none ∨ v.ownBlock ≠ none := by
 cases h : v.ownBlock with
 | none => exact .inl rfl
 | some j => exact .inr (by simp)
theorem Cz {u : World} {g : Nat} {o : Obj} (h : u.heap[g]? = some o) : g < u.heap.size := (Array.getElem?_eq_some_iff.1 h).1
section
variable {w0 : World} {hb : Nat} {box : Obj} {vX vY : Value} {nX nY : Nat} {xs ys : List Int} {u u2 : World}
theorem QI.below (h : QI w0 hb box vX nX xs vY nY ys u) (hq : Below u.heap.size u u2) : QI w0 hb box vX nX xs vY nY ys u2 :=
 ⟨ag h.b hq, (hq.block hb (Cz h.x)).trans h.x, h.ox.kept (nM hq none) (nD _), h.oy.kept (nM hq none) (nD _), h.nxy, h.nx, h.ny⟩
structure zU (u : World) (g : Nat) (a : Int) (vX vY : Value) : Prop where
 c : u.heap[g]? = some (.cells #[.int .i64 a] 3)
 nx : vX.ownBlock ≠ some g
 ny : vY.ownBlock ≠ some g
theorem zU.new (h : QI w0 hb box vX nX xs vY nY ys u) (a : Int) : zU (u.alloc (.cells #[.int .i64 a] 3)) u.heap.size a vX vY :=
 ⟨heap_alloc_new _ _, fun e => by have := (h.ox.lt _ e).2; omega, fun e => by have := (h.oy.lt _ e).2; omega⟩
theorem zU.below {g : Nat} {a : Int} (h : zU u g a vX vY) (hq : Below u.heap.size u u2) : zU u2 g a vX vY :=
 ⟨(hq.block g (Cz h.c)).trans h.c, h.nx, h.ny⟩
theorem zU.news {g : Nat} {a : Int} (h : zU u g a vX vY) : ∀ j v, [Value.int .i64 a][j]? = some v → u.cell? ((⟨g, 0, none⟩ : Addr).add j) = some v :=
 World.news_of_block (cs := #[.int .i64 a]) (t := 3) (fr := (0, 0)) h.c
end
def Sh (w : World) (A : Option Addr) (l : List (Int × Int)) : Prop := ∀ k, k < l.length → ∃ b o, A = some ⟨b, o, none⟩ ∧ w.cell? ⟨b, o + k * 2, none⟩ = some (.int .i64 (l.getD k (0, 0)).1) ∧ w.cell? ⟨b, o + k * 2 + 1, none⟩ = some (.int .i64 (l.getD k (0, 0)).2)
theorem Sh.below {w w' : World} {A : Option Addr} {l : List (Int × Int)} (h : Sh w A l) (hb : Below w.heap.size w w') : Sh w' A l := fun k hk => by
 obtain ⟨b, o, h1, h2, h3⟩ := h k hk
 exact ⟨b, o, h1, cell_below h2 hb, cell_below h3 hb⟩
theorem wL {P Q G need : Int} {cs ks : List Int} {cn kn : Nat} (h : tL P Q G need cs ks = true) (hcn : cs.length = cn) (hkn : ks.length = kn) : Hid (bg P Q G = true) ∧ 1 ≤ kn ∧ kn ≤ 8 ∧ (kn : Int) < Q ∧ 1 ≤ need ∧ need ≤ kn ∧ Hid ((cn : Int) = need) := by
 unfold tL at h
 simp only [Bool.and_eq_true, decide_eq_true_eq] at h
 obtain ⟨n1, n2, n3, n4, n5⟩ := iP h.2.1
 rw [hkn] at n1 n2 n3 n5
 exact ⟨aa h.1, n1, n2, n3, n4, n5, aa (by rw [← hcn]; exact h.2.2.1)⟩
theorem nC {w : World} {p : Addr} {v : Value} {a : Nat} {cs : Array Value} (h : Own w p v) (hne : p.block ≠ a) : Own (w.setRow a cs) p v := by
 have hb := setRow_other w a p.block cs hne
 exact ⟨(World.cell?_of_block hb).trans h.1, by
  have h2 := h.2
  simp only [World.frozen?] at h2 ⊢
  rw [hb]
  exact h2⟩
def uy (l : List Int) : Prop := l.length ≤ 1000 ∧ ∀ x ∈ l, -9223372036854775808 ≤ x ∧ x < 9223372036854775808
theorem uy.fits {l : List Int} (h : uy l) : Hid (fits 7 (.lst (l.map .int))) := aa (by
 refine ⟨by rw [List.length_map]; exact h.1, fun x hx => ?_⟩
 obtain ⟨y, hy, rfl⟩ := List.mem_map.1 hx
 exact h.2 y hy)
theorem J7 (l : List Int) : (fG (l.map .int)).length = 9 * l.length := by
 induction l with
 | nil => rfl
 | cons x l ih => rw [List.map_cons, fG, List.length_append, ih, mK, List.length_cons, fV, List.length_cons]; omega
theorem uy.len {l : List Int} (h : uy l) : Hid ((enc (.lst (l.map .int))).length ≤ 14000) := aa (by
 rw [fA, List.length_cons, List.length_append, dY, J7]
 have := h.1
 omega)
def iJ (h s l : List Int) : List Int := EZ h s (.lst (l.map .int))
theorem N7 (h s l : List Int) : (iJ h s l).length = 32 := oF _ _ _
theorem G9 (h s l : List Int) : aC (iJ h s l) = true := iU _
theorem sV (A : Option Addr) (n cA : Nat) (s : ByteArray) (a e0 : Nat) (x : Int) (hx : (x == 0) = false) (w : World) (hE : Hid (Own w ⟨e0, 0, none⟩ (.int .i64 x))) :
  Calls Tryz.prog 244 #[.string s, .slice A n cA, .pointer (some ⟨e0, 0, none⟩), .pointer (some ⟨a, 0, none⟩)] w fun e w' => (∃ v, e = .returned v) ∧ w' = w := by
 obtain ⟨hc, hf⟩ := hE.out
 go_in
 go_wp2
 go_end0
 exact ⟨⟨_, rfl⟩, rfl⟩
theorem Kh (h : List Int) (hl : Hid (h.length = 32)) (hb : Hid (aC h = true)) (c : Int) (hc0 : 0 ≤ c) (hc1 : c < 1000) (s : ByteArray) (hs : s.size ≤ 1000) (hr : Hid (gU (aX s) = true)) (A : Option Addr) (l : List Int) (n cA : Nat) (hn : Hid (l.length = n)) (hok : Hid (uy l)) (a e0 B : Nat) (w : World) (hv : Hid (bz w)) (hS : Hid (Sl w A l))
  (hT : Hid (dM w a h c)) (hE : Hid (Own w ⟨e0, 0, none⟩ (.int .i64 0))) (hne : e0 ≠ a) (hBa : B ≤ a) (hBe : B ≤ e0) :
  Calls Tryz.prog 244 #[.string s, .slice A n cA, .pointer (some ⟨e0, 0, none⟩), .pointer (some ⟨a, 0, none⟩)] w fun e w' => (∃ v, e = .returned v) ∧ dM w' a (iJ h (aX s) l) (c + 1) ∧ Own w' ⟨e0, 0, none⟩ (.int .i64 0) ∧ Below B w w' := by
 have hbig : n ≤ 1000 := by rw [← hn.out]; exact hok.out.1
 have HF := hok.out.fits
 have ry := hok.out.len
 obtain ⟨hc, hf⟩ := hE.out
 have VH : Hid (B ≤ w.heap.size) := aa (by have := hT.out.lt; omega)
 go_in
 go_wp2_with ((with_reducible show wpList _ _ _ (⟨some 9, _, _, _, _, _⟩ :: _) _ _); refine wpList_load_row rfl 237 _ rfl a rfl _ _ _ _ hT.out Tryz.underlying237 rfl (aP hl.out) ?_)
 refine (KY h hl hb c hc0 hc1 s hs hr A l n cA hn hbig _ hv hS HF ry).mono ?_
 rintro e w1 ⟨rfl, hb1⟩
 have HT1 := aa (hT.out.below hb1)
 have HE1 := aa (hE.out.below hb1)
 have HB1 : Hid (Below B w w1) := aa (hb1.mono VH.out)
 obtain ⟨R, hR⟩ : ∃ R, EZ h (aX s) (.lst (l.map .int)) = R := ⟨_, rfl⟩
 have hRl : R.length = 32 := by rw [← hR]; exact oF _ _ _
 have HN : Kp (iJ h (aX s) l = R) := ⟨hR⟩
 have fI := aa hRl
 rw [hR, show yL R (c + 1) 0 = .tuple #[.agg (dx R (c + 1)), .int .i64 0] from rfl]
 have HE2 := aa (nC (cs := dx R (c + 1)) HE1.out (show (⟨e0, 0, none⟩ : Addr).block ≠ a from hne))
 clear hb1 hc hf hR hRl
 obtain ⟨q1, q2⟩ := HE2.out
 go_wp2_with ((with_reducible show wpList _ _ _ (⟨none, _, _, _, _, _⟩ :: _) _ _); refine wpList_store_row rfl 237 _ _ rfl a (dx R (c + 1)) rfl rfl _ _ HT1.out (aP fI.out) (fJ hl.out fI.out) (dX _ _) ?_)
 have HT2 : Hid (dM (w1.setRow a (dx R (c + 1))) a R (c + 1)) := aa HT1.out.setRow
 have hT3 : dM ((w1.setRow a (dx R (c + 1))).setCell ⟨e0, 0, none⟩ (.int .i64 0)) a R (c + 1) := (heap_setCell_other _ _ _ _ (Ne.symm hne)).trans HT2.out
 have hE3 := bu (u := .int .i64 0) HE2.out
 have hB3 : Below B w ((w1.setRow a (dx R (c + 1))).setCell ⟨e0, 0, none⟩ (.int .i64 0)) := (ai HB1.out hBa).setCell hBe _
 go_end0
 exact ⟨⟨_, rfl⟩, by rw [HN.out]; exact hT3, hE3, hB3⟩
def mH : ByteArray := { data := #[103, 114, 111, 117, 112] }
def Mk : ByteArray := { data := #[121] }
def ow : ByteArray := { data := #[98, 97, 115, 101, 115] }
def eF : ByteArray := { data := #[99, 111, 109, 109, 105, 116] }
def qR : ByteArray := { data := #[99, 104, 97, 108, 108, 101, 110, 103, 101] }
theorem Em : Hid (gU (aX mH) = true) := aa (by kernel_rfl)
theorem WO : Hid (gU (aX Mk) = true) := aa (by kernel_rfl)
theorem En : Hid (gU (aX ow) = true) := aa (by kernel_rfl)
theorem Bi : Hid (gU (aX eF) = true) := aa (by kernel_rfl)
theorem Ro : Hid (gU (aX qR) = true) := aa (by kernel_rfl)
def iA (h : List Int) : List Row → List Int
 | [] => h
 | r :: rs => iA (iJ h (aX ow) r.xs) rs
def zO (P Q G : Int) (lb : List Int) (ys : List Int) (rows : List Row) (al : List Int) : Int :=
 BA Q (iJ (iA (iJ (iJ (newL lb) (aX mH) [P, Q, G]) (aX Mk) ys) rows) (aX eF) al) (aX qR)
theorem xQ {h : List Int} {rows : List Row} {k : Nat} (hk : k < rows.length) : iA h (rows.drop k) = iA (iJ h (aX ow) (rows.getD k di).xs) (rows.drop (k + 1)) := by
 rw [List.drop_eq_getElem_cons hk, List.getD_eq_getElem?_getD, List.getElem?_eq_getElem hk]
 rfl
def tH (h : List Int) : Prop := h.length = 32 ∧ aC h = true
theorem rA (h s l : List Int) : tH (iJ h s l) := ⟨N7 _ _ _, G9 _ _ _⟩
theorem K4 (l : List Int) : tH (newL l) := ⟨dF _ _, iU _⟩
def Ki (W : World) (a : Nat) (h : List Int) (c : Int) (x : Int) (u : World) : Prop := dM u a h c ∧ Own u ⟨a + 1, 0, none⟩ (.int .i64 x) ∧ Below W.heap.size W u
theorem Ki.alloc {W : World} {a : Nat} {h : List Int} {c x : Int} {u : World} (hI : Ki W a h c x u) (o : Obj) : Ki W a h c x (u.alloc o) :=
 ⟨hI.1.below (af _ _), hI.2.1.below (af _ _), ag hI.2.2 (af _ _)⟩
theorem Ki.below {W : World} {a : Nat} {h : List Int} {c x : Int} {u u' : World} (hI : Ki W a h c x u) (hb : Below u.heap.size u u') : Ki W a h c x u' :=
 ⟨hI.1.below hb, hI.2.1.below hb, ag hI.2.2 hb⟩
theorem sU (W : World) (a : Nat) (hWa : W.heap.size ≤ a) (h : List Int) (hst : Hid (tH h)) (c : Int) (hc0 : 0 ≤ c) (hc1 : c < 1000) (s : ByteArray) (hs : s.size ≤ 1000) (hr : Hid (gU (aX s) = true)) (A : Option Addr) (l : List Int) (n cA : Nat) (hn : Hid (l.length = n)) (hok : Hid (uy l)) (u : World) (hv : Hid (bz W)) (hS : Hid (Sl u A l)) (hI : Hid (Ki W a h c 0 u)) :
  Calls Tryz.prog 244 #[.string s, .slice A n cA, .pointer (some ⟨a + 1, 0, none⟩), .pointer (some ⟨a, 0, none⟩)] u fun e u' => (∃ v, e = .returned v) ∧ Ki W a (iJ h (aX s) l) (c + 1) 0 u' := by
 refine (Kh h (aa hst.out.1) (aa hst.out.2) c hc0 hc1 s hs hr A l n cA hn hok a (a + 1) a u (aa (hv.out.below hI.out.2.2)) hS (aa hI.out.1) (aa hI.out.2.1) (by omega) (Nat.le_refl _) (by omega)).mono ?_
 rintro e u' ⟨he, hT, hE, hb⟩
 exact ⟨he, hT, hE, hI.out.2.2.trans (hb.mono hWa)⟩
theorem I1 (w : World) (T : TypeId) (a b c : Int) : Cells (w.alloc (.cells #[.int .i64 a, .int .i64 b, .int .i64 c] T)) w.heap.size [a, b, c] := by
 intro k hk
 rw [World.cell?_alloc_at _ _ _ _ rfl]
 match k, hk with
 | 0, _ => rfl
 | 1, _ => rfl
 | 2, _ => rfl
theorem A7 {w1 : World} {S0 : List Int} {c x : Int} (hl : S0.length = 32) :
  Ki w1 w1.heap.size S0 c x ((((w1.alloc (.cells #[.int .u8 0, .int .u8 0, .int .u8 0, .int .u8 0, .int .u8 0, .int .u8 0, .int .u8 0, .int .u8 0, .int .u8 0, .int .u8 0, .int .u8 0, .int .u8 0, .int .u8 0, .int .u8 0, .int .u8 0, .int .u8 0, .int .u8 0, .int .u8 0, .int .u8 0, .int .u8 0, .int .u8 0, .int .u8 0, .int .u8 0, .int .u8 0, .int .u8 0, .int .u8 0, .int .u8 0, .int .u8 0, .int .u8 0, .int .u8 0, .int .u8 0, .int .u8 0, .int .i64 0] 237)).alloc (.cells #[.int .i64 0] 30)).setRow w1.heap.size (dx S0 c)).setCell ⟨w1.heap.size + 1, 0, none⟩ (.int .i64 x)) := by
 have hT : dM ((w1.alloc (.cells #[.int .u8 0, .int .u8 0, .int .u8 0, .int .u8 0, .int .u8 0, .int .u8 0, .int .u8 0, .int .u8 0, .int .u8 0, .int .u8 0, .int .u8 0, .int .u8 0, .int .u8 0, .int .u8 0, .int .u8 0, .int .u8 0, .int .u8 0, .int .u8 0, .int .u8 0, .int .u8 0, .int .u8 0, .int .u8 0, .int .u8 0, .int .u8 0, .int .u8 0, .int .u8 0, .int .u8 0, .int .u8 0, .int .u8 0, .int .u8 0, .int .u8 0, .int .u8 0, .int .i64 0] 237)).alloc (.cells #[.int .i64 0] 30)) w1.heap.size (dz 32) 0 := by rw [Jf]; exact heap_alloc2_old _ _ _
 have hE : Own ((w1.alloc (.cells #[.int .u8 0, .int .u8 0, .int .u8 0, .int .u8 0, .int .u8 0, .int .u8 0, .int .u8 0, .int .u8 0, .int .u8 0, .int .u8 0, .int .u8 0, .int .u8 0, .int .u8 0, .int .u8 0, .int .u8 0, .int .u8 0, .int .u8 0, .int .u8 0, .int .u8 0, .int .u8 0, .int .u8 0, .int .u8 0, .int .u8 0, .int .u8 0, .int .u8 0, .int .u8 0, .int .u8 0, .int .u8 0, .int .u8 0, .int .u8 0, .int .u8 0, .int .u8 0, .int .i64 0] 237)).alloc (.cells #[.int .i64 0] 30)) ⟨w1.heap.size + 1, 0, none⟩ (.int .i64 0) := ⟨au (heap_alloc2_new _ _ _) 0, av (heap_alloc2_new _ _ _) 0⟩
 have hb : Below w1.heap.size w1 ((w1.alloc (.cells #[.int .u8 0, .int .u8 0, .int .u8 0, .int .u8 0, .int .u8 0, .int .u8 0, .int .u8 0, .int .u8 0, .int .u8 0, .int .u8 0, .int .u8 0, .int .u8 0, .int .u8 0, .int .u8 0, .int .u8 0, .int .u8 0, .int .u8 0, .int .u8 0, .int .u8 0, .int .u8 0, .int .u8 0, .int .u8 0, .int .u8 0, .int .u8 0, .int .u8 0, .int .u8 0, .int .u8 0, .int .u8 0, .int .u8 0, .int .u8 0, .int .u8 0, .int .u8 0, .int .i64 0] 237)).alloc (.cells #[.int .i64 0] 30)) := aJ (Below.refl _ _)
 refine ⟨(heap_setCell_other _ _ _ _ (show w1.heap.size ≠ w1.heap.size + 1 by omega)).trans hT.setRow, bu (nC hE (show w1.heap.size + 1 ≠ w1.heap.size by omega)), (ai hb (Nat.le_refl _)).setCell (Nat.le_succ _) _⟩
theorem Mj (P Q G : Int) (Y : Option Addr) (ys : List Int) (yn yc : Nat) (B : Option Addr) (rows : List Row) (bn bc : Nat) (A : Option Addr) (al : List Int) (na ca : Nat) (s : ByteArray) (hs : s.size ≤ 1000) (hr : Hid (gU (aX s) = true))
  (hyn : Hid (ys.length = yn)) (hbn : Hid (rows.length = bn)) (hna : Hid (al.length = na)) (xu : bn ≤ 900) (L_ : Hid (uy [P, Q, G])) (L8 : Hid (uy ys)) (Ma : Hid (uy al)) (L9 : Hid (∀ k, k < rows.length → uy (rows.getD k di).xs))
  (RD : 2 ≤ Q) (RB : Q < 2305843009213693952) (V : Int) (hV : Kp (zO P Q G (aX s) ys rows al = V)) (w : World) (hv : Hid (bz w)) (hY : Hid (Sl w Y ys)) (hB : Hid (Rw w B rows)) (hA : Hid (Sl w A al)) :
  Calls Tryz.prog 223 #[gv P Q G, .agg #[.slice Y yn yc, .slice B bn bc], .slice A na ca, .string s] w (Rt w (.tuple #[.int .i64 V, .int .i64 0])) := by
 obtain ⟨W, hW⟩ : ∃ W, (w.alloc (bq P Q G)).alloc (.cells #[.slice Y yn yc, .slice B bn bc] 189) = W := ⟨_, rfl⟩
 have bT : Hid (Below w.heap.size w W) := aa (by rw [← hW]; exact aJ (Below.refl _ _))
 have Vw : Hid (oV W w.heap.size P Q G) := aa (by rw [← hW]; exact (a_ w P Q G).below (af _ _))
 have Vg : Hid (qD W (w.heap.size + 1) (.slice Y yn yc) (.slice B bn bc)) := aa (by rw [← hW]; exact dR w _ _ _ _)
 have HV := aa (hv.out.below bT.out)
 have HYY := aa (hY.out.below bT.out)
 have Fx := aa (hB.out.below bT.out)
 have HAA := aa (hA.out.below bT.out)
 have HW := aa hW
 clear hW hv hY hB hA
 go_in
 go_upto_region 1 with (fail)
 rw [HW.out]
 clear HW
 go_wp2_with fail
 refine (OZ s hs hr _ HV).mono ?_
 rintro e w1 ⟨rfl, hb1⟩
 obtain ⟨S0, hS0⟩ : ∃ S, newL (aX s) = S := ⟨_, rfl⟩
 have KI : Hid (tH S0) := aa (by rw [← hS0]; exact K4 _)
 have pQ : Kp (BA Q (iJ (iA (iJ (iJ S0 (aX mH) [P, Q, G]) (aX Mk) ys) rows) (aX eF) al) (aX qR) = V) := ⟨by rw [← hS0]; exact hV.1⟩
 rw [hS0, show yL S0 0 0 = .tuple #[.agg (dx S0 0), .int .i64 0] from rfl]
 have HB1 := aa hb1
 have Fw := aa KI.out.1
 clear hb1 hS0 hV
 have Yn : Hid (dM ((w1.alloc (.cells #[.int .u8 0, .int .u8 0, .int .u8 0, .int .u8 0, .int .u8 0, .int .u8 0, .int .u8 0, .int .u8 0, .int .u8 0, .int .u8 0, .int .u8 0, .int .u8 0, .int .u8 0, .int .u8 0, .int .u8 0, .int .u8 0, .int .u8 0, .int .u8 0, .int .u8 0, .int .u8 0, .int .u8 0, .int .u8 0, .int .u8 0, .int .u8 0, .int .u8 0, .int .u8 0, .int .u8 0, .int .u8 0, .int .u8 0, .int .u8 0, .int .u8 0, .int .u8 0, .int .i64 0] 237)).alloc (.cells #[.int .i64 0] 30)) w1.heap.size (dz 32) 0) := aa (by rw [Jf]; exact heap_alloc2_old _ _ _)
 have Y8 : Hid (Own ((w1.alloc (.cells #[.int .u8 0, .int .u8 0, .int .u8 0, .int .u8 0, .int .u8 0, .int .u8 0, .int .u8 0, .int .u8 0, .int .u8 0, .int .u8 0, .int .u8 0, .int .u8 0, .int .u8 0, .int .u8 0, .int .u8 0, .int .u8 0, .int .u8 0, .int .u8 0, .int .u8 0, .int .u8 0, .int .u8 0, .int .u8 0, .int .u8 0, .int .u8 0, .int .u8 0, .int .u8 0, .int .u8 0, .int .u8 0, .int .u8 0, .int .u8 0, .int .u8 0, .int .u8 0, .int .i64 0] 237)).alloc (.cells #[.int .i64 0] 30)) ⟨w1.heap.size + 1, 0, none⟩ (.int .i64 0)) := aa ⟨au (heap_alloc2_new _ _ _) 0, av (heap_alloc2_new _ _ _) 0⟩
 have Y9 := aa (nC (a := w1.heap.size) (cs := dx S0 0) Y8.out (show w1.heap.size + 1 ≠ w1.heap.size by omega))
 obtain ⟨q1, q2⟩ := Y9.out
 go_upto_region 2 with ((with_reducible show wpList _ _ _ (⟨none, _, _, _, _, _⟩ :: _) _ _); refine wpList_store_row rfl 237 _ _ rfl w1.heap.size (dx S0 0) rfl rfl _ _ Yn.out (aP Fw.out) (fJ (h := dz 32) (c := 0) rfl Fw.out) (dX _ _) ?_)
 clear q1 q2 Yn Y8 Y9
 have hI2 := A7 (w1 := w1) (c := 0) (x := 0) Fw.out
 obtain ⟨W2, hW2⟩ : ∃ u, ((((w1.alloc (.cells #[.int .u8 0, .int .u8 0, .int .u8 0, .int .u8 0, .int .u8 0, .int .u8 0, .int .u8 0, .int .u8 0, .int .u8 0, .int .u8 0, .int .u8 0, .int .u8 0, .int .u8 0, .int .u8 0, .int .u8 0, .int .u8 0, .int .u8 0, .int .u8 0, .int .u8 0, .int .u8 0, .int .u8 0, .int .u8 0, .int .u8 0, .int .u8 0, .int .u8 0, .int .u8 0, .int .u8 0, .int .u8 0, .int .u8 0, .int .u8 0, .int .u8 0, .int .u8 0, .int .i64 0] 237)).alloc (.cells #[.int .i64 0] 30)).setRow w1.heap.size (dx S0 0)).setCell ⟨w1.heap.size + 1, 0, none⟩ (.int .i64 0)) = u := ⟨_, rfl⟩
 rw [hW2] at hI2 ⊢
 obtain ⟨a, ha⟩ : ∃ a, w1.heap.size = a := ⟨_, rfl⟩
 have hWa : W.heap.size ≤ a := by rw [← ha]; exact HB1.out.size
 have M9 : Ki W a S0 0 0 W2 := ⟨by rw [← ha]; exact hI2.1, by rw [← ha]; exact hI2.2.1, ag HB1.out hI2.2.2⟩
 rw [ha]
 have HI2 := aa M9
 clear hW2 hI2 M9 ha HB1
 obtain ⟨c0, c1, c2⟩ := Vw.out.below HI2.out.2.2
 go_wp2_with fail
 refine (sU W a hWa S0 KI 0 (by omega) (by omega) mH (by decide) Em (some ⟨W2.heap.size, 0, none⟩) [P, Q, G] 3 3 (aa rfl) L_ _ HV (aa (iM (I1 W2 _ P Q G))) (aa (HI2.out.alloc _))).mono ?_
 rintro e w3 ⟨⟨v3, rfl⟩, hI3⟩
 clear c0 c1 c2 HI2
 obtain ⟨S1, hS1⟩ : ∃ S, iJ S0 (aX mH) [P, Q, G] = S := ⟨_, rfl⟩
 have ZQ : Hid (tH S1) := aa (by rw [← hS1]; exact rA _ _ _)
 have qF : Kp (BA Q (iJ (iA (iJ S1 (aX Mk) ys) rows) (aX eF) al) (aX qR) = V) := ⟨by rw [← hS1]; exact pQ.1⟩
 rw [hS1] at hI3
 have HI3 := aa hI3
 clear hI3 hS1 pQ
 obtain ⟨d0, d1⟩ := Vg.out.below HI3.out.2.2
 go_wp2_with fail
 refine (sU W a hWa S1 ZQ (0 + 1) (by omega) (by omega) Mk (by decide) WO Y ys yn yc hyn L8 _ HV (aa (HYY.out.below HI3.out.2.2)) HI3).mono ?_
 rintro e w4 ⟨⟨v4, rfl⟩, Qh⟩
 clear d0 d1 HI3
 obtain ⟨S2, hS2⟩ : ∃ S, iJ S1 (aX Mk) ys = S := ⟨_, rfl⟩
 have HS2 : Hid (tH S2) := aa (by rw [← hS2]; exact rA _ _ _)
 have yw : Kp (BA Q (iJ (iA S2 rows) (aX eF) al) (aX qR) = V) := ⟨by rw [← hS2]; exact qF.1⟩
 rw [hS2] at Qh
 have HI4 := aa Qh
 clear Qh hS2 qF
 obtain ⟨S3, Uv⟩ : ∃ S, iA S2 rows = S := ⟨_, rfl⟩
 have HR3 : Kp (iA S2 (rows.drop 0) = S3) := ⟨Uv⟩
 have yu : Kp (BA Q (iJ S3 (aX eF) al) (aX qR) = V) := ⟨by rw [← Uv]; exact yw.1⟩
 clear Uv yw
 obtain ⟨d0, d1⟩ := Vg.out.below HI4.out.2.2
 go_wp2_with fail
 clear d0 d1
 go_loopw [39] (fun i u => ∃ (k : Nat) (S : List Int), k ≤ bn ∧ i = .int .i64 k ∧ Hid (tH S) ∧ Kp (iA S (rows.drop k) = S3) ∧ Hid (Ki W a S (2 + k) 0 u)) (fun i _ => bn - (intOf i).toNat)
 case atStart => exact ⟨0, S2, by omega, rfl, HS2, HR3, HI4⟩
 case round =>
  obtain ⟨k, S, hk, rfl, HS, HR, HI⟩ := hrel
  by_cases hlt : k < bn
  ·
   have hkl : k < rows.length := by rw [hbn.out]; exact hlt
   obtain ⟨⟨b, o, hA, hi0⟩, hok⟩ := Fx.out.below HI.out.2.2 k hkl
   subst hA
   have Hg := Kp.mk ((xQ (h := S) hkl).symm.trans HR.1)
   have lW := aa (L9.out k hkl)
   obtain ⟨R, hR⟩ : ∃ R, rows.getD k di = R := ⟨_, rfl⟩
   rw [hR] at hi0 hok Hg lW
   obtain ⟨p, rn, rc, xs⟩ := R
   have HL := aa hok.1
   have HX := aa hok.2
   dsimp only [Row.val] at hi0 Hg lW
   clear hR hok hkl
   go_wp2_with fail
   refine (sU W a hWa S HS (2 + k) (by omega) (by omega) ow (by decide) En p xs rn rc HL lW _ HV HX HI).mono ?_
   rintro e w5 ⟨⟨v5, rfl⟩, hI5⟩
   obtain ⟨S', hS'⟩ : ∃ S', iJ S (aX ow) xs = S' := ⟨_, rfl⟩
   have VR : Hid (tH S') := aa (by rw [← hS']; exact rA _ _ _)
   have HRR : Kp (iA S' (rows.drop (k + 1)) = S3) := ⟨by rw [← hS']; exact Hg.1⟩
   rw [hS', show (2 + (k : Int) + 1) = 2 + ((k + 1 : Nat) : Int) by omega] at hI5
   have HI5 := aa hI5
   clear hI5 hS' Hg hi0
   go_wp2
   go_roundw
   case rel => exact ⟨k + 1, S', by omega, by go_num, VR, HRR, HI5⟩
   case measure => simp [intOf]; omega
  ·
   obtain rfl : k = bn := by omega
   have hd : rows.drop k = [] := List.drop_of_length_le (by rw [hbn.out]; exact Nat.le_refl _)
   have RV : Kp (S = S3) := ⟨by have h := HR.1; rwa [hd] at h⟩
   have uG : Kp (BA Q (iJ S (aX eF) al) (aX qR) = V) := ⟨by rw [RV.1]; exact yu.1⟩
   clear hd HR RV yu hlt
   go_wp2_with fail
   refine (sU W a hWa S HS (2 + k) (by omega) (by omega) eF (by decide) Bi A al na ca hna Ma _ HV (aa (HAA.out.below HI.out.2.2)) HI).mono ?_
   rintro e w6 ⟨⟨v6, rfl⟩, hI6⟩
   obtain ⟨S4, Qg⟩ : ∃ S', iJ S (aX eF) al = S' := ⟨_, rfl⟩
   have yN : Hid (tH S4) := aa (by rw [← Qg]; exact rA _ _ _)
   have HV5 : Kp (BA Q S4 (aX qR) = V) := ⟨by rw [← Qg]; exact uG.1⟩
   rw [Qg] at hI6
   have Da := aa hI6
   have Vq := aa yN.out.1
   clear hI6 Qg uG HI
   obtain ⟨z0, z1⟩ := Da.out.2.1
   obtain ⟨c0, c1, c2⟩ := Vw.out.below Da.out.2.2
   have AO := aa Da.out.1
   go_wp2_with ((with_reducible show wpList _ _ _ (⟨some 54, _, _, _, _, _⟩ :: _) _ _); refine wpList_load_row rfl 237 _ rfl a rfl _ _ _ _ AO.out Tryz.underlying237 rfl (aP Vq.out) ?_)
   refine (KZ S4 Vq (aa yN.out.2) (2 + k + 1) (by omega) (by omega) qR (by decide) Ro Q RD RB _ (aa (HV.out.below Da.out.2.2))).mono ?_
   rintro e w7 ⟨rfl, Dn⟩
   obtain ⟨G4, hG4⟩ : ∃ G4, RQ Q S4 (aX qR) = G4 := ⟨_, rfl⟩
   have Q5 : Hid (G4.length = 32) := aa (by rw [← hG4]; exact oF _ _ _)
   rw [hG4, HV5.1, show V4 G4 (2 + (k : Int) + 1 + 1) V 0 = .tuple #[.agg (dx G4 (2 + (k : Int) + 1 + 1)), .int .i64 V, .int .i64 0] from rfl]
   have ZX := aa (Da.out.below Dn)
   obtain ⟨y0, y1⟩ := ZX.out.2.1
   clear Dn hG4 z0 z1 c0 c1 c2
   have HTy : Hid (dM (w7.alloc (.cells #[.int .u8 0, .int .u8 0, .int .u8 0, .int .u8 0, .int .u8 0, .int .u8 0, .int .u8 0, .int .u8 0, .int .u8 0, .int .u8 0, .int .u8 0, .int .u8 0, .int .u8 0, .int .u8 0, .int .u8 0, .int .u8 0, .int .u8 0, .int .u8 0, .int .u8 0, .int .u8 0, .int .u8 0, .int .u8 0, .int .u8 0, .int .u8 0, .int .u8 0, .int .u8 0, .int .u8 0, .int .u8 0, .int .u8 0, .int .u8 0, .int .u8 0, .int .u8 0, .int .i64 0] 237)) w7.heap.size (dz 32) 0) := aa (by rw [Jf]; exact heap_alloc_new _ _)
   have HEw := aa (nC (a := w7.heap.size) (cs := dx G4 (2 + (k : Int) + 1 + 1)) (ZX.out.2.1.below (af w7 (.cells #[.int .u8 0, .int .u8 0, .int .u8 0, .int .u8 0, .int .u8 0, .int .u8 0, .int .u8 0, .int .u8 0, .int .u8 0, .int .u8 0, .int .u8 0, .int .u8 0, .int .u8 0, .int .u8 0, .int .u8 0, .int .u8 0, .int .u8 0, .int .u8 0, .int .u8 0, .int .u8 0, .int .u8 0, .int .u8 0, .int .u8 0, .int .u8 0, .int .u8 0, .int .u8 0, .int .u8 0, .int .u8 0, .int .u8 0, .int .u8 0, .int .u8 0, .int .u8 0, .int .i64 0] 237))) (show a + 1 ≠ w7.heap.size by have := ZX.out.1.lt; have := World.block_lt_of_cell? _ _ y0; simp at this; omega))
   obtain ⟨x0, x1⟩ := HEw.out
   go_wp2_with ((with_reducible show wpList _ _ _ (⟨none, _, _, _, _, _⟩ :: _) _ _); refine wpList_store_row rfl 237 _ _ rfl w7.heap.size (dx G4 (2 + (k : Int) + 1 + 1)) rfl rfl _ _ HTy.out (aP Q5.out) (fJ (h := dz 32) (c := 0) rfl Q5.out) (dX _ _) ?_)
   have hZ := bu (u := .int .i64 0) HEw.out
   have ZA : Below w.heap.size w (((w7.alloc (.cells #[.int .u8 0, .int .u8 0, .int .u8 0, .int .u8 0, .int .u8 0, .int .u8 0, .int .u8 0, .int .u8 0, .int .u8 0, .int .u8 0, .int .u8 0, .int .u8 0, .int .u8 0, .int .u8 0, .int .u8 0, .int .u8 0, .int .u8 0, .int .u8 0, .int .u8 0, .int .u8 0, .int .u8 0, .int .u8 0, .int .u8 0, .int .u8 0, .int .u8 0, .int .u8 0, .int .u8 0, .int .u8 0, .int .u8 0, .int .u8 0, .int .u8 0, .int .u8 0, .int .i64 0] 237)).setRow w7.heap.size (dx G4 (2 + (k : Int) + 1 + 1))).setCell ⟨a + 1, 0, none⟩ (.int .i64 0)) := by
    have h1 := ag ZX.out.2.2 (ai (cs := dx G4 (2 + (k : Int) + 1 + 1)) (af w7 (.cells #[.int .u8 0, .int .u8 0, .int .u8 0, .int .u8 0, .int .u8 0, .int .u8 0, .int .u8 0, .int .u8 0, .int .u8 0, .int .u8 0, .int .u8 0, .int .u8 0, .int .u8 0, .int .u8 0, .int .u8 0, .int .u8 0, .int .u8 0, .int .u8 0, .int .u8 0, .int .u8 0, .int .u8 0, .int .u8 0, .int .u8 0, .int .u8 0, .int .u8 0, .int .u8 0, .int .u8 0, .int .u8 0, .int .u8 0, .int .u8 0, .int .u8 0, .int .u8 0, .int .i64 0] 237)) (Nat.le_refl _))
    exact ag bT.out (h1.setCell (by show W.heap.size ≤ a + 1; omega) _)
   have fM := aa ZA
   have hz0 := hZ.1
   obtain ⟨W8, Rz⟩ : ∃ u, (((w7.alloc (.cells #[.int .u8 0, .int .u8 0, .int .u8 0, .int .u8 0, .int .u8 0, .int .u8 0, .int .u8 0, .int .u8 0, .int .u8 0, .int .u8 0, .int .u8 0, .int .u8 0, .int .u8 0, .int .u8 0, .int .u8 0, .int .u8 0, .int .u8 0, .int .u8 0, .int .u8 0, .int .u8 0, .int .u8 0, .int .u8 0, .int .u8 0, .int .u8 0, .int .u8 0, .int .u8 0, .int .u8 0, .int .u8 0, .int .u8 0, .int .u8 0, .int .u8 0, .int .u8 0, .int .i64 0] 237)).setRow w7.heap.size (dx G4 (2 + (k : Int) + 1 + 1))).setCell ⟨a + 1, 0, none⟩ (.int .i64 0)) = u := ⟨_, rfl⟩
   rw [Rz] at hz0 fM ⊢
   clear hZ ZA Rz x0 x1 HEw HTy y0 y1
   go_region
   go_wp2
   go_ret2
   exact ⟨rfl, aG fM.out _⟩
theorem JV (P Q G : Int) (Y : Option Addr) (ys : List Int) (yn yc : Nat) (B : Option Addr) (rows : List Row) (bn bc : Nat) (A : Option Addr) (al : List Int) (na ca : Nat) (s : ByteArray) (hs : s.size ≤ 1000) (hr : Hid (gU (aX s) = false))
  (hbn : Hid (rows.length = bn)) (xu : bn ≤ 900) (w : World) (hB : Hid (Rw w B rows)) :
  Calls Tryz.prog 223 #[gv P Q G, .agg #[.slice Y yn yc, .slice B bn bc], .slice A na ca, .string s] w (Rt w (.tuple #[.int .i64 0, .int .i64 1])) := by
 obtain ⟨W, hW⟩ : ∃ W, (w.alloc (bq P Q G)).alloc (.cells #[.slice Y yn yc, .slice B bn bc] 189) = W := ⟨_, rfl⟩
 have bT : Hid (Below w.heap.size w W) := aa (by rw [← hW]; exact aJ (Below.refl _ _))
 have Vw : Hid (oV W w.heap.size P Q G) := aa (by rw [← hW]; exact (a_ w P Q G).below (af _ _))
 have Vg : Hid (qD W (w.heap.size + 1) (.slice Y yn yc) (.slice B bn bc)) := aa (by rw [← hW]; exact dR w _ _ _ _)
 have Fx := aa (hB.out.below bT.out)
 have HW := aa hW
 clear hW hB
 go_in
 go_upto_region 1 with (fail)
 rw [HW.out]
 clear HW
 go_wp2_with fail
 refine (KX s hs hr _).mono ?_
 rintro e w1 ⟨rfl, hb1⟩
 obtain ⟨S0, hS0⟩ : ∃ S, dz 32 = S := ⟨_, rfl⟩
 have Fw : Hid (S0.length = 32) := aa (by rw [← hS0]; rfl)
 rw [hS0, show yL S0 0 1 = .tuple #[.agg (dx S0 0), .int .i64 1] from rfl]
 have HB1 := aa hb1
 clear hb1 hS0
 have Yn : Hid (dM ((w1.alloc (.cells #[.int .u8 0, .int .u8 0, .int .u8 0, .int .u8 0, .int .u8 0, .int .u8 0, .int .u8 0, .int .u8 0, .int .u8 0, .int .u8 0, .int .u8 0, .int .u8 0, .int .u8 0, .int .u8 0, .int .u8 0, .int .u8 0, .int .u8 0, .int .u8 0, .int .u8 0, .int .u8 0, .int .u8 0, .int .u8 0, .int .u8 0, .int .u8 0, .int .u8 0, .int .u8 0, .int .u8 0, .int .u8 0, .int .u8 0, .int .u8 0, .int .u8 0, .int .u8 0, .int .i64 0] 237)).alloc (.cells #[.int .i64 0] 30)) w1.heap.size (dz 32) 0) := aa (by rw [Jf]; exact heap_alloc2_old _ _ _)
 have Y8 : Hid (Own ((w1.alloc (.cells #[.int .u8 0, .int .u8 0, .int .u8 0, .int .u8 0, .int .u8 0, .int .u8 0, .int .u8 0, .int .u8 0, .int .u8 0, .int .u8 0, .int .u8 0, .int .u8 0, .int .u8 0, .int .u8 0, .int .u8 0, .int .u8 0, .int .u8 0, .int .u8 0, .int .u8 0, .int .u8 0, .int .u8 0, .int .u8 0, .int .u8 0, .int .u8 0, .int .u8 0, .int .u8 0, .int .u8 0, .int .u8 0, .int .u8 0, .int .u8 0, .int .u8 0, .int .u8 0, .int .i64 0] 237)).alloc (.cells #[.int .i64 0] 30)) ⟨w1.heap.size + 1, 0, none⟩ (.int .i64 0)) := aa ⟨au (heap_alloc2_new _ _ _) 0, av (heap_alloc2_new _ _ _) 0⟩
 have Y9 := aa (nC (a := w1.heap.size) (cs := dx S0 0) Y8.out (show w1.heap.size + 1 ≠ w1.heap.size by omega))
 obtain ⟨q1, q2⟩ := Y9.out
 go_upto_region 2 with ((with_reducible show wpList _ _ _ (⟨none, _, _, _, _, _⟩ :: _) _ _); refine wpList_store_row rfl 237 _ _ rfl w1.heap.size (dx S0 0) rfl rfl _ _ Yn.out (aP Fw.out) (fJ (h := dz 32) (c := 0) rfl Fw.out) (dX _ _) ?_)
 clear q1 q2 Yn Y8 Y9
 have hI2 := A7 (w1 := w1) (c := 0) (x := 1) Fw.out
 obtain ⟨W2, hW2⟩ : ∃ u, ((((w1.alloc (.cells #[.int .u8 0, .int .u8 0, .int .u8 0, .int .u8 0, .int .u8 0, .int .u8 0, .int .u8 0, .int .u8 0, .int .u8 0, .int .u8 0, .int .u8 0, .int .u8 0, .int .u8 0, .int .u8 0, .int .u8 0, .int .u8 0, .int .u8 0, .int .u8 0, .int .u8 0, .int .u8 0, .int .u8 0, .int .u8 0, .int .u8 0, .int .u8 0, .int .u8 0, .int .u8 0, .int .u8 0, .int .u8 0, .int .u8 0, .int .u8 0, .int .u8 0, .int .u8 0, .int .i64 0] 237)).alloc (.cells #[.int .i64 0] 30)).setRow w1.heap.size (dx S0 0)).setCell ⟨w1.heap.size + 1, 0, none⟩ (.int .i64 1)) = u := ⟨_, rfl⟩
 rw [hW2] at hI2 ⊢
 obtain ⟨a, ha⟩ : ∃ a, w1.heap.size = a := ⟨_, rfl⟩
 have M9 : Ki W a S0 0 1 W2 := ⟨by rw [← ha]; exact hI2.1, by rw [← ha]; exact hI2.2.1, ag HB1.out hI2.2.2⟩
 rw [ha]
 have HI2 := aa M9
 clear hW2 hI2 M9 ha HB1
 obtain ⟨c0, c1, c2⟩ := Vw.out.below HI2.out.2.2
 go_wp2_with fail
 refine (sV (some ⟨W2.heap.size, 0, none⟩) 3 3 mH a (a + 1) 1 rfl _ (aa (HI2.out.alloc _).2.1)).mono ?_
 rintro e w3 ⟨⟨v3, rfl⟩, rfl⟩
 have HI3 := aa (HI2.out.alloc (.cells #[.int .i64 P, .int .i64 Q, .int .i64 G] 3))
 obtain ⟨W3, hW3⟩ : ∃ u, W2.alloc (.cells #[.int .i64 P, .int .i64 Q, .int .i64 G] 3) = u := ⟨_, rfl⟩
 rw [hW3] at HI3 ⊢
 clear c0 c1 c2 HI2 hW3
 obtain ⟨d0, d1⟩ := Vg.out.below HI3.out.2.2
 go_wp2_with fail
 refine (sV Y yn yc Mk a (a + 1) 1 rfl _ (aa HI3.out.2.1)).mono ?_
 rintro e w4 ⟨⟨v4, rfl⟩, rfl⟩
 go_wp2_with fail
 clear d0 d1
 go_loopw [39] (fun i u => ∃ (k : Nat), k ≤ bn ∧ i = .int .i64 k ∧ Hid (Ki W a S0 0 1 u)) (fun i _ => bn - (intOf i).toNat)
 case atStart => exact ⟨0, by omega, rfl, HI3⟩
 case round =>
  obtain ⟨k, hk, rfl, HI⟩ := hrel
  by_cases hlt : k < bn
  ·
   have hkl : k < rows.length := by rw [hbn.out]; exact hlt
   obtain ⟨⟨b, o, hA, hi0⟩, hok⟩ := Fx.out.below HI.out.2.2 k hkl
   subst hA
   obtain ⟨R, hR⟩ : ∃ R, rows.getD k di = R := ⟨_, rfl⟩
   rw [hR] at hi0 hok
   obtain ⟨p, rn, rc, xs⟩ := R
   dsimp only [Row.val] at hi0
   clear hR hok hkl
   go_wp2_with fail
   refine (sV p rn rc ow a (a + 1) 1 rfl _ (aa HI.out.2.1)).mono ?_
   rintro e w5 ⟨⟨v5, rfl⟩, rfl⟩
   clear hi0
   go_wp2
   go_roundw
   case rel => exact ⟨k + 1, by omega, by go_num, HI⟩
   case measure => simp [intOf]; omega
  ·
   go_wp2_with fail
   refine (sV A na ca eF a (a + 1) 1 rfl _ (aa HI.out.2.1)).mono ?_
   rintro e w6 ⟨⟨v6, rfl⟩, rfl⟩
   obtain ⟨z0, z1⟩ := HI.out.2.1
   have fM := aa (ag bT.out HI.out.2.2)
   go_wp2
   go_region
   go_wp2
   go_ret2
   exact ⟨rfl, aG fM.out _⟩
theorem O5 {Q x : Int} (h : x < 0) : jV Q x = false := by simp [jV]; omega
theorem O6 {Q x : Int} (h : Q ≤ x) : jV Q x = false := by simp [jV]; omega
theorem SB {Q x : Int} (h0 : ¬ x < 0) (h1 : ¬ Q ≤ x) : jV Q x = true := by simp [jV]; omega
theorem NW {f : Int → Bool} {xs : List Int} {k : Nat} (hk : k < xs.length) (h : f (xs.getD k 0) = true) : (xs.drop k).all f = (xs.drop (k + 1)).all f := by
 rw [List.drop_eq_getElem_cons hk, List.all_cons]
 rw [List.getD_eq_getElem?_getD, List.getElem?_eq_getElem hk] at h
 simp at h
 rw [h, Bool.true_and]
theorem I6 {f : Int → Bool} {xs : List Int} {k : Nat} (hk : k < xs.length) (h : f (xs.getD k 0) = false) : (xs.drop k).all f = false := by
 rw [List.drop_eq_getElem_cons hk, List.all_cons]
 rw [List.getD_eq_getElem?_getD, List.getElem?_eq_getElem hk] at h
 simp at h
 rw [h, Bool.false_and]
theorem jH (P Q G : Int) (A : Option Addr) (xs : List Int) (n c : Nat) (r : Bool) (hr : Hid (xs.all (jV Q) = r)) (hn : Hid (xs.length = n)) (hbig : n < 1000000) (w : World) (hs : Hid (Sl w A xs)) :
  Calls Tryz.prog 227 #[gv P Q G, .slice A n c] w (Rt w (.bool r)) := by
 have bT := aa (af w (bq P Q G))
 have HX0 := aa (a_ w P Q G)
 have KI := aa (hs.out.below bT.out)
 obtain ⟨W, hW⟩ : ∃ W, w.alloc (bq P Q G) = W := ⟨_, rfl⟩
 rw [hW] at HX0 KI bT
 have HW := aa hW
 clear hW hs
 go_in
 go_wp2
 rw [HW.out]
 go_loopw [5] (fun i wr => ∃ k : Nat, k ≤ n ∧ i = .int .i64 k ∧ Hid ((xs.drop k).all (jV Q) = r) ∧ Hid (Below W.heap.size W wr)) (fun i _ => n - (intOf i).toNat)
 case atStart => exact ⟨0, by omega, rfl, aa (by rw [List.drop_zero]; exact hr.out), aa (Below.refl _ _)⟩
 case round =>
  obtain ⟨k, hk, rfl, HR, aF⟩ := hrel
  by_cases hlt : k < n
  ·
   have hkl : k < xs.length := by rw [hn.out]; exact hlt
   obtain ⟨b, o, hA, hi⟩ := KI.out.below aF.out k hkl
   subst hA
   obtain ⟨c0, c1, c2⟩ := HX0.out.below aF.out
   by_cases h0 : xs.getD k 0 < 0
   ·
    have hf : jV Q (xs.getD k 0) = false := O5 h0
    obtain rfl : r = false := HR.out.symm.trans (I6 hkl hf)
    obtain ⟨x, hx⟩ : ∃ x, xs.getD k 0 = x := ⟨_, rfl⟩
    rw [hx] at hi h0
    have d0 : decide (x < 0) = true := by simp; omega
    have bV := fun q => aG (ag bT.out aF.out) q
    clear hx hf hkl HR
    go_wp2
    go_quiet (fail)
    go_wp2
    go_ret
    exact ⟨rfl, bV _⟩
   ·
    by_cases h1 : Q ≤ xs.getD k 0
    ·
     have hf : jV Q (xs.getD k 0) = false := O6 h1
     obtain rfl : r = false := HR.out.symm.trans (I6 hkl hf)
     obtain ⟨x, hx⟩ : ∃ x, xs.getD k 0 = x := ⟨_, rfl⟩
     rw [hx] at hi h0 h1
     have d0 : decide (x < 0) = false := by simp; omega
     have d1 : decide (Q ≤ x) = true := by simp; omega
     have bV := fun q => aG (ag bT.out aF.out) q
     clear hx hf hkl HR
     go_wp2
     go_quiet (fail)
     go_wp2
     go_ret
     exact ⟨rfl, bV _⟩
    ·
     have hf : jV Q (xs.getD k 0) = true := SB h0 h1
     have HR2 : Hid ((xs.drop (k + 1)).all (jV Q) = r) := aa ((NW hkl hf).symm.trans HR.out)
     obtain ⟨x, hx⟩ : ∃ x, xs.getD k 0 = x := ⟨_, rfl⟩
     rw [hx] at hi h0 h1
     have d0 : decide (x < 0) = false := by simp; omega
     have d1 : decide (Q ≤ x) = false := by simp; omega
     have HB2 := aa (fun q => aG aF.out q)
     clear hx hf hkl HR
     go_wp2
     go_quiet (fail)
     go_wp2
     go_roundw
     case rel => exact ⟨k + 1, by omega, by go_num, HR2, aa (HB2.out _)⟩
     case measure => simp [intOf]; omega
  ·
   obtain rfl : k = n := by omega
   obtain rfl : r = true := by rw [← HR.out, ← hn.out, List.drop_length]; rfl
   have bV := ag bT.out aF.out
   clear HR hlt
   go_wp2
   go_ret
   exact ⟨rfl, bV⟩
theorem BU (P Q G : Int) (A : Option Addr) (xs : List Int) (n c : Nat) (E : Option Addr) (es : List Int) (m d : Nat) (V : Int) (hV : Hid (dH P 1 xs es = V)) (hn : Hid (xs.length = n)) (hm : Hid (es.length = m)) (hnm : n ≤ m) (hbig : m < 1000000)
  (hx : Hid (xs.all (aW P Q) = true)) (he : Hid (es.all (jV Q) = true)) (hp2 : 2 ≤ P) (hp : P < 2305843009213693952) (hQ : Q < 9223372036854775808) (w : World) (hA : Hid (Sl w A xs)) (hE : Hid (Sl w E es)) :
  Calls Tryz.prog 228 #[gv P Q G, .slice A n c, .slice E m d] w (Rt w (.int .i64 V)) := by
 have bT := aa (af w (bq P Q G))
 have HX0 := aa (a_ w P Q G)
 have yR := aa (hA.out.below bT.out)
 have R6 := aa (hE.out.below bT.out)
 obtain ⟨W, hW⟩ : ∃ W, w.alloc (bq P Q G) = W := ⟨_, rfl⟩
 rw [hW] at HX0 yR R6 bT
 have HW := aa hW
 clear hW hA hE
 go_in
 go_wp2
 rw [HW.out]
 go_loopw [7, 8] (fun y i wr => ∃ (k : Nat) (acc : Int), k ≤ n ∧ y = .int .i64 acc ∧ i = .int .i64 k ∧ 0 ≤ acc ∧ acc < P ∧ Hid (dH P acc (xs.drop k) (es.drop k) = V) ∧ Hid (Below W.heap.size W wr)) (fun _ i _ => n - (intOf i).toNat)
 case atStart => exact ⟨0, 1, by omega, rfl, rfl, by omega, by omega, xL hV, aa (Below.refl _ _)⟩
 case round =>
  obtain ⟨k, acc, hk, rfl, rfl, a0, a1, HJ, aF⟩ := hrel
  by_cases hlt : k < n
  ·
   have hkl : k < xs.length := by rw [hn.out]; exact hlt
   have hkm : k < m := by omega
   have hke : k < es.length := by rw [hm.out]; exact hkm
   obtain ⟨b, o, hA, hi0⟩ := yR.out.below aF.out k hkl
   obtain ⟨b2, o2, hE, hi1⟩ := R6.out.below aF.out k hke
   subst hA
   subst hE
   obtain ⟨c0, c1, c2⟩ := HX0.out.below aF.out
   have hm1 := kU hx.out hkl
   have hm2 := kU he.out hke
   have hst := zm (P := P) (acc := acc) hkl hke
   obtain ⟨x, Xb⟩ : ∃ x, xs.getD k 0 = x := ⟨_, rfl⟩
   obtain ⟨ex, hee⟩ : ∃ x, es.getD k 0 = x := ⟨_, rfl⟩
   rw [Xb] at hi0 hm1 hst
   rw [hee] at hi1 hm2 hst
   have x0 := iY hm1
   have x1 := iZ hm1
   have e0 := BR hm2
   have e1 := FN hm2
   obtain ⟨p, hp1⟩ : ∃ p, pw x ex P = p := ⟨_, rfl⟩
   obtain ⟨p0, p1⟩ : 0 ≤ p ∧ p < P := by rw [← hp1]; exact zl _ _ _ (by omega)
   rw [hp1] at hst
   obtain ⟨zQ, hac⟩ : ∃ a, acc * p % P = a := ⟨_, rfl⟩
   rw [hac] at hst
   have q0 : 0 ≤ zQ := by rw [← hac]; exact Int.emod_nonneg _ (by omega)
   have q1 : zQ < P := by rw [← hac]; exact Int.emod_lt_of_pos _ (by omega)
   have HJ2 : Hid (dH P zQ (xs.drop (k + 1)) (es.drop (k + 1)) = V) := aa (hst.symm.trans HJ.out)
   have Vi := aa hp1
   have Zk := aa hac
   have HB2 := aa (fun q => aG aF.out q)
   clear hm1 hm2 hst Xb hee hp1 hac hkl hke HJ
   go_wp2
   go_quiet ((first | (go_at_call 57; exact qh (lK x ex P p Vi (by omega) hp (by omega) x1 e0 (by omega) _)) | (go_at_call 45; exact qh (jk acc p P zQ Zk hp a0 a1 p0 p1 _))))
   go_wp2
   go_roundw
   case rel => exact ⟨k + 1, zQ, by omega, rfl, by go_num, q0, q1, HJ2, aa (HB2.out _)⟩
   case measure => simp [intOf]; omega
  ·
   obtain rfl : k = n := by omega
   obtain rfl := Bd hn.out HJ
   have bV := ag bT.out aF.out
   clear HJ hlt
   go_wp2
   go_ret
   exact ⟨rfl, bV⟩
theorem Kg {f : Row → Bool} {xs : List Row} {k : Nat} (hk : k < xs.length) : (xs.drop k).all f = (f (xs.getD k di) && (xs.drop (k + 1)).all f) := by
 rw [List.drop_eq_getElem_cons hk, List.all_cons, List.getD_eq_getElem?_getD, List.getElem?_eq_getElem hk]
 rfl
theorem BF {f : Int → Bool} {xs : List Int} {k : Nat} (hk : k < xs.length) : (xs.drop k).all f = (f (xs.getD k 0) && (xs.drop (k + 1)).all f) := by
 rw [List.drop_eq_getElem_cons hk, List.all_cons, List.getD_eq_getElem?_getD, List.getElem?_eq_getElem hk]
 rfl
def leftV (P Q : Int) (n : Nat) (ys : List Int) (rows : List Row) (k : Nat) : Bool := (ys.drop k).all (aW P Q) && (rows.drop k).all (nA P Q n)
theorem Gd {P Q : Int} {n : Nat} {ys : List Int} {rows : List Row} {k : Nat} (hk : k < ys.length) (hr : k < rows.length) :
  leftV P Q n ys rows k = (aW P Q (ys.getD k 0) && (nA P Q n (rows.getD k di) && leftV P Q n ys rows (k + 1))) := by
 rw [leftV, BF hk, Kg hr, leftV]
 cases aW P Q (ys.getD k 0) <;> cases nA P Q n (rows.getD k di) <;> simp
theorem Lc (P Q G : Int) (Y : Option Addr) (ys : List Int) (yn yc : Nat) (B : Option Addr) (rows : List Row) (bc n0 : Nat) (r : Bool) (HG : Hid (bg P Q G = true)) (hr : Hid (leftV P Q n0 ys rows 0 = r)) (hn : Hid (gD rows = n0)) (hyn : Hid (ys.length = yn)) (hbn : Hid (rows.length = yn))
  (h1 : 1 ≤ yn) (h2 : yn ≤ 8) (h3 : 1 ≤ n0) (h4 : n0 ≤ 12) (hQ : Q < 9223372036854775808) (w : World) (hY : Hid (Sl w Y ys)) (hB : Hid (Rw w B rows)) :
  Calls Tryz.prog 225 #[gv P Q G, ig Y yn yc B yn bc] w (Rt w (.bool r)) := by
 obtain ⟨hp2, hp, hq3, Cv⟩ := b_ HG.out
 obtain ⟨b, o, rfl⟩ := hB.out.some (by rw [hbn.out]; omega)
 obtain ⟨b1, o1, rfl, _⟩ := hY.out 0 (by rw [hyn.out]; omega)
 obtain ⟨w0, hW⟩ : ∃ W, (w.alloc (bq P Q G)).alloc (jI (some ⟨b1, o1, none⟩) yn yc (some ⟨b, o, none⟩) yn bc) = W := ⟨_, rfl⟩
 have aj : Hid (Below w.heap.size w w0) := aa (by rw [← hW]; exact aJ (Below.refl _ _))
 have HX0 : Hid (oV w0 w.heap.size P Q G) := aa (by rw [← hW]; exact (a_ w P Q G).below (af _ _))
 have eG : Hid (qD w0 (w.heap.size + 1) (.slice (some ⟨b1, o1, none⟩) yn yc) (.slice (some ⟨b, o, none⟩) yn bc)) := aa (by rw [← hW]; exact dR _ _ _ _ _)
 have yt := aa (hY.out.below aj.out)
 have yR := aa (hB.out.below aj.out)
 have HW := aa hW
 have d1 : decide ((yn : Int) < 1) = false := by simp; omega
 have d2 : decide ((8 : Int) < (yn : Int)) = false := by simp; omega
 have d3 : decide ((n0 : Int) < 1) = false := by simp; omega
 have d4 : decide ((12 : Int) < (n0 : Int)) = false := by simp; omega
 clear hW hY hB
 go_in
 go_wp2_with fail
 rw [HW.out]
 refine (bW P Q G true HG hQ _).mono ?_
 rintro e w1 ⟨rfl, hb0⟩
 have hb1 := ag aj.out hb0
 have ru := aa (HX0.out.below hb0)
 have HR1 := aa (eG.out.below hb0)
 have yo := aa (yt.out.below hb0)
 have HA1 := aa (yR.out.below hb0)
 clear hb0
 obtain ⟨d5, d6⟩ := HR1.out
 obtain ⟨c0, c1, c2⟩ := ru.out
 go_wp2_with fail
 refine (gq (some ⟨b1, o1, none⟩) yn yc (some ⟨b, o, none⟩) rows yn bc n0 hbn (by omega) hn _ HA1).mono ?_
 rintro e W ⟨rfl, hb0⟩
 have vZ := aa (ag hb1 hb0)
 have QK := aa (ru.out.below hb0)
 have HRW := aa (HR1.out.below hb0)
 have HYW := aa (yo.out.below hb0)
 have HAW := aa (HA1.out.below hb0)
 clear hb0 d5 d6 c0 c1 c2
 go_wp2
 go_loopw [6] (fun i wr => ∃ k : Nat, k ≤ yn ∧ i = .int .i64 k ∧ Hid (leftV P Q n0 ys rows k = r) ∧ Hid (Below W.heap.size W wr)) (fun i _ => yn - (intOf i).toNat)
 case atStart => exact ⟨0, by omega, rfl, hr, aa (Below.refl _ _)⟩
 case round =>
  obtain ⟨k, hk, rfl, RU, aF⟩ := hrel
  obtain ⟨wo, rfl⟩ : ∃ wo : World, wo = wr := ⟨_, rfl⟩
  obtain ⟨d5, d6⟩ := HRW.out.below aF.out
  by_cases hlt : k < yn
  ·
   have hkl : k < ys.length := by rw [hyn.out]; exact hlt
   have hkr : k < rows.length := by rw [hbn.out]; exact hlt
   obtain ⟨bb, oo, e1, hi0⟩ := HYW.out k hkl
   cases e1
   have hrow := HAW.out.at hkr
   have hok := (HAW.out k hkr).2
   have hst := Gd (P := P) (Q := Q) (n := n0) hkl hkr
   rw [RU.out] at hst
   obtain ⟨y, hy⟩ : ∃ x, ys.getD k 0 = x := ⟨_, rfl⟩
   obtain ⟨R, hR⟩ : ∃ R, rows.getD k di = R := ⟨_, rfl⟩
   rw [hy] at hi0 hst
   rw [hR] at hrow hok hst
   obtain ⟨p, rn, rc, xs⟩ := R
   dsimp only [Row.val] at hrow
   have HI0 := aa hi0
   have HI1 := aa hrow
   have HL := aa hok.1
   have HS := aa hok.2
   have hS := aa (show ∀ u1 : World, Below W.heap.size W u1 → (u1.cell? ⟨w.heap.size, 0, none⟩ = some (.int .i64 P) ∧ u1.cell? ⟨w.heap.size, 1, none⟩ = some (.int .i64 Q) ∧ u1.cell? ⟨w.heap.size, 2, none⟩ = some (.int .i64 G) ∧ u1.cell? ⟨w.heap.size + 1, 0, none⟩ = some (.slice (some ⟨b1, o1, none⟩) yn yc) ∧ u1.cell? ⟨w.heap.size + 1, 1, none⟩ = some (.slice (some ⟨b, o, none⟩) yn bc) ∧ u1.cell? ⟨b1, o1 + k, none⟩ = some (.int .i64 y) ∧ u1.cell? ⟨b, o + k, none⟩ = some (.slice p rn rc) ∧ Hid (Below W.heap.size W u1)) from fun u1 h1 => ⟨(QK.out.below h1).1, (QK.out.below h1).2.1, (QK.out.below h1).2.2, (HRW.out.below h1).1, (HRW.out.below h1).2, cell_below HI0.out h1, cell_below HI1.out h1, aa h1⟩)
   clear hi0 hrow hok hy hR hkl hkr
   cases Gp : aW P Q y with
   | false =>
    rw [Gp, Bool.false_and] at hst
    obtain rfl : r = false := hst
    have HM := aa Gp
    clear Gp RU
    go_wp2
    refine wp_region_held_drew (S := fun w' => w'.cell? ⟨w.heap.size, 0, none⟩ = some (.int .i64 P) ∧ w'.cell? ⟨w.heap.size, 1, none⟩ = some (.int .i64 Q) ∧ w'.cell? ⟨w.heap.size, 2, none⟩ = some (.int .i64 G) ∧ w'.cell? ⟨w.heap.size + 1, 0, none⟩ = some (.slice (some ⟨b1, o1, none⟩) yn yc) ∧ w'.cell? ⟨w.heap.size + 1, 1, none⟩ = some (.slice (some ⟨b, o, none⟩) yn bc) ∧ w'.cell? ⟨b1, o1 + k, none⟩ = some (.int .i64 y) ∧ w'.cell? ⟨b, o + k, none⟩ = some (.slice p rn rc) ∧ Hid (Below W.heap.size W w')) (by kernel_rfl) (hS.out _ aF.out.drew) (fun hHeld => ?_)
    refine wpAnyH_take (i := 0) (oi := _) (v := ?_) rfl (by kernel_rfl) (by kernel_rfl) (by kernel_rfl) (fun _ _ _ h => h) (Or.inl ⟨by rfl, ?_⟩) (by assumption) ?_
    rotate_left; (intro wS hSw; (try dsimp only at hSw); go_simp <;> with_reducible rfl)
    try simp only [qq]
    refine wpAnyH_take (i := 1) (oi := _) (v := ?_) rfl (by kernel_rfl) (by kernel_rfl) (by kernel_rfl) (fun _ _ _ h => h) (Or.inl ⟨by rfl, ?_⟩) (by assumption) ?_
    rotate_left; (intro wS hSw; (try dsimp only at hSw); go_simp <;> with_reducible rfl)
    try simp only [qq]
    refine wpAnyH_take (i := 2) (oi := _) (v := ?_) rfl (by kernel_rfl) (by kernel_rfl) (by kernel_rfl) (fun _ _ _ h => h) (Or.inl ⟨by rfl, ?_⟩) (by assumption) ?_
    rotate_left; (intro wS hSw; (try dsimp only at hSw); go_simp <;> with_reducible rfl)
    try simp only [qq]
    refine wpAnyH_take (i := 3) (oi := _) (v := ?_) rfl (by kernel_rfl) (by kernel_rfl) (by kernel_rfl) (fun _ _ _ h => h) (Or.inl ⟨by rfl, ?_⟩) (by assumption) ?_
    rotate_left; (intro wS hSw; (try dsimp only at hSw); go_simp <;> with_reducible rfl)
    try simp only [qq]
    refine wpAnyH_take (i := 4) (oi := _) (v := ?_) rfl (by kernel_rfl) (by kernel_rfl) (by kernel_rfl) (fun _ _ _ h => h) (Or.inl ⟨by rfl, ?_⟩) (by assumption) ?_
    rotate_left; (intro wS hSw; (try dsimp only at hSw); go_simp <;> with_reducible rfl)
    try simp only [qq]
    refine wpAnyH_take (i := 5) (oi := _) (v := ?_) rfl (by kernel_rfl) (by kernel_rfl) (by kernel_rfl) (fun _ _ _ h => h) (Or.inl ⟨by rfl, ?_⟩) (by assumption) ?_
    rotate_left; (intro wS hSw; (try dsimp only at hSw); go_simp <;> with_reducible rfl)
    try simp only [qq]
    refine wpAnyH_ready (rs := [6]) (by kernel_rfl) (by simp) ?_
    refine AllReadyH.cons rfl (fun K hK => ?_) AllReadyH.nil
    go_simp
    (with_reducible refine (bD P Q G y false HM hp (by omega) hQ _).mono ?_); rintro e wA ⟨rfl, bS⟩
    refine hK.out _ _ ?_ (fun hHeld => ?_)
    · (go_split_ands; exact hS.out _ (aF.out.drew.trans (bS.mono aF.out.size)))
    clear hK K
    try simp only [qq]
    refine wpAnyH_take (i := 7) (oi := _) (v := ?_) rfl (by kernel_rfl) (by kernel_rfl) (by kernel_rfl) (fun _ _ _ h => h) (Or.inl ⟨by rfl, ?_⟩) (by assumption) ?_
    rotate_left; (intro wS hSw; (try dsimp only at hSw); go_simp <;> with_reducible rfl)
    try simp only [qq]
    refine wpAnyH_take (i := 8) (oi := _) (v := ?_) rfl (by kernel_rfl) (by kernel_rfl) (by kernel_rfl) (fun _ _ _ h => h) (Or.inl ⟨by rfl, ?_⟩) (by assumption) ?_
    rotate_left; (intro wS hSw; (try dsimp only at hSw); go_simp <;> with_reducible rfl)
    try simp only [qq]
    refine wpAnyH_take (i := 9) (oi := _) (v := undef) rfl (by kernel_rfl) (by kernel_rfl) (by kernel_rfl) (fun _ _ _ h => h) (Or.inr ⟨by rfl, rfl⟩) (by assumption) ?_
    try simp only [qq]
    refine wpAnyH_take (i := 10) (oi := _) (v := undef) rfl (by kernel_rfl) (by kernel_rfl) (by kernel_rfl) (fun _ _ _ h => h) (Or.inr ⟨by rfl, rfl⟩) (by assumption) ?_
    try simp only [qq]
    refine wpAnyH_take (i := 11) (oi := _) (v := undef) rfl (by kernel_rfl) (by kernel_rfl) (by kernel_rfl) (fun _ _ _ h => h) (Or.inr ⟨by rfl, rfl⟩) (by assumption) ?_
    try simp only [qq]
    refine wpAnyH_take (i := 12) (oi := _) (v := undef) rfl (by kernel_rfl) (by kernel_rfl) (by kernel_rfl) (fun _ _ _ h => h) (Or.inr ⟨by rfl, rfl⟩) (by assumption) ?_
    try simp only [qq]
    refine wpAnyH_take (i := 13) (oi := _) (v := undef) rfl (by kernel_rfl) (by kernel_rfl) (by kernel_rfl) (fun _ _ _ h => h) (Or.inr ⟨by rfl, rfl⟩) (by assumption) ?_
    try simp only [qq]
    refine wpAnyH_take (i := 14) (oi := _) (v := undef) rfl (by kernel_rfl) (by kernel_rfl) (by kernel_rfl) (fun _ _ _ h => h) (Or.inr ⟨by rfl, rfl⟩) (by assumption) ?_
    try simp only [qq]
    refine wpAnyH_take (i := 15) (oi := _) (v := undef) rfl (by kernel_rfl) (by kernel_rfl) (by kernel_rfl) (fun _ _ _ h => h) (Or.inr ⟨by rfl, rfl⟩) (by assumption) ?_
    try simp only [qq]
    refine wpAnyH_take (i := 16) (oi := _) (v := undef) rfl (by kernel_rfl) (by kernel_rfl) (by kernel_rfl) (fun _ _ _ h => h) (Or.inr ⟨by rfl, rfl⟩) (by assumption) ?_
    try simp only [qq]
    refine wpAnyH_take (i := 17) (oi := _) (v := ?_) rfl (by kernel_rfl) (by kernel_rfl) (by kernel_rfl) (fun _ _ _ h => h) (Or.inl ⟨by rfl, ?_⟩) (by assumption) ?_
    rotate_left; (intro wS hSw; (try dsimp only at hSw); go_simp <;> with_reducible rfl)
    try simp only [qq]
    refine wpAnyH_done (by kernel_rfl) ?_ _
    obtain ⟨x0, x1, x2, x3, x4, x5, x6, xE⟩ := hHeld
    have bV := ag vZ.out xE.out
    go_wp2
    go_ret
    exact ⟨rfl, bV⟩
   | true =>
    rw [Gp, Bool.true_and] at hst
    have HM := aa Gp
    clear Gp
    by_cases hne : rn = n0
    ·
     subst hne
     have hneq : ((rn : Int) != (rn : Int)) = false := by simp
     obtain ⟨t, ht⟩ : ∃ t, xs.all (aW P Q) = t := ⟨_, rfl⟩
     have hrb : nA P Q rn ⟨p, rn, rc, xs⟩ = t := by simp [nA, ht]
     rw [hrb] at hst
     have HST := aa hst
     have HT : Hid ((xs.drop 0).all (aW P Q) = t) := aa (by rw [List.drop_zero]; exact ht)
     clear hst hrb ht RU
     go_wp2
     go_region_held3 (fun w' => w'.cell? ⟨w.heap.size, 0, none⟩ = some (.int .i64 P) ∧ w'.cell? ⟨w.heap.size, 1, none⟩ = some (.int .i64 Q) ∧ w'.cell? ⟨w.heap.size, 2, none⟩ = some (.int .i64 G) ∧ w'.cell? ⟨w.heap.size + 1, 0, none⟩ = some (.slice (some ⟨b1, o1, none⟩) yn yc) ∧ w'.cell? ⟨w.heap.size + 1, 1, none⟩ = some (.slice (some ⟨b, o, none⟩) yn bc) ∧ w'.cell? ⟨b1, o1 + k, none⟩ = some (.int .i64 y) ∧ w'.cell? ⟨b, o + k, none⟩ = some (.slice p rn rc) ∧ Hid (Below W.heap.size W w'))
      (first | exact hS.out _ aF.out.drew | (go_split_ands; exact hS.out _ (aF.out.drew.trans (bS.mono aF.out.size))) | go_keep)
      ((first | (go_at_call 103; (with_reducible refine (bD P Q G y true HM hp (by omega) hQ _).mono ?_); rintro e wA ⟨rfl, bS⟩)))
     rename_i hHeld
     obtain ⟨x0, x1, x2, x3, x4, x5, x6, xE⟩ := hHeld
     clear x0 x1 x2 x3 x4 x5 x6 hS HM bS
     go_wp2
     go_loopw [7] (fun i wr => ∃ j : Nat, j ≤ rn ∧ i = .int .i64 j ∧ Hid ((xs.drop j).all (aW P Q) = t) ∧ Hid (Below W.heap.size W wr)) (fun i _ => rn - (intOf i).toNat)
     case atStart => exact ⟨0, by omega, rfl, HT, xE⟩
     case round =>
      obtain ⟨j, hj, rfl, HJ, yQ⟩ := hrel
      obtain ⟨wi, rfl⟩ : ∃ wi : World, wi = wr := ⟨_, rfl⟩
      by_cases hjt : j < rn
      ·
       have hjl : j < xs.length := by rw [HL.out]; exact hjt
       obtain ⟨b2, o2, e2, hi2⟩ := HS.out j hjl
       subst e2
       have hjs := BF (f := aW P Q) hjl
       rw [HJ.out] at hjs
       obtain ⟨x, hx⟩ : ∃ x, xs.getD j 0 = x := ⟨_, rfl⟩
       rw [hx] at hi2 hjs
       have HI2 := aa hi2
       have hS := aa (show ∀ u1 : World, Below W.heap.size W u1 → (u1.cell? ⟨w.heap.size, 0, none⟩ = some (.int .i64 P) ∧ u1.cell? ⟨w.heap.size, 1, none⟩ = some (.int .i64 Q) ∧ u1.cell? ⟨w.heap.size, 2, none⟩ = some (.int .i64 G) ∧ u1.cell? ⟨w.heap.size + 1, 0, none⟩ = some (.slice (some ⟨b1, o1, none⟩) yn yc) ∧ u1.cell? ⟨w.heap.size + 1, 1, none⟩ = some (.slice (some ⟨b, o, none⟩) yn bc) ∧ u1.cell? ⟨b, o + k, none⟩ = some (.slice (some ⟨b2, o2, none⟩) rn rc) ∧ u1.cell? ⟨b2, o2 + j, none⟩ = some (.int .i64 x) ∧ Hid (Below W.heap.size W u1)) from fun u1 h1 => ⟨(QK.out.below h1).1, (QK.out.below h1).2.1, (QK.out.below h1).2.2, (HRW.out.below h1).1, (HRW.out.below h1).2, cell_below HI1.out h1, cell_below HI2.out h1, aa h1⟩)
       clear hi2 hx hjl
       cases hmx : aW P Q x with
       | false =>
        rw [hmx, Bool.false_and] at hjs
        obtain rfl : t = false := hjs
        obtain rfl : r = false := HST.out
        have HM := aa hmx
        clear hmx
        go_wp2
        go_region_held3 (fun w' => w'.cell? ⟨w.heap.size, 0, none⟩ = some (.int .i64 P) ∧ w'.cell? ⟨w.heap.size, 1, none⟩ = some (.int .i64 Q) ∧ w'.cell? ⟨w.heap.size, 2, none⟩ = some (.int .i64 G) ∧ w'.cell? ⟨w.heap.size + 1, 0, none⟩ = some (.slice (some ⟨b1, o1, none⟩) yn yc) ∧ w'.cell? ⟨w.heap.size + 1, 1, none⟩ = some (.slice (some ⟨b, o, none⟩) yn bc) ∧ w'.cell? ⟨b, o + k, none⟩ = some (.slice (some ⟨b2, o2, none⟩) rn rc) ∧ w'.cell? ⟨b2, o2 + j, none⟩ = some (.int .i64 x) ∧ Hid (Below W.heap.size W w'))
         (first | exact hS.out _ yQ.out.drew | (go_split_ands; exact hS.out _ (yQ.out.drew.trans (bS.mono yQ.out.size))) | go_keep)
         ((first | (go_at_call 103; (with_reducible refine (bD P Q G x false HM hp (by omega) hQ _).mono ?_); rintro e wA ⟨rfl, bS⟩)))
        rename_i hHeld
        obtain ⟨x0, x1, x2, x3, x4, x5, x6, Fx⟩ := hHeld
        have bV := ag vZ.out Fx.out
        clear x0 x1 x2 x3 x4 x5 x6
        go_wp2
        go_ret
        exact ⟨rfl, bV⟩
       | true =>
        rw [hmx, Bool.true_and] at hjs
        have HJ2 := aa hjs.symm
        have HM := aa hmx
        clear hmx hjs HJ
        go_wp2
        go_region_held3 (fun w' => w'.cell? ⟨w.heap.size, 0, none⟩ = some (.int .i64 P) ∧ w'.cell? ⟨w.heap.size, 1, none⟩ = some (.int .i64 Q) ∧ w'.cell? ⟨w.heap.size, 2, none⟩ = some (.int .i64 G) ∧ w'.cell? ⟨w.heap.size + 1, 0, none⟩ = some (.slice (some ⟨b1, o1, none⟩) yn yc) ∧ w'.cell? ⟨w.heap.size + 1, 1, none⟩ = some (.slice (some ⟨b, o, none⟩) yn bc) ∧ w'.cell? ⟨b, o + k, none⟩ = some (.slice (some ⟨b2, o2, none⟩) rn rc) ∧ w'.cell? ⟨b2, o2 + j, none⟩ = some (.int .i64 x) ∧ Hid (Below W.heap.size W w'))
         (first | exact hS.out _ yQ.out.drew | (go_split_ands; exact hS.out _ (yQ.out.drew.trans (bS.mono yQ.out.size))) | go_keep)
         ((first | (go_at_call 103; (with_reducible refine (bD P Q G x true HM hp (by omega) hQ _).mono ?_); rintro e wA ⟨rfl, bS⟩)))
        rename_i hHeld
        obtain ⟨x0, x1, x2, x3, x4, x5, x6, Fx⟩ := hHeld
        clear x0 x1 x2 x3 x4 x5 x6
        go_wp2
        go_roundw
        case rel => exact ⟨j + 1, by omega, by go_num, HJ2, Fx⟩
        case measure => simp [intOf]; omega
      ·
       obtain rfl : j = rn := by omega
       obtain rfl : t = true := by rw [← HJ.out, ← HL.out, List.drop_length]; rfl
       have yw : Hid (leftV P Q j ys rows (k + 1) = r) := aa (by have h9 := HST.out; rw [Bool.true_and] at h9; exact h9.symm)
       clear HJ hjt
       go_wp2
       go_roundw
       case rel => exact ⟨k + 1, by omega, by go_num, yw, yQ⟩
       case measure => simp [intOf]; omega
    ·
     have hrb : nA P Q n0 ⟨p, rn, rc, xs⟩ = false := by simp [nA, hne]
     rw [hrb, Bool.false_and] at hst
     obtain rfl : r = false := hst
     have hneq : ((rn : Int) != (n0 : Int)) = true := by simp; omega
     clear hrb RU
     go_wp2
     go_region_held3 (fun w' => w'.cell? ⟨w.heap.size, 0, none⟩ = some (.int .i64 P) ∧ w'.cell? ⟨w.heap.size, 1, none⟩ = some (.int .i64 Q) ∧ w'.cell? ⟨w.heap.size, 2, none⟩ = some (.int .i64 G) ∧ w'.cell? ⟨w.heap.size + 1, 0, none⟩ = some (.slice (some ⟨b1, o1, none⟩) yn yc) ∧ w'.cell? ⟨w.heap.size + 1, 1, none⟩ = some (.slice (some ⟨b, o, none⟩) yn bc) ∧ w'.cell? ⟨b1, o1 + k, none⟩ = some (.int .i64 y) ∧ w'.cell? ⟨b, o + k, none⟩ = some (.slice p rn rc) ∧ Hid (Below W.heap.size W w'))
      (first | exact hS.out _ aF.out.drew | (go_split_ands; exact hS.out _ (aF.out.drew.trans (bS.mono aF.out.size))) | go_keep)
      ((first | (go_at_call 103; (with_reducible refine (bD P Q G y true HM hp (by omega) hQ _).mono ?_); rintro e wA ⟨rfl, bS⟩)))
     rename_i hHeld
     obtain ⟨x0, x1, x2, x3, x4, x5, x6, xE⟩ := hHeld
     have bV := ag vZ.out xE.out
     clear x0 x1 x2 x3 x4 x5 x6
     go_wp2
     go_ret
     exact ⟨rfl, bV⟩
  ·
   obtain rfl : k = yn := by omega
   obtain rfl : r = true := by
    rw [← RU.out, leftV]
    have e1 : ys.drop k = [] := by rw [← hyn.out, List.drop_length]
    have e2 : rows.drop k = [] := by rw [← hbn.out, List.drop_length]
    rw [e1, e2]; rfl
   have bV := ag vZ.out aF.out
   clear RU hlt
   go_wp2
   go_ret
   exact ⟨rfl, bV⟩
theorem SN (P Q G : Int) (Y : Option Addr) (ys : List Int) (yn yc : Nat) (B : Option Addr) (rows : List Row) (bn bc : Nat) (HG : Hid (bg P Q G = false)) (hyn : Hid (ys.length = yn)) (hbn : Hid (rows.length = bn)) (hQ : Q < 9223372036854775808) (w : World) (hY : Hid (Sl w Y ys)) (hB : Hid (Rw w B rows)) :
  Calls Tryz.prog 225 #[gv P Q G, ig Y yn yc B bn bc] w (Rt w (.bool false)) := by
 obtain ⟨w0, hW⟩ : ∃ W, (w.alloc (bq P Q G)).alloc (jI Y yn yc B bn bc) = W := ⟨_, rfl⟩
 have aj : Hid (Below w.heap.size w w0) := aa (by rw [← hW]; exact aJ (Below.refl _ _))
 have HX0 : Hid (oV w0 w.heap.size P Q G) := aa (by rw [← hW]; exact (a_ w P Q G).below (af _ _))
 have eG : Hid (qD w0 (w.heap.size + 1) (.slice Y yn yc) (.slice B bn bc)) := aa (by rw [← hW]; exact dR _ _ _ _ _)
 have yt : Hid (Sl w0 Y ys) := aa (hY.out.below aj.out)
 have pO : Hid (Rw w0 B rows) := aa (hB.out.below aj.out)
 have HW := aa hW
 clear hW hY hB
 go_in
 go_wp2_with fail
 rw [HW.out]
 go_wp2_with fail
 refine (bW P Q G false HG hQ _).mono ?_
 rintro e w1 ⟨rfl, hb0⟩
 have hb1 := ag (aj.out) hb0
 have ru := aa (HX0.out.below hb0)
 have HR1 := aa (eG.out.below hb0)
 have yo := aa (yt.out.below hb0)
 have oQ := aa (pO.out.below hb0)
 clear hb0
 obtain ⟨c0, c1, c2⟩ := ru.out
 obtain ⟨d0, d1⟩ := HR1.out
 go_wp2
 go_ret
 exact ⟨rfl, hb1⟩
theorem SY (P Q G : Int) (Y : Option Addr) (ys : List Int) (yn yc : Nat) (B : Option Addr) (rows : List Row) (bn bc : Nat) (HG : Hid (bg P Q G = true)) (h1 : yn < 1) (hyn : Hid (ys.length = yn)) (hbn : Hid (rows.length = bn)) (hQ : Q < 9223372036854775808) (w : World) (hY : Hid (Sl w Y ys)) (hB : Hid (Rw w B rows)) :
  Calls Tryz.prog 225 #[gv P Q G, ig Y yn yc B bn bc] w (Rt w (.bool false)) := by
 obtain ⟨w0, hW⟩ : ∃ W, (w.alloc (bq P Q G)).alloc (jI Y yn yc B bn bc) = W := ⟨_, rfl⟩
 have aj : Hid (Below w.heap.size w w0) := aa (by rw [← hW]; exact aJ (Below.refl _ _))
 have HX0 : Hid (oV w0 w.heap.size P Q G) := aa (by rw [← hW]; exact (a_ w P Q G).below (af _ _))
 have eG : Hid (qD w0 (w.heap.size + 1) (.slice Y yn yc) (.slice B bn bc)) := aa (by rw [← hW]; exact dR _ _ _ _ _)
 have yt : Hid (Sl w0 Y ys) := aa (hY.out.below aj.out)
 have pO : Hid (Rw w0 B rows) := aa (hB.out.below aj.out)
 have HW := aa hW
 clear hW hY hB
 have d1 : decide ((yn : Int) < 1) = true := by simp; omega
 go_in
 go_wp2_with fail
 rw [HW.out]
 go_wp2_with fail
 refine (bW P Q G true HG hQ _).mono ?_
 rintro e w1 ⟨rfl, hb0⟩
 have hb1 := ag (aj.out) hb0
 have ru := aa (HX0.out.below hb0)
 have HR1 := aa (eG.out.below hb0)
 have yo := aa (yt.out.below hb0)
 have oQ := aa (pO.out.below hb0)
 clear hb0
 obtain ⟨c0, c1, c2⟩ := ru.out
 obtain ⟨d0, d1⟩ := HR1.out
 go_wp2
 go_ret
 exact ⟨rfl, hb1⟩
theorem SX (P Q G : Int) (Y : Option Addr) (ys : List Int) (yn yc : Nat) (B : Option Addr) (rows : List Row) (bn bc : Nat) (HG : Hid (bg P Q G = true)) (h1 : 1 ≤ yn) (h2 : 8 < yn) (hyn : Hid (ys.length = yn)) (hbn : Hid (rows.length = bn)) (hQ : Q < 9223372036854775808) (w : World) (hY : Hid (Sl w Y ys)) (hB : Hid (Rw w B rows)) :
  Calls Tryz.prog 225 #[gv P Q G, ig Y yn yc B bn bc] w (Rt w (.bool false)) := by
 obtain ⟨w0, hW⟩ : ∃ W, (w.alloc (bq P Q G)).alloc (jI Y yn yc B bn bc) = W := ⟨_, rfl⟩
 have aj : Hid (Below w.heap.size w w0) := aa (by rw [← hW]; exact aJ (Below.refl _ _))
 have HX0 : Hid (oV w0 w.heap.size P Q G) := aa (by rw [← hW]; exact (a_ w P Q G).below (af _ _))
 have eG : Hid (qD w0 (w.heap.size + 1) (.slice Y yn yc) (.slice B bn bc)) := aa (by rw [← hW]; exact dR _ _ _ _ _)
 have yt : Hid (Sl w0 Y ys) := aa (hY.out.below aj.out)
 have pO : Hid (Rw w0 B rows) := aa (hB.out.below aj.out)
 have HW := aa hW
 clear hW hY hB
 have d1 : decide ((yn : Int) < 1) = false := by simp; omega
 have d2 : decide ((8 : Int) < (yn : Int)) = true := by simp; omega
 go_in
 go_wp2_with fail
 rw [HW.out]
 go_wp2_with fail
 refine (bW P Q G true HG hQ _).mono ?_
 rintro e w1 ⟨rfl, hb0⟩
 have hb1 := ag (aj.out) hb0
 have ru := aa (HX0.out.below hb0)
 have HR1 := aa (eG.out.below hb0)
 have yo := aa (yt.out.below hb0)
 have oQ := aa (pO.out.below hb0)
 clear hb0
 obtain ⟨c0, c1, c2⟩ := ru.out
 obtain ⟨d0, d1⟩ := HR1.out
 go_wp2
 go_ret
 exact ⟨rfl, hb1⟩
theorem SV (P Q G : Int) (Y : Option Addr) (ys : List Int) (yn yc : Nat) (B : Option Addr) (rows : List Row) (bn bc : Nat) (HG : Hid (bg P Q G = true)) (h1 : 1 ≤ yn) (h2 : yn ≤ 8) (h3 : bn ≠ yn) (hyn : Hid (ys.length = yn)) (hbn : Hid (rows.length = bn)) (hQ : Q < 9223372036854775808) (w : World) (hY : Hid (Sl w Y ys)) (hB : Hid (Rw w B rows)) :
  Calls Tryz.prog 225 #[gv P Q G, ig Y yn yc B bn bc] w (Rt w (.bool false)) := by
 obtain ⟨w0, hW⟩ : ∃ W, (w.alloc (bq P Q G)).alloc (jI Y yn yc B bn bc) = W := ⟨_, rfl⟩
 have aj : Hid (Below w.heap.size w w0) := aa (by rw [← hW]; exact aJ (Below.refl _ _))
 have HX0 : Hid (oV w0 w.heap.size P Q G) := aa (by rw [← hW]; exact (a_ w P Q G).below (af _ _))
 have eG : Hid (qD w0 (w.heap.size + 1) (.slice Y yn yc) (.slice B bn bc)) := aa (by rw [← hW]; exact dR _ _ _ _ _)
 have yt : Hid (Sl w0 Y ys) := aa (hY.out.below aj.out)
 have pO : Hid (Rw w0 B rows) := aa (hB.out.below aj.out)
 have HW := aa hW
 clear hW hY hB
 have d1 : decide ((yn : Int) < 1) = false := by simp; omega
 have d2 : decide ((8 : Int) < (yn : Int)) = false := by simp; omega
 have d3 : ((bn : Int) != (yn : Int)) = true := by simp; omega
 go_in
 go_wp2_with fail
 rw [HW.out]
 go_wp2_with fail
 refine (bW P Q G true HG hQ _).mono ?_
 rintro e w1 ⟨rfl, hb0⟩
 have hb1 := ag (aj.out) hb0
 have ru := aa (HX0.out.below hb0)
 have HR1 := aa (eG.out.below hb0)
 have yo := aa (yt.out.below hb0)
 have oQ := aa (pO.out.below hb0)
 clear hb0
 obtain ⟨c0, c1, c2⟩ := ru.out
 obtain ⟨d0, d1⟩ := HR1.out
 go_wp2
 go_ret
 exact ⟨rfl, hb1⟩
theorem SS (P Q G : Int) (Y : Option Addr) (ys : List Int) (yc : Nat) (B : Option Addr) (rows : List Row) (bn bc : Nat) (n0 : Nat) (hN : Hid (gD rows = n0)) (HG : Hid (bg P Q G = true)) (h1 : 1 ≤ bn) (h2 : bn ≤ 8) (h4 : n0 < 1) (hyn : Hid (ys.length = bn)) (hbn : Hid (rows.length = bn)) (hQ : Q < 9223372036854775808) (w : World) (hY : Hid (Sl w Y ys)) (hB : Hid (Rw w B rows)) :
  Calls Tryz.prog 225 #[gv P Q G, ig Y bn yc B bn bc] w (Rt w (.bool false)) := by
 obtain ⟨w0, hW⟩ : ∃ W, (w.alloc (bq P Q G)).alloc (jI Y bn yc B bn bc) = W := ⟨_, rfl⟩
 have aj : Hid (Below w.heap.size w w0) := aa (by rw [← hW]; exact aJ (Below.refl _ _))
 have HX0 : Hid (oV w0 w.heap.size P Q G) := aa (by rw [← hW]; exact (a_ w P Q G).below (af _ _))
 have eG : Hid (qD w0 (w.heap.size + 1) (.slice Y bn yc) (.slice B bn bc)) := aa (by rw [← hW]; exact dR _ _ _ _ _)
 have yt : Hid (Sl w0 Y ys) := aa (hY.out.below aj.out)
 have pO : Hid (Rw w0 B rows) := aa (hB.out.below aj.out)
 have HW := aa hW
 clear hW hY hB
 have d1 : decide ((bn : Int) < 1) = false := by simp; omega
 have d2 : decide ((8 : Int) < (bn : Int)) = false := by simp; omega
 have d4 : decide ((n0 : Int) < 1) = true := by simp; omega
 go_in
 go_wp2_with fail
 rw [HW.out]
 go_wp2_with fail
 refine (bW P Q G true HG hQ _).mono ?_
 rintro e w1 ⟨rfl, hb0⟩
 have hb1 := ag (aj.out) hb0
 have ru := aa (HX0.out.below hb0)
 have HR1 := aa (eG.out.below hb0)
 have yo := aa (yt.out.below hb0)
 have oQ := aa (pO.out.below hb0)
 clear hb0
 obtain ⟨c0, c1, c2⟩ := ru.out
 obtain ⟨d0, d1⟩ := HR1.out
 go_wp2_with fail
 refine (gq Y bn yc B rows bn bc n0 hbn (by omega) hN _ oQ).mono ?_
 rintro e w2 ⟨rfl, hb0⟩
 have hb2 := ag hb1 hb0
 have Aj := aa (ru.out.below hb0)
 have HR2 := aa (HR1.out.below hb0)
 have Ob := aa (yo.out.below hb0)
 have CZ := aa (oQ.out.below hb0)
 clear c0 c1 c2 d0 d1 hb0
 obtain ⟨c0, c1, c2⟩ := Aj.out
 obtain ⟨d0, d1⟩ := HR2.out
 go_wp2
 go_ret
 exact ⟨rfl, hb2⟩
theorem SQ (P Q G : Int) (Y : Option Addr) (ys : List Int) (yc : Nat) (B : Option Addr) (rows : List Row) (bn bc : Nat) (n0 : Nat) (hN : Hid (gD rows = n0)) (HG : Hid (bg P Q G = true)) (h1 : 1 ≤ bn) (h2 : bn ≤ 8) (h4 : 1 ≤ n0) (h5 : 12 < n0) (hyn : Hid (ys.length = bn)) (hbn : Hid (rows.length = bn)) (hQ : Q < 9223372036854775808) (w : World) (hY : Hid (Sl w Y ys)) (hB : Hid (Rw w B rows)) :
  Calls Tryz.prog 225 #[gv P Q G, ig Y bn yc B bn bc] w (Rt w (.bool false)) := by
 obtain ⟨w0, hW⟩ : ∃ W, (w.alloc (bq P Q G)).alloc (jI Y bn yc B bn bc) = W := ⟨_, rfl⟩
 have aj : Hid (Below w.heap.size w w0) := aa (by rw [← hW]; exact aJ (Below.refl _ _))
 have HX0 : Hid (oV w0 w.heap.size P Q G) := aa (by rw [← hW]; exact (a_ w P Q G).below (af _ _))
 have eG : Hid (qD w0 (w.heap.size + 1) (.slice Y bn yc) (.slice B bn bc)) := aa (by rw [← hW]; exact dR _ _ _ _ _)
 have yt : Hid (Sl w0 Y ys) := aa (hY.out.below aj.out)
 have pO : Hid (Rw w0 B rows) := aa (hB.out.below aj.out)
 have HW := aa hW
 clear hW hY hB
 have d1 : decide ((bn : Int) < 1) = false := by simp; omega
 have d2 : decide ((8 : Int) < (bn : Int)) = false := by simp; omega
 have d4 : decide ((n0 : Int) < 1) = false := by simp; omega
 have d5 : decide ((12 : Int) < (n0 : Int)) = true := by simp; omega
 go_in
 go_wp2_with fail
 rw [HW.out]
 go_wp2_with fail
 refine (bW P Q G true HG hQ _).mono ?_
 rintro e w1 ⟨rfl, hb0⟩
 have hb1 := ag (aj.out) hb0
 have ru := aa (HX0.out.below hb0)
 have HR1 := aa (eG.out.below hb0)
 have yo := aa (yt.out.below hb0)
 have oQ := aa (pO.out.below hb0)
 clear hb0
 obtain ⟨c0, c1, c2⟩ := ru.out
 obtain ⟨d0, d1⟩ := HR1.out
 go_wp2_with fail
 refine (gq Y bn yc B rows bn bc n0 hbn (by omega) hN _ oQ).mono ?_
 rintro e w2 ⟨rfl, hb0⟩
 have hb2 := ag hb1 hb0
 have Aj := aa (ru.out.below hb0)
 have HR2 := aa (HR1.out.below hb0)
 have Ob := aa (yo.out.below hb0)
 have CZ := aa (oQ.out.below hb0)
 clear c0 c1 c2 d0 d1 hb0
 obtain ⟨c0, c1, c2⟩ := Aj.out
 obtain ⟨d0, d1⟩ := HR2.out
 go_wp2
 go_ret
 exact ⟨rfl, hb2⟩
theorem iV (P Q G : Int) (Y : Option Addr) (ys : List Int) (yn yc : Nat) (B : Option Addr) (rows : List Row) (bn bc : Nat) (r : Bool) (hr : Hid (eZ P Q G ys rows = r)) (hyn : Hid (ys.length = yn)) (hbn : Hid (rows.length = bn)) (hQ : Q < 9223372036854775808) (w : World) (hY : Hid (Sl w Y ys)) (hB : Hid (Rw w B rows)) :
  Calls Tryz.prog 225 #[gv P Q G, ig Y yn yc B bn bc] w (Rt w (.bool r)) := by
 have hr' := hr.out
 rw [eZ, hyn.out, hbn.out] at hr'
 cases hg : bg P Q G with
 | false =>
  obtain rfl : r = false := by rw [← hr', hg, Bool.false_and]
  exact SN P Q G Y ys yn yc B rows bn bc (aa hg) hyn hbn hQ w hY hB
 | true =>
  rw [hg, Bool.true_and] at hr'
  by_cases h1 : yn < 1
  ·
   obtain rfl : r = false := by rw [← hr', decide_eq_false (show ¬ 1 ≤ yn by omega)]; rfl
   exact SY P Q G Y ys yn yc B rows bn bc (aa hg) h1 hyn hbn hQ w hY hB
  ·
   rw [decide_eq_true (show 1 ≤ yn by omega), Bool.true_and] at hr'
   by_cases h2 : 8 < yn
   ·
    obtain rfl : r = false := by rw [← hr', decide_eq_false (show ¬ yn ≤ 8 by omega)]; rfl
    exact SX P Q G Y ys yn yc B rows bn bc (aa hg) (by omega) h2 hyn hbn hQ w hY hB
   ·
    rw [decide_eq_true (show yn ≤ 8 by omega), Bool.true_and] at hr'
    by_cases h3 : bn = yn
    ·
     subst h3
     rw [decide_eq_true rfl, Bool.true_and] at hr'
     obtain ⟨n0, hn0⟩ : ∃ n, gD rows = n := ⟨_, rfl⟩
     rw [hn0] at hr'
     by_cases h4 : n0 < 1
     ·
      obtain rfl : r = false := by rw [← hr', decide_eq_false (show ¬ 1 ≤ n0 by omega), Bool.false_and, Bool.and_false]
      exact SS P Q G Y ys yc B rows bn bc n0 (aa hn0) (aa hg) (by omega) (by omega) h4 hyn hbn hQ w hY hB
     ·
      rw [decide_eq_true (show 1 ≤ n0 by omega), Bool.true_and] at hr'
      by_cases h5 : 12 < n0
      ·
       obtain rfl : r = false := by rw [← hr', decide_eq_false (show ¬ n0 ≤ 12 by omega), Bool.false_and, Bool.and_false]
       exact SQ P Q G Y ys yc B rows bn bc n0 (aa hn0) (aa hg) (by omega) (by omega) (by omega) h5 hyn hbn hQ w hY hB
      ·
       rw [decide_eq_true (show n0 ≤ 12 by omega), Bool.true_and] at hr'
       exact Lc P Q G Y ys bn yc B rows bc n0 r (aa hg) (aa (by rw [leftV, List.drop_zero, List.drop_zero]; exact hr')) (aa hn0) hyn hbn (by omega) (by omega) (by omega) (by omega) hQ w hY hB
    ·
     obtain rfl : r = false := by rw [← hr', decide_eq_false h3]; rfl
     exact SV P Q G Y ys yn yc B rows bn bc (aa hg) (by omega) (by omega) h3 hyn hbn hQ w hY hB
theorem UJ (g n cap : Nat) (zs : List Int) (Y : Option Addr) (ys : List Int) (m yc : Nat) (hn : zs.length = n) (hm : Hid (ys.length = m)) (hpos : 0 < m) (hbig : n < 1000) (hbig2 : m < 1000) (w : World) (h1 : Hid (Cells w g zs)) (h2 : Hid (Sl w Y ys)) :
  Calls Tryz.prog 241 #[.slice (some ⟨g, 0, none⟩) n cap, .slice Y m yc] w (Rt w (.bool (zs == ys))) := by
 obtain ⟨b, o, rfl, _⟩ := h2.out 0 (by rw [hm.out]; exact hpos)
 have hm' := hm.out
 refine (Tryz.slices_Equal_int g 0 n cap b o m yc zs ys w (by omega) (by omega) (by omega) (by omega) (fun j hj => ?_) (fun j hj => ?_)).mono ?_
 · rw [Nat.zero_add]; exact h1.out j hj
 ·
  obtain ⟨b', o', e1, e2⟩ := h2.out j hj
  cases e1
  exact e2
 ·
  rintro e w' ⟨rfl, q, rfl⟩
  refine ⟨?_, aG (Below.refl _ _) _⟩
  rw [List.take_of_length_le (by omega), List.take_of_length_le (by omega)]
def Fe (zs : List Int) (n : Nat) (w : World) (e : Ending) (w' : World) : Prop := ∃ g cap, e = .returned (.slice (some ⟨g, 0, none⟩) n cap) ∧ Hid (Cells w' g zs) ∧ Below w.heap.size w w'
theorem CY.cells {zs : List Int} {n : Nat} {w w' : World} {e : Ending} (h : CY zs w e w') (hn : zs.length = n) (hpos : 0 < n) : Fe zs n w e w' := by
 obtain ⟨v, he, ho, hb⟩ := h
 obtain ⟨g, cap, rfl, _, hc⟩ := jM.cells ho (by omega)
 rw [hn] at he
 exact ⟨g, cap, he, aa hc, hb⟩
theorem jM.rowF {w : World} {B : Nat} {v : Value} {xs : List Int} (h : jM w B v xs) (hne : 0 < xs.length) : ∃ g cap, v = .slice (some ⟨g, 0, none⟩) xs.length cap ∧ B ≤ g ∧ AJ w g xs.length (fun j => xs.getD j 0) := by
 obtain ⟨g, cap, hv, hg, hc⟩ := jM.cells h hne
 obtain ⟨_, h2⟩ := h
 rcases h2 with ⟨_, h0⟩ | ⟨g', cap', cur, hv', _, hh, _⟩
 · omega
 ·
  rw [hv] at hv'
  cases hv'
  exact ⟨g, cap, hv, hg, fun j hj => hc j hj, fun j => av hh j⟩
theorem AJ.below {w w' : World} {g n : Nat} {f : Nat → Int} (h : AJ w g n f) (hn : 0 < n) (hb : Below w.heap.size w w') : AJ w' g n f := by
 have hg : g < w.heap.size := World.block_lt_of_cell? _ _ (h.1 0 hn)
 exact ⟨fun j hj => (hb.cell (p := ⟨g, j, none⟩) hg).trans (h.1 j hj), fun j => (hb.frozen (p := ⟨g, j, none⟩) hg).trans (h.2 j)⟩
def ze (P Q c : Int) (ys : List Int) (rows : List Row) (zs : List Int) (i : Nat) : Int := dH P 1 (rows.getD i di).xs zs * pw (ys.getD i 0) ((Q - c) % Q) P % P
def wO (P Q c : Int) (ys : List Int) (rows : List Row) (zs : List Int) : List Int := (List.range rows.length).map (ze P Q c ys rows zs)
theorem gM (P Q c : Int) (ys : List Int) (rows : List Row) (zs : List Int) : (wO P Q c ys rows zs).length = rows.length := by simp [wO]
theorem zb {P Q c : Int} {ys : List Int} {rows : List Row} {zs : List Int} {i : Nat} (h : i < rows.length) : (wO P Q c ys rows zs).getD i 0 = ze P Q c ys rows zs i := by
 rw [List.getD_eq_getElem?_getD, List.getElem?_eq_getElem (by rw [gM]; exact h)]
 simp [wO]
theorem Mf {f : Row → Int} {rows : List Row} {i : Nat} (h : i < rows.length) : (rows.map f).getD i 0 = f (rows.getD i di) := by
 rw [List.getD_eq_getElem?_getD, List.getElem?_eq_getElem (by simpa using h), List.getD_eq_getElem?_getD, List.getElem?_eq_getElem h]
 simp
theorem Ea {P : Int} (hp : 2 ≤ P) : ∀ (xs es : List Int) (acc : Int), 0 ≤ acc → acc < P → 0 ≤ dH P acc xs es ∧ dH P acc xs es < P
 | [], es, acc, h0, h1 => by cases es <;> exact ⟨h0, h1⟩
 | x :: xs, [], acc, h0, h1 => ⟨h0, h1⟩
 | x :: xs, e :: es, acc, h0, h1 => by
  rw [dH]
  exact Ea hp xs es _ (Int.emod_nonneg _ (by omega)) (Int.emod_lt_of_pos _ (by omega))
theorem PT (P Q G : Int) (Y : Option Addr) (ys : List Int) (yc : Nat) (B : Option Addr) (rows : List Row) (n bc : Nat) (c : Int) (L : Option Addr) (zs : List Int) (ln lc : Nat) (lq : Hid (eZ P Q G ys rows = true)) (hyn : Hid (ys.length = n)) (hbn : Hid (rows.length = n)) (hln : Hid (zs.length = ln)) (hlen : zs.length = gD rows)
  (Hl : Hid (zs.all (jV Q) = true)) (hc0 : 0 ≤ c) (hc1 : c < Q) (hQ : Q < 9223372036854775808) (w : World) (hY : Hid (Sl w Y ys)) (hB : Hid (Rw w B rows)) (hL : Hid (Sl w L zs)) :
  Calls Tryz.prog 242 #[gv P Q G, ig Y n yc B n bc, .int .i64 c, .slice L ln lc] w (Fe (wO P Q c ys rows zs) n w) := by
 obtain ⟨v1, v2, v3, v4, v5, v6, v7, v8⟩ := bM lq.out
 obtain ⟨hp2, hp, hq3, Cv⟩ := b_ v1
 rw [← hlen, hln.out] at v8
 have Hq := aa v8
 have hnp : 0 < n := by rw [← hyn.out]; omega
 have hn8 : n ≤ 8 := by rw [← hyn.out]; omega
 have adj : ln ≤ 12 := by rw [← hln.out]; omega
 have HYM := aa v5
 have hzl : (rows.map fun r => dH P 1 r.xs zs).length = n := by rw [List.length_map]; exact hbn.out
 clear v1 v2 v3 v4 v5 v6 v7 v8
 obtain ⟨b1, o1, rfl, _⟩ := hY.out 0 (by rw [hyn.out]; exact hnp)
 obtain ⟨w0, hW⟩ : ∃ W, (w.alloc (bq P Q G)).alloc (jI (some ⟨b1, o1, none⟩) n yc B n bc) = W := ⟨_, rfl⟩
 have aj : Hid (Below w.heap.size w w0) := aa (by rw [← hW]; exact aJ (Below.refl _ _))
 have HX0 : Hid (oV w0 w.heap.size P Q G) := aa (by rw [← hW]; exact (a_ w P Q G).below (af _ _))
 have eG : Hid (qD w0 (w.heap.size + 1) (.slice (some ⟨b1, o1, none⟩) n yc) (.slice B n bc)) := aa (by rw [← hW]; exact dR _ _ _ _ _)
 have yt := aa (hY.out.below aj.out)
 have yR := aa (hB.out.below aj.out)
 have Fw := aa (hL.out.below aj.out)
 have HW := aa hW
 clear hW hY hB hL
 obtain ⟨d0, d1⟩ := eG.out
 obtain ⟨c0, c1, c2⟩ := HX0.out
 go_in
 go_wp2_with fail
 rw [HW.out]
 refine (Au P Q G B rows n bc L zs ln lc hbn hln (by omega) (by omega) Hq Hl hp2 hp hQ _ yR Fw).mono ?_
 rintro e W ⟨v, rfl, ho, hb0⟩
 obtain ⟨g, cap, rfl, hg, hrf⟩ := ho.rowF (by rw [hzl]; exact hnp)
 rw [hzl] at hrf
 have hvl : (Value.slice (some ⟨g, 0, none⟩) ((rows.map fun r => dH P 1 r.xs zs).length) cap) = .slice (some ⟨g, 0, none⟩) n cap := by rw [hzl]
 rw [hvl]
 have QK := aa (HX0.out.below hb0)
 have HRW := aa (eG.out.below hb0)
 have HYW := aa (yt.out.below hb0)
 have vZ := aa (ag aj.out hb0)
 have hgw : w.heap.size + 1 < g := by have h1 : w.heap.size + 1 < w0.heap.size := World.block_lt_of_cell? _ _ eG.out.1; omega
 have hyg : b1 < g := by
  obtain ⟨bb, oo, e1, e2⟩ := yt.out 0 (by rw [hyn.out]; exact hnp)
  cases e1
  have h1 : b1 < w0.heap.size := World.block_lt_of_cell? _ _ e2
  omega
 have jF : Hid (AJ W g n (fun j => if j < 0 then ze P Q c ys rows zs j else dH P 1 (rows.getD j di).xs zs)) := aa ⟨fun j hj => by
  have h1 := hrf.1 j hj
  dsimp only at h1
  rw [Mf (by rw [hbn.out]; exact hj)] at h1
  dsimp only
  rw [if_neg (by omega)]
  exact h1, hrf.2⟩
 have HG_ := aa (Nat.le_trans aj.out.size hg)
 clear ho hb0 hrf hvl hg c0 c1 c2 d0 d1
 obtain ⟨d0, d1⟩ := HRW.out
 go_wp2
 go_loopw [22] (fun i wr => ∃ k : Nat, k ≤ n ∧ i = .int .i64 k ∧ Hid (AJ wr g n (fun j => if j < k then ze P Q c ys rows zs j else dH P 1 (rows.getD j di).xs zs)) ∧ Hid (Below g W wr)) (fun i _ => n - (intOf i).toNat)
 case atStart => exact ⟨0, by omega, rfl, jF, aa (Below.refl _ _)⟩
 case round =>
  obtain ⟨k, hk, rfl, YH, aF⟩ := hrel
  by_cases hlt : k < n
  ·
   have hkl : k < ys.length := by rw [hyn.out]; exact hlt
   have hkr : k < rows.length := by rw [hbn.out]; exact hlt
   obtain ⟨bb, oo, e1, hi0⟩ := HYW.out k hkl
   cases e1
   have hi1 := (aF.out.cell (p := ⟨b1, o1 + k, none⟩) hyg).trans hi0
   have c0 := (aF.out.cell (p := ⟨w.heap.size, 0, none⟩) (by show w.heap.size < g; omega)).trans QK.out.1
   have c1 := (aF.out.cell (p := ⟨w.heap.size, 1, none⟩) (by show w.heap.size < g; omega)).trans QK.out.2.1
   have hcell : wr.cell? ⟨g, k, none⟩ = some (.int .i64 (dH P 1 (rows.getD k di).xs zs)) := by
    have h3 := YH.out.1 k hlt
    simp only [Nat.lt_irrefl, if_false] at h3
    exact h3
   have hfz := YH.out.2 k
   have Gp := kU HYM.out hkl
   obtain ⟨q0, q1⟩ := Ea hp2 (rows.getD k di).xs zs 1 (by omega) (by omega)
   have Rq : ze P Q c ys rows zs k = dH P 1 (rows.getD k di).xs zs * pw (ys.getD k 0) ((Q - c) % Q) P % P := rfl
   obtain ⟨a, ha⟩ : ∃ a, dH P 1 (rows.getD k di).xs zs = a := ⟨_, rfl⟩
   obtain ⟨y, hy⟩ : ∃ x, ys.getD k 0 = x := ⟨_, rfl⟩
   rw [ha] at hcell q0 q1 Rq
   rw [hy] at hi1 Gp Rq
   have y0 := iY Gp
   have y1 := iZ Gp
   obtain ⟨ex, hex⟩ : ∃ e, (Q - c) % Q = e := ⟨_, rfl⟩
   have ex0 : 0 ≤ ex := by rw [← hex]; exact Int.emod_nonneg _ (by omega)
   have ex1 : ex < Q := by rw [← hex]; exact Int.emod_lt_of_pos _ (by omega)
   rw [hex] at Rq
   obtain ⟨p, hpw⟩ : ∃ p, pw y ex P = p := ⟨_, rfl⟩
   obtain ⟨p0, p1⟩ : 0 ≤ p ∧ p < P := by rw [← hpw]; exact zl _ _ _ (by omega)
   rw [hpw] at Rq
   obtain ⟨t, ht⟩ : ∃ t, a * p % P = t := ⟨_, rfl⟩
   rw [ht] at Rq
   have HN : ∀ q, Hid (AJ ((wr.drewN q).setCell ⟨g, k, none⟩ (.int .i64 t)) g n (fun j => if j < k + 1 then ze P Q c ys rows zs j else dH P 1 (rows.getD j di).xs zs)) := fun q => by
    have h3 := LD (AJ.below YH.out hnp (aG (Below.refl _ _) q)) hlt t
    have e : (fun j => if j = k then t else if j < k then ze P Q c ys rows zs j else dH P 1 (rows.getD j di).xs zs) = (fun j => if j < k + 1 then ze P Q c ys rows zs j else dH P 1 (rows.getD j di).xs zs) := by
     funext j
     by_cases hj : j = k
     · subst hj; rw [if_pos rfl, if_pos (by omega), Rq]
     ·
      rw [if_neg hj]
      by_cases hj2 : j < k
      · rw [if_pos hj2, if_pos (by omega)]
      · rw [if_neg hj2, if_neg (by omega)]
    rw [e] at h3
    exact aa h3
   have HNH := aa HN
   have HB2 := aa (show ∀ q, Hid (Below g W ((wr.drewN q).setCell ⟨g, k, none⟩ (.int .i64 t))) from fun q => aa ((aG aF.out q).setCell (Nat.le_refl _) _))
   have hdf : IntKind.i64.wrap (Q - c) = Q - c := IntWalk.i64_in _ (by omega)
   have htm : (Q - c).tmod Q = ex := by rw [Int.tmod_eq_emod_of_nonneg (by omega), hex]
   have hwx : IntKind.i64.wrap ex = ex := IntWalk.i64_in _ (by omega)
   have hQn : ¬ (Q = 0) := by omega
   have Vi := aa hpw
   have Zk := aa ht
   have ZO := aa Rq
   clear hkl hkr hi0 Gp Rq ha hy hex hpw ht HN
   go_wp2
   go_quiet ((go_at_call 105; exact Calls.quiet_of (pow_eq y ex P p Vi (by omega) hp (by omega) y1 ex0 (by omega) _)))
   go_wp2_with fail
   go_region_with ((go_at_call 35; refine (BL a p P t Zk hp q0 q1 p0 p1 _).mono ?_; rintro e w' ⟨rfl, n3, rfl⟩))
   all_goals
    go_wp2
    go_roundw
    case rel => exact ⟨k + 1, by omega, by go_num, HNH.out _, HB2.out _⟩
    case measure => simp [intOf]; omega
  ·
   obtain rfl : k = n := by omega
   have HF : Hid (Cells wr g (wO P Q c ys rows zs)) := aa (fun j hj => by
    rw [gM, hbn.out] at hj
    rw [zb (by rw [hbn.out]; exact hj), YH.out.1 j hj]
    dsimp only
    rw [if_pos hj])
   have bV : Below w.heap.size w wr := vZ.out.trans (aF.out.mono HG_.out)
   clear YH hlt
   go_wp2
   go_ret
   exact ⟨g, cap, rfl, HF, bV⟩
abbrev iO (pa : Option Addr) (na ca : Nat) (C : Int) (pz : Option Addr) (nz cz : Nat) : Value := .agg #[.slice pa na ca, .int .i64 C, .slice pz nz cz]
abbrev fe (pa : Option Addr) (na ca : Nat) (C : Int) (pz : Option Addr) (nz cz : Nat) : Obj := .cells #[.slice pa na ca, .int .i64 C, .slice pz nz cz] 54
def BH (w : World) (a : Nat) (x y z : Value) : Prop := w.cell? ⟨a, 0, none⟩ = some x ∧ w.cell? ⟨a, 1, none⟩ = some y ∧ w.cell? ⟨a, 2, none⟩ = some z
theorem BH.below {w w' : World} {a : Nat} {x y z : Value} (h : BH w a x y z) (hb : Below w.heap.size w w') : BH w' a x y z :=
 ⟨cell_below h.1 hb, cell_below h.2.1 hb, cell_below h.2.2 hb⟩
theorem Cb (w : World) (T : TypeId) (x y z : Value) : BH (w.alloc (.cells #[x, y, z] T)) w.heap.size x y z := ⟨World.cell?_alloc_at _ _ _ _ rfl, World.cell?_alloc_at _ _ _ _ rfl, World.cell?_alloc_at _ _ _ _ rfl⟩
theorem UW (w : World) (o1 o2 : Obj) (T : TypeId) (x y z : Value) : BH (((w.alloc o1).alloc o2).alloc (.cells #[x, y, z] T)) (w.heap.size + 2) x y z := by
 have e : ((w.alloc o1).alloc o2).heap.size = w.heap.size + 2 := by simp
 rw [← e]
 exact Cb _ _ _ _ _
theorem CS {w : World} {o1 o2 o3 : Obj} : Below w.heap.size w (((w.alloc o1).alloc o2).alloc o3) :=
 (((Below.refl _ _).alloc (Nat.le_refl _) _).alloc (by simp) _).alloc (by simp; omega) _
theorem Gf (P Q G : Int) (Y : Option Addr) (ys : List Int) (n yc : Nat) (B : Option Addr) (rows : List Row) (bc : Nat) (A : Option Addr) (al : List Int) (ca : Nat) (C : Int) (Z : Option Addr) (zs : List Int) (nz cz : Nat)
  (lq : Hid (eZ P Q G ys rows = true)) (hyn : Hid (ys.length = n)) (hbn : Hid (rows.length = n)) (eu : Hid (al.length = n)) (hzn : Hid (zs.length = nz)) (hlen : zs.length = gD rows) (Hl : Hid (zs.all (jV Q) = true)) (hc0 : 0 ≤ C) (hc1 : C < Q) (r : Bool) (hr : Hid ((wO P Q C ys rows zs == al) = r))
  (hQ : Q < 9223372036854775808) (w : World) (hv : Hid (Vars w)) (hY : Hid (Sl w Y ys)) (hB : Hid (Rw w B rows)) (hA : Hid (Sl w A al)) (hZ : Hid (Sl w Z zs)) :
  Calls Tryz.prog 222 #[gv P Q G, ig Y n yc B n bc, iO A n ca C Z nz cz] w (Rt w (.bool r)) := by
 obtain ⟨v1, v2, v3, v4, v5, v6, v7, v8⟩ := bM lq.out
 have hnp : 0 < n := by rw [← hyn.out]; omega
 have hn8 : n ≤ 8 := by rw [← hyn.out]; omega
 have aeJ : nz ≤ 12 := by rw [← hzn.out]; omega
 have HN : Hid (gD rows = nz) := aa (hlen.symm.trans hzn.out)
 have hnn : ((n : Int) != (n : Int)) = false := by simp
 have hzz : ((nz : Int) != (nz : Int)) = false := by simp
 have QS := aa (O4 hc0 hc1)
 have hsl : (wO P Q C ys rows zs).length = n := by rw [gM]; exact hbn.out
 clear v1 v2 v3 v4 v5 v6 v7 v8
 obtain ⟨W, hW⟩ : ∃ W, ((w.alloc (bq P Q G)).alloc (jI Y n yc B n bc)).alloc (fe A n ca C Z nz cz) = W := ⟨_, rfl⟩
 have aj : Hid (Below w.heap.size w W) := aa (by rw [← hW]; exact CS)
 have HX0 : Hid (oV W w.heap.size P Q G) := aa (by rw [← hW]; exact ((a_ w P Q G).below (af _ _)).below (af _ _))
 have eG : Hid (qD W (w.heap.size + 1) (.slice Y n yc) (.slice B n bc)) := aa (by rw [← hW]; exact (dR _ _ _ _ _).below (af _ _))
 have HP0 : Hid (BH W (w.heap.size + 2) (.slice A n ca) (.int .i64 C) (.slice Z nz cz)) := aa (by rw [← hW]; exact UW w _ _ _ _ _ _)
 have hOV := aa (show ∀ u1 : World, Hid (Below W.heap.size W u1) → Hid (Vars u1) from fun u1 h1 => aa (hv.out.below (ag aj.out h1.out)))
 have hOY := aa (show ∀ u1 : World, Hid (Below W.heap.size W u1) → Hid (Sl u1 Y ys) from fun u1 h1 => aa (hY.out.below (ag aj.out h1.out)))
 have VO := aa (show ∀ u1 : World, Hid (Below W.heap.size W u1) → Hid (Rw u1 B rows) from fun u1 h1 => aa (hB.out.below (ag aj.out h1.out)))
 have hOA := aa (show ∀ u1 : World, Hid (Below W.heap.size W u1) → Hid (Sl u1 A al) from fun u1 h1 => aa (hA.out.below (ag aj.out h1.out)))
 have hOZ := aa (show ∀ u1 : World, Hid (Below W.heap.size W u1) → Hid (Sl u1 Z zs) from fun u1 h1 => aa (hZ.out.below (ag aj.out h1.out)))
 have hS := aa (show ∀ u1 u2 : World, Hid (Below W.heap.size W u1) → Below u1.heap.size u1 u2 → (u2.cell? ⟨w.heap.size, 0, none⟩ = some (.int .i64 P) ∧ u2.cell? ⟨w.heap.size, 1, none⟩ = some (.int .i64 Q) ∧ u2.cell? ⟨w.heap.size, 2, none⟩ = some (.int .i64 G) ∧ u2.cell? ⟨w.heap.size + 1, 0, none⟩ = some (.slice Y n yc) ∧ u2.cell? ⟨w.heap.size + 1, 1, none⟩ = some (.slice B n bc) ∧ u2.cell? ⟨w.heap.size + 2, 0, none⟩ = some (.slice A n ca) ∧ u2.cell? ⟨w.heap.size + 2, 1, none⟩ = some (.int .i64 C) ∧ u2.cell? ⟨w.heap.size + 2, 2, none⟩ = some (.slice Z nz cz) ∧ Hid (Below W.heap.size W u2)) from fun u1 u2 h1 h2 => have h3 := ag h1.out h2; ⟨(HX0.out.below h3).1, (HX0.out.below h3).2.1, (HX0.out.below h3).2.2, (eG.out.below h3).1, (eG.out.below h3).2, (HP0.out.below h3).1, (HP0.out.below h3).2.1, (HP0.out.below h3).2.2, aa h3⟩)
 have hR : Hid (Below W.heap.size W W) := aa (Below.refl _ _)
 have HW := aa hW
 clear hW hv hY hB hA hZ
 go_in
 go_wp2_with fail
 rw [HW.out]
 go_region_held3 (fun w' => w'.cell? ⟨w.heap.size, 0, none⟩ = some (.int .i64 P) ∧ w'.cell? ⟨w.heap.size, 1, none⟩ = some (.int .i64 Q) ∧ w'.cell? ⟨w.heap.size, 2, none⟩ = some (.int .i64 G) ∧ w'.cell? ⟨w.heap.size + 1, 0, none⟩ = some (.slice Y n yc) ∧ w'.cell? ⟨w.heap.size + 1, 1, none⟩ = some (.slice B n bc) ∧ w'.cell? ⟨w.heap.size + 2, 0, none⟩ = some (.slice A n ca) ∧ w'.cell? ⟨w.heap.size + 2, 1, none⟩ = some (.int .i64 C) ∧ w'.cell? ⟨w.heap.size + 2, 2, none⟩ = some (.slice Z nz cz) ∧ Hid (Below W.heap.size W w'))
  (first | exact hS.out _ _ hR ((Below.refl W.heap.size W).drew) | (go_split_ands; exact hS.out _ _ (by assumption) bS) | (go_split_ands; exact hS.out _ _ (by assumption) (af _ _)) | go_keep)
  ((first
   | (go_at_call 238; (with_reducible refine (ko P Q G Y ys n yc B rows n bc true lq hyn hbn hQ _ ?_ ?_ ?_).mono ?_); (go_split_ands; exact hOV.out _ (by assumption)); (go_split_ands; exact hOY.out _ (by assumption)); (go_split_ands; exact VO.out _ (by assumption)); rintro e wA ⟨rfl, bS⟩)
   | (go_at_call 239; (with_reducible refine (kQ Y n yc B rows n bc nz hbn hnp HN _ ?_).mono ?_); (go_split_ands; exact VO.out _ (by assumption)); rintro e wA ⟨rfl, bS⟩)
   | (go_at_call 240; (with_reducible refine (lI P Q G Z zs nz cz true Hl hzn (aa (by omega)) _ ?_).mono ?_); (go_split_ands; exact hOZ.out _ (by assumption)); rintro e wA ⟨rfl, bS⟩)
   | (go_at_call 240; (with_reducible refine (lI P Q G (some ⟨wA.heap.size, 0, none⟩) [C] 1 1 true QS (aa rfl) (aa (by omega)) _ ?_).mono ?_); exact aa (iM (xx wA _ C)); rintro e wA ⟨rfl, bS⟩)))
 rename_i hHeld
 obtain ⟨x0, x1, x2, x3, x4, x5, x6, x7, xE⟩ := hHeld
 clear x0 x1 x2 x3 x4 x5 x6 x7
 obtain ⟨W2, hW2⟩ : ∃ x, x = wA := ⟨_, rfl⟩
 go_wp2
 go_region_held3 (fun w' => w'.cell? ⟨w.heap.size, 0, none⟩ = some (.int .i64 P) ∧ w'.cell? ⟨w.heap.size, 1, none⟩ = some (.int .i64 Q) ∧ w'.cell? ⟨w.heap.size, 2, none⟩ = some (.int .i64 G) ∧ w'.cell? ⟨w.heap.size + 1, 0, none⟩ = some (.slice Y n yc) ∧ w'.cell? ⟨w.heap.size + 1, 1, none⟩ = some (.slice B n bc) ∧ w'.cell? ⟨w.heap.size + 2, 0, none⟩ = some (.slice A n ca) ∧ w'.cell? ⟨w.heap.size + 2, 1, none⟩ = some (.int .i64 C) ∧ w'.cell? ⟨w.heap.size + 2, 2, none⟩ = some (.slice Z nz cz) ∧ Hid (Below W.heap.size W w'))
  (first | exact hS.out _ _ xE ((Below.refl _ _).drew) | (go_split_ands; exact hS.out _ _ (by assumption) bS) | go_keep)
  ((first
   | (go_at_call 242; (with_reducible refine (PT P Q G Y ys yc B rows n bc C Z zs nz cz lq hyn hbn hzn hlen Hl hc0 hc1 hQ _ ?_ ?_ ?_).mono ?_); (go_split_ands; exact hOY.out _ (by assumption)); (go_split_ands; exact VO.out _ (by assumption)); (go_split_ands; exact hOZ.out _ (by assumption)); rintro e wA ⟨g, cap, rfl, hcA, bS⟩)
   | (go_at_call 241; (with_reducible refine (UJ g n cap (wO P Q C ys rows zs) A al n ca hsl eu hnp (by omega) (by omega) _ hcA ?_).mono ?_); (go_split_ands; exact hOA.out _ (by assumption)); rintro e wA ⟨rfl, bS⟩)))
 rename_i hHeld
 obtain ⟨x0, x1, x2, x3, x4, x5, x6, x7, fM⟩ := hHeld
 have bV := ag aj.out fM.out
 clear x0 x1 x2 x3 x4 x5 x6 x7
 go_wp2
 go_ret
 exact ⟨by first | (rw [hr.out]; done) | (rw [hr.out]; rfl) | (rw [hr.out]; simp) | (simp [hr.out]; done), bV⟩
def XI (s : Nat) : List Row := [⟨some ⟨s + 1 + 1, 0, none⟩, 1, 1, [2]⟩, ⟨some ⟨s + 1 + 1 + 1, 0, none⟩, 1, 1, [4]⟩]
def VI (w : World) (s : Nat) : Prop := oV w s 23 11 4 ∧ Sl w (some ⟨s + 1, 0, none⟩) [8, 18] ∧ Rw w (some ⟨s + 1 + 1 + 1 + 1, 0, none⟩) (XI s) ∧ qD w (s + 1 + 1 + 1 + 1 + 1) (.slice (some ⟨s + 1, 0, none⟩) 2 2) (.slice (some ⟨s + 1 + 1 + 1 + 1, 0, none⟩) 2 2)
theorem VI.below {w w' : World} {s : Nat} (h : VI w s) (hb : Below w.heap.size w w') : VI w' s := ⟨h.1.below hb, h.2.1.below hb, h.2.2.1.below hb, h.2.2.2.below hb⟩
theorem Sl.set {w : World} {A : Option Addr} {xs : List Int} {a : Nat} {j : Nat} {v : Value} (h : Sl w A xs) (hne : ∀ b o, A = some ⟨b, o, none⟩ → 0 < xs.length → b ≠ a) : Sl (w.setCell ⟨a, j, none⟩ v) A xs := fun k hk => by
 obtain ⟨b, o, e, hc⟩ := h k hk
 refine ⟨b, o, e, ?_⟩
 have := hne b o e (by omega)
 rw [World.cell?_setCell_far _ _ _ _ (fun e => this e.symm)]
 exact hc
theorem JU (P Q G : Int) (Y : Option Addr) (ys : List Int) (n yc : Nat) (B : Option Addr) (rows : List Row) (bc : Nat) (A : Option Addr) (al : List Int) (na ca : Nat) (C : Int) (Z : Option Addr) (zs : List Int) (nz cz : Nat) (lq : Hid (eZ P Q G ys rows = true)) (hyn : Hid (ys.length = n)) (hbn : Hid (rows.length = n)) (eu : Hid (al.length = na)) (hzn : Hid (zs.length = nz)) (hna : na < 1000000) (hnz : nz < 1000000) (hQ : Q < 9223372036854775808) (hne : na ≠ n) (w : World) (hv : Hid (Vars w)) (hY : Hid (Sl w Y ys)) (hB : Hid (Rw w B rows)) (hA : Hid (Sl w A al)) (hZ : Hid (Sl w Z zs)) :
  Calls Tryz.prog 222 #[gv P Q G, ig Y n yc B n bc, iO A na ca C Z nz cz] w (Rt w (.bool false)) := by
 obtain ⟨v1, v2, v3, v4, v5, v6, v7, v8⟩ := bM lq.out
 have hnp : 0 < n := by rw [← hyn.out]; omega
 obtain ⟨nu, hnu⟩ : ∃ k, gD rows = k := ⟨_, rfl⟩
 have HN := aa hnu
 clear v1 v2 v3 v4 v5 v6 v7 v8 hnu
 have e1 : ((na : Int) != (n : Int)) = true := by simp; omega
 obtain ⟨w0, HW, aj, kC⟩ := sW (bq P Q G) fE (jI Y n yc B n bc) rq (fe A na ca C Z nz cz) qz w
 have kV := mkV aj hv
 have kY := mkS aj hY
 have kB := fq (fun u => Rw u B rows) aj hB (·.below)
 have kA := mkS aj hA
 have kZ := mkS aj hZ
 have ah := bP w0
 clear hv hY hB hA hZ
 go_in
 go_wp2_with fail
 rw [HW.out]
 have hO := kC
 refine iW [] ah (fun hHeld => ?_)
 refine aL 0 ?_
 refine aL 1 ?_
 refine bY 2 fun K hK => ?_
 go_simp
 (with_reducible refine (ko P Q G Y ys n yc B rows n bc true lq hyn hbn hQ _ ?_ ?_ ?_).mono ?_); (go_split_ands; exact kV.out _ (by assumption)); (go_split_ands; exact kY.out _ (by assumption)); (go_split_ands; exact kB.out _ (by assumption)); rintro e wA ⟨rfl, bS⟩
 refine hK.out _ _ (bF hHeld bS) (fun hHeld => ?_)
 clear hK K
 try simp only [qq]
 refine aU 3 4 5 6 ?_
 refine aU 7 8 9 10 ?_
 refine aL 11 ?_
 refine aL 12 ?_
 refine aL 13 ?_
 refine ek 14 15 16 17 ?_
 refine jD 18 ?_
 refine jD 19 ?_
 refine aL 20 ?_
 refine aL 21 ?_
 refine ek 22 23 24 25 ?_
 refine jD 26 ?_
 refine jD 27 ?_
 refine aL 28 ?_
 refine aL 29 ?_
 refine ek 30 31 32 33 ?_
 refine jD 34 ?_
 refine aL 35 ?_
 refine gH ?_
 have fM := hHeld
 have bV := ag aj.out fM.out
 go_wp2
 go_ret
 exact ⟨rfl, bV⟩
theorem JS (P Q G : Int) (Y : Option Addr) (ys : List Int) (n yc : Nat) (B : Option Addr) (rows : List Row) (bc : Nat) (A : Option Addr) (al : List Int) (na ca : Nat) (C : Int) (Z : Option Addr) (zs : List Int) (nz cz : Nat) (lq : Hid (eZ P Q G ys rows = true)) (hyn : Hid (ys.length = n)) (hbn : Hid (rows.length = n)) (eu : Hid (al.length = na)) (hzn : Hid (zs.length = nz)) (hna : na < 1000000) (hnz : nz < 1000000) (hQ : Q < 9223372036854775808) (heq : na = n) (hne : nz ≠ gD rows) (w : World) (hv : Hid (Vars w)) (hY : Hid (Sl w Y ys)) (hB : Hid (Rw w B rows)) (hA : Hid (Sl w A al)) (hZ : Hid (Sl w Z zs)) :
  Calls Tryz.prog 222 #[gv P Q G, ig Y n yc B n bc, iO A na ca C Z nz cz] w (Rt w (.bool false)) := by
 obtain ⟨v1, v2, v3, v4, v5, v6, v7, v8⟩ := bM lq.out
 have hnp : 0 < n := by rw [← hyn.out]; omega
 obtain ⟨nu, hnu⟩ : ∃ k, gD rows = k := ⟨_, rfl⟩
 have HN := aa hnu
 clear v1 v2 v3 v4 v5 v6 v7 v8 hnu
 have e1 : ((na : Int) != (n : Int)) = false := by simp; omega
 have e2 : ((nz : Int) != (nu : Int)) = true := by have := HN.out; simp; omega
 clear heq hne
 obtain ⟨w0, HW, aj, kC⟩ := sW (bq P Q G) fE (jI Y n yc B n bc) rq (fe A na ca C Z nz cz) qz w
 have kV := mkV aj hv
 have kY := mkS aj hY
 have kB := fq (fun u => Rw u B rows) aj hB (·.below)
 have kA := mkS aj hA
 have kZ := mkS aj hZ
 have ah := bP w0
 clear hv hY hB hA hZ
 go_in
 go_wp2_with fail
 rw [HW.out]
 have hO := kC
 refine iW [] ah (fun hHeld => ?_)
 refine aL 0 ?_
 refine aL 1 ?_
 refine bY 2 fun K hK => ?_
 go_simp
 (with_reducible refine (ko P Q G Y ys n yc B rows n bc true lq hyn hbn hQ _ ?_ ?_ ?_).mono ?_); (go_split_ands; exact kV.out _ (by assumption)); (go_split_ands; exact kY.out _ (by assumption)); (go_split_ands; exact kB.out _ (by assumption)); rintro e wA ⟨rfl, bS⟩
 refine hK.out _ _ (bF hHeld bS) (fun hHeld => ?_)
 clear hK K
 try simp only [qq]
 refine aU 3 4 5 6 ?_
 refine aU 7 8 9 10 ?_
 refine aU 11 12 13 14 ?_
 refine aL 15 ?_
 refine aL 16 ?_
 refine aL 17 ?_
 refine bY 18 fun K hK => ?_
 go_simp
 (with_reducible refine (kQ Y n yc B rows n bc nu hbn hnp HN _ ?_).mono ?_); (go_split_ands; exact kB.out _ (by assumption)); rintro e wA ⟨rfl, bS⟩
 refine hK.out _ _ (bF hHeld bS) (fun hHeld => ?_)
 clear hK K
 try simp only [qq]
 refine aL 19 ?_
 refine aL 20 ?_
 refine aL 21 ?_
 refine ek 22 23 24 25 ?_
 refine jD 26 ?_
 refine jD 27 ?_
 refine aL 28 ?_
 refine aL 29 ?_
 refine ek 30 31 32 33 ?_
 refine jD 34 ?_
 refine aL 35 ?_
 refine gH ?_
 have fM := hHeld
 have bV := ag aj.out fM.out
 go_wp2
 go_ret
 exact ⟨rfl, bV⟩
theorem JR (P Q G : Int) (Y : Option Addr) (ys : List Int) (n yc : Nat) (B : Option Addr) (rows : List Row) (bc : Nat) (A : Option Addr) (al : List Int) (na ca : Nat) (C : Int) (Z : Option Addr) (zs : List Int) (nz cz : Nat) (lq : Hid (eZ P Q G ys rows = true)) (hyn : Hid (ys.length = n)) (hbn : Hid (rows.length = n)) (eu : Hid (al.length = na)) (hzn : Hid (zs.length = nz)) (hna : na < 1000000) (hnz : nz < 1000000) (hQ : Q < 9223372036854775808) (heq : na = n) (heq2 : nz = gD rows) (hc : jV Q C = false) (w : World) (hv : Hid (Vars w)) (hY : Hid (Sl w Y ys)) (hB : Hid (Rw w B rows)) (hA : Hid (Sl w A al)) (hZ : Hid (Sl w Z zs)) :
  Calls Tryz.prog 222 #[gv P Q G, ig Y n yc B n bc, iO A na ca C Z nz cz] w (Rt w (.bool false)) := by
 obtain ⟨v1, v2, v3, v4, v5, v6, v7, v8⟩ := bM lq.out
 have hnp : 0 < n := by rw [← hyn.out]; omega
 obtain ⟨nu, hnu⟩ : ∃ k, gD rows = k := ⟨_, rfl⟩
 have HN := aa hnu
 clear v1 v2 v3 v4 v5 v6 v7 v8 hnu
 have e1 : ((na : Int) != (n : Int)) = false := by simp; omega
 have e2 : ((nz : Int) != (nu : Int)) = false := by have := HN.out; simp; omega
 clear heq heq2
 have QS : Hid ([C].all (jV Q) = false) := aa (by simpa using hc)
 clear hc
 obtain ⟨w0, HW, aj, kC⟩ := sW (bq P Q G) fE (jI Y n yc B n bc) rq (fe A na ca C Z nz cz) qz w
 have kV := mkV aj hv
 have kY := mkS aj hY
 have kB := fq (fun u => Rw u B rows) aj hB (·.below)
 have kA := mkS aj hA
 have kZ := mkS aj hZ
 have ah := bP w0
 clear hv hY hB hA hZ
 go_in
 go_wp2_with fail
 rw [HW.out]
 have hO := kC
 refine iW [] ah (fun hHeld => ?_)
 refine aL 0 ?_
 refine aL 1 ?_
 refine bY 2 fun K hK => ?_
 go_simp
 (with_reducible refine (ko P Q G Y ys n yc B rows n bc true lq hyn hbn hQ _ ?_ ?_ ?_).mono ?_); (go_split_ands; exact kV.out _ (by assumption)); (go_split_ands; exact kY.out _ (by assumption)); (go_split_ands; exact kB.out _ (by assumption)); rintro e wA ⟨rfl, bS⟩
 refine hK.out _ _ (bF hHeld bS) (fun hHeld => ?_)
 clear hK K
 try simp only [qq]
 refine aU 3 4 5 6 ?_
 refine aU 7 8 9 10 ?_
 refine aU 11 12 13 14 ?_
 refine aL 15 ?_
 refine aL 16 ?_
 refine aL 17 ?_
 refine bY 18 fun K hK => ?_
 go_simp
 (with_reducible refine (kQ Y n yc B rows n bc nu hbn hnp HN _ ?_).mono ?_); (go_split_ands; exact kB.out _ (by assumption)); rintro e wA ⟨rfl, bS⟩
 refine hK.out _ _ (bF hHeld bS) (fun hHeld => ?_)
 clear hK K
 try simp only [qq]
 refine aU 19 20 21 22 ?_
 refine aL 23 ?_
 refine aL 24 ?_
 refine bY 25 fun K hK => ?_
 go_simp
 refine hK.out _ _ (bF hHeld (af _ _)) (fun hHeld => ?_)
 clear hK K
 try simp only [qq]
 refine bY 26 fun K hK => ?_
 go_simp
 (with_reducible refine (lI P Q G (some ⟨wA.heap.size, 0, none⟩) [C] 1 1 false QS (aa rfl) (aa (by omega)) _ (aa (iM (xx wA _ C)))).mono ?_); rintro e wB ⟨rfl, bS⟩
 refine hK.out _ _ (bF hHeld bS) (fun hHeld => ?_)
 clear hK K
 try simp only [qq]
 refine aL 27 ?_
 refine aL 28 ?_
 refine aL 29 ?_
 refine ek 30 31 32 33 ?_
 refine jD 34 ?_
 refine aL 35 ?_
 refine gH ?_
 have fM := hHeld
 have bV := ag aj.out fM.out
 go_wp2
 go_ret
 exact ⟨rfl, bV⟩
theorem JQ (P Q G : Int) (Y : Option Addr) (ys : List Int) (n yc : Nat) (B : Option Addr) (rows : List Row) (bc : Nat) (A : Option Addr) (al : List Int) (na ca : Nat) (C : Int) (Z : Option Addr) (zs : List Int) (nz cz : Nat) (lq : Hid (eZ P Q G ys rows = true)) (hyn : Hid (ys.length = n)) (hbn : Hid (rows.length = n)) (eu : Hid (al.length = na)) (hzn : Hid (zs.length = nz)) (hna : na < 1000000) (hnz : nz < 1000000) (hQ : Q < 9223372036854775808) (heq : na = n) (heq2 : nz = gD rows) (hc : jV Q C = true) (Hl : Hid (zs.all (jV Q) = false)) (w : World) (hv : Hid (Vars w)) (hY : Hid (Sl w Y ys)) (hB : Hid (Rw w B rows)) (hA : Hid (Sl w A al)) (hZ : Hid (Sl w Z zs)) :
  Calls Tryz.prog 222 #[gv P Q G, ig Y n yc B n bc, iO A na ca C Z nz cz] w (Rt w (.bool false)) := by
 obtain ⟨v1, v2, v3, v4, v5, v6, v7, v8⟩ := bM lq.out
 have hnp : 0 < n := by rw [← hyn.out]; omega
 obtain ⟨nu, hnu⟩ : ∃ k, gD rows = k := ⟨_, rfl⟩
 have HN := aa hnu
 clear v1 v2 v3 v4 v5 v6 v7 v8 hnu
 have e1 : ((na : Int) != (n : Int)) = false := by simp; omega
 have e2 : ((nz : Int) != (nu : Int)) = false := by have := HN.out; simp; omega
 clear heq heq2
 have QS : Hid ([C].all (jV Q) = true) := aa (by simpa using hc)
 clear hc
 obtain ⟨w0, HW, aj, kC⟩ := sW (bq P Q G) fE (jI Y n yc B n bc) rq (fe A na ca C Z nz cz) qz w
 have kV := mkV aj hv
 have kY := mkS aj hY
 have kB := fq (fun u => Rw u B rows) aj hB (·.below)
 have kA := mkS aj hA
 have kZ := mkS aj hZ
 have ah := bP w0
 clear hv hY hB hA hZ
 go_in
 go_wp2_with fail
 rw [HW.out]
 have hO := kC
 refine iW [] ah (fun hHeld => ?_)
 refine aL 0 ?_
 refine aL 1 ?_
 refine bY 2 fun K hK => ?_
 go_simp
 (with_reducible refine (ko P Q G Y ys n yc B rows n bc true lq hyn hbn hQ _ ?_ ?_ ?_).mono ?_); (go_split_ands; exact kV.out _ (by assumption)); (go_split_ands; exact kY.out _ (by assumption)); (go_split_ands; exact kB.out _ (by assumption)); rintro e wA ⟨rfl, bS⟩
 refine hK.out _ _ (bF hHeld bS) (fun hHeld => ?_)
 clear hK K
 try simp only [qq]
 refine aU 3 4 5 6 ?_
 refine aU 7 8 9 10 ?_
 refine aU 11 12 13 14 ?_
 refine aL 15 ?_
 refine aL 16 ?_
 refine aL 17 ?_
 refine bY 18 fun K hK => ?_
 go_simp
 (with_reducible refine (kQ Y n yc B rows n bc nu hbn hnp HN _ ?_).mono ?_); (go_split_ands; exact kB.out _ (by assumption)); rintro e wA ⟨rfl, bS⟩
 refine hK.out _ _ (bF hHeld bS) (fun hHeld => ?_)
 clear hK K
 try simp only [qq]
 refine aU 19 20 21 22 ?_
 refine aL 23 ?_
 refine aL 24 ?_
 refine bY 25 fun K hK => ?_
 go_simp
 refine hK.out _ _ (bF hHeld (af _ _)) (fun hHeld => ?_)
 clear hK K
 try simp only [qq]
 refine bY 26 fun K hK => ?_
 go_simp
 (with_reducible refine (lI P Q G (some ⟨wA.heap.size, 0, none⟩) [C] 1 1 true QS (aa rfl) (aa (by omega)) _ (aa (iM (xx wA _ C)))).mono ?_); rintro e wB ⟨rfl, bS⟩
 refine hK.out _ _ (bF hHeld bS) (fun hHeld => ?_)
 clear hK K
 try simp only [qq]
 refine aU 27 28 29 30 ?_
 refine aL 31 ?_
 refine aL 32 ?_
 refine bY 33 fun K hK => ?_
 go_simp
 (with_reducible refine (lI P Q G Z zs nz cz false Hl hzn (aa hnz) _ ?_).mono ?_); (go_split_ands; exact kZ.out _ (by assumption)); rintro e wA ⟨rfl, bS⟩
 refine hK.out _ _ (bF hHeld bS) (fun hHeld => ?_)
 clear hK K
 try simp only [qq]
 refine aL 34 ?_
 refine aL 35 ?_
 refine gH ?_
 have fM := hHeld
 have bV := ag aj.out fM.out
 go_wp2
 go_ret
 exact ⟨rfl, bV⟩
def gX (P Q C : Int) (ys : List Int) (rows : List Row) (al zs : List Int) : Bool := decide (al.length = rows.length) && (decide (zs.length = gD rows) && (jV Q C && (zs.all (jV Q) && (wO P Q C ys rows zs == al))))
theorem qx {P Q C : Int} {ys : List Int} {rows : List Row} {al zs : List Int} (h : gX P Q C ys rows al zs = true) : al.length = rows.length ∧ zs.length = gD rows ∧ jV Q C = true ∧ zs.all (jV Q) = true ∧ wO P Q C ys rows zs = al := by
 simp only [gX, Bool.and_eq_true, decide_eq_true_eq] at h
 exact ⟨h.1, h.2.1, h.2.2.1, h.2.2.2.1, by simpa using h.2.2.2.2⟩
theorem Ei (P Q G : Int) (Y : Option Addr) (ys : List Int) (n yc : Nat) (B : Option Addr) (rows : List Row) (bc : Nat) (A : Option Addr) (al : List Int) (na ca : Nat) (C : Int) (Z : Option Addr) (zs : List Int) (nz cz : Nat) (lq : Hid (eZ P Q G ys rows = true)) (hyn : Hid (ys.length = n)) (hbn : Hid (rows.length = n)) (eu : Hid (al.length = na)) (hzn : Hid (zs.length = nz)) (hna : na < 1000000) (hnz : nz < 1000000) (hQ : Q < 9223372036854775808) (r : Bool) (hr : Hid (gX P Q C ys rows al zs = r)) (w : World) (hv : Hid (Vars w)) (hY : Hid (Sl w Y ys)) (hB : Hid (Rw w B rows)) (hA : Hid (Sl w A al)) (hZ : Hid (Sl w Z zs)) :
  Calls Tryz.prog 222 #[gv P Q G, ig Y n yc B n bc, iO A na ca C Z nz cz] w (Rt w (.bool r)) := by
 by_cases h1 : na = n
 ·
  by_cases h2 : nz = gD rows
  ·
   cases h3 : jV Q C with
   | false =>
    obtain rfl : r = false := by rw [← hr.out]; unfold gX; rw [h3]; simp
    exact JR P Q G Y ys n yc B rows bc A al na ca C Z zs nz cz lq hyn hbn eu hzn hna hnz hQ h1 h2 h3 w hv hY hB hA hZ
   | true =>
    cases h4 : zs.all (jV Q) with
    | false =>
     obtain rfl : r = false := by rw [← hr.out]; unfold gX; rw [h4]; simp
     exact JQ P Q G Y ys n yc B rows bc A al na ca C Z zs nz cz lq hyn hbn eu hzn hna hnz hQ h1 h2 h3 (aa h4) w hv hY hB hA hZ
    | true =>
     subst h1
     refine Gf P Q G Y ys na yc B rows bc A al ca C Z zs nz cz lq hyn hbn eu hzn (by rw [hzn.out]; exact h2) (aa h4) (BR h3) (FN h3) r (aa ?_) hQ w hv hY hB hA hZ
     rw [← hr.out]
     unfold gX
     have e1 : al.length = rows.length := eu.out.trans hbn.out.symm
     have e2 : zs.length = gD rows := hzn.out.trans h2
     rw [decide_eq_true e1, decide_eq_true e2, h3, h4]
     rfl
  ·
   obtain rfl : r = false := by
    rw [← hr.out]; unfold gX
    rw [decide_eq_false (show ¬ zs.length = gD rows by rw [hzn.out]; exact h2)]; simp
   exact JS P Q G Y ys n yc B rows bc A al na ca C Z zs nz cz lq hyn hbn eu hzn hna hnz hQ h1 h2 w hv hY hB hA hZ
 ·
  obtain rfl : r = false := by
   rw [← hr.out]; unfold gX
   rw [decide_eq_false (show ¬ al.length = rows.length by rw [eu.out, hbn.out]; exact h1)]; rfl
  exact JU P Q G Y ys n yc B rows bc A al na ca C Z zs nz cz lq hyn hbn eu hzn hna hnz hQ h1 w hv hY hB hA hZ
theorem JP (P Q G : Int) (Y : Option Addr) (ys : List Int) (yn yc : Nat) (B : Option Addr) (rows : List Row) (bn bc : Nat) (A : Option Addr) (al : List Int) (na ca : Nat) (C : Int) (Z : Option Addr) (zs : List Int) (nz cz : Nat) (hyn : Hid (ys.length = yn)) (hbn : Hid (rows.length = bn)) (eu : Hid (al.length = na)) (hzn : Hid (zs.length = nz)) (hna : na < 1000000) (hnz : nz < 1000000) (hQ : Q < 9223372036854775808) (lq : Hid (eZ P Q G ys rows = false)) (w : World) (hv : Hid (Vars w)) (hY : Hid (Sl w Y ys)) (hB : Hid (Rw w B rows)) (hA : Hid (Sl w A al)) (hZ : Hid (Sl w Z zs)) :
  Calls Tryz.prog 222 #[gv P Q G, ig Y yn yc B bn bc, iO A na ca C Z nz cz] w (Rt w (.bool false)) := by
 obtain ⟨w0, HW, aj, kC⟩ := sW (bq P Q G) fE (jI Y yn yc B bn bc) rq (fe A na ca C Z nz cz) qz w
 have kV := mkV aj hv
 have kY := mkS aj hY
 have kB := fq (fun u => Rw u B rows) aj hB (·.below)
 have kA := mkS aj hA
 have kZ := mkS aj hZ
 have ah := bP w0
 clear hv hY hB hA hZ
 go_in
 go_wp2_with fail
 rw [HW.out]
 have hO := kC
 refine iW [] ah (fun hHeld => ?_)
 refine aL 0 ?_
 refine aL 1 ?_
 refine bY 2 fun K hK => ?_
 go_simp
 (with_reducible refine (ko P Q G Y ys yn yc B rows bn bc false lq hyn hbn hQ _ ?_ ?_ ?_).mono ?_); (go_split_ands; exact kV.out _ (by assumption)); (go_split_ands; exact kY.out _ (by assumption)); (go_split_ands; exact kB.out _ (by assumption)); rintro e wA ⟨rfl, bS⟩
 refine hK.out _ _ (bF hHeld bS) (fun hHeld => ?_)
 clear hK K
 try simp only [qq]
 refine aL 3 ?_
 refine aL 4 ?_
 refine ek 5 6 7 8 ?_
 refine jD 9 ?_
 refine jD 10 ?_
 refine jD 11 ?_
 refine aL 12 ?_
 refine aL 13 ?_
 refine ek 14 15 16 17 ?_
 refine jD 18 ?_
 refine jD 19 ?_
 refine aL 20 ?_
 refine aL 21 ?_
 refine ek 22 23 24 25 ?_
 refine jD 26 ?_
 refine jD 27 ?_
 refine aL 28 ?_
 refine aL 29 ?_
 refine ek 30 31 32 33 ?_
 refine jD 34 ?_
 refine aL 35 ?_
 refine gH ?_
 have fM := hHeld
 have bV := ag aj.out fM.out
 go_wp2
 go_ret
 exact ⟨rfl, bV⟩
def rY (P Q G C : Int) (ys : List Int) (rows : List Row) (al zs : List Int) : Bool := eZ P Q G ys rows && gX P Q C ys rows al zs
theorem zC (P Q G : Int) (Y : Option Addr) (ys : List Int) (yn yc : Nat) (B : Option Addr) (rows : List Row) (bn bc : Nat) (A : Option Addr) (al : List Int) (na ca : Nat) (C : Int) (Z : Option Addr) (zs : List Int) (nz cz : Nat) (hyn : Hid (ys.length = yn)) (hbn : Hid (rows.length = bn)) (eu : Hid (al.length = na)) (hzn : Hid (zs.length = nz)) (hna : na < 1000000) (hnz : nz < 1000000) (hQ : Q < 9223372036854775808) (r : Bool) (hr : Hid (rY P Q G C ys rows al zs = r)) (w : World) (hv : Hid (Vars w)) (hY : Hid (Sl w Y ys)) (hB : Hid (Rw w B rows)) (hA : Hid (Sl w A al)) (hZ : Hid (Sl w Z zs)) :
  Calls Tryz.prog 222 #[gv P Q G, ig Y yn yc B bn bc, iO A na ca C Z nz cz] w (Rt w (.bool r)) := by
 cases hg : eZ P Q G ys rows with
 | false =>
  obtain rfl : r = false := by rw [← hr.out, rY, hg]; rfl
  exact JP P Q G Y ys yn yc B rows bn bc A al na ca C Z zs nz cz hyn hbn eu hzn hna hnz hQ (aa hg) w hv hY hB hA hZ
 | true =>
  have he : bn = yn := by rw [← hbn.out, ← hyn.out]; exact (bM hg).2.2.2.1
  subst he
  exact Ei P Q G Y ys bn yc B rows bc A al na ca C Z zs nz cz (aa hg) hyn hbn eu hzn hna hnz hQ r (aa (by rw [← hr.out, rY, hg]; rfl)) w hv hY hB hA hZ
theorem Jm {P Q G : Int} (h : bg P Q G = true) : uy [P, Q, G] := by
 obtain ⟨h1, h2, h3, h4⟩ := b_ h
 have h5 : 2 ≤ G ∧ G < P := by simp [bg] at h; exact ⟨h.2.2.2.2.2.2.1, h.2.2.2.2.2.2.2.1⟩
 refine ⟨by simp, fun x hx => ?_⟩
 simp at hx
 rcases hx with rfl | rfl | rfl <;> omega
theorem Iz {P Q : Int} {l : List Int} (hP : P < 2305843009213693952) (h : l.all (aW P Q) = true) (hl : l.length ≤ 1000) : uy l :=
 ⟨hl, fun x hx => by
  have h1 := iY (List.all_eq_true.1 h x hx)
  have h2 := iZ (List.all_eq_true.1 h x hx)
  omega⟩
theorem Dy {P Q G : Int} {ys : List Int} {rows : List Row} {w : World} {B : Option Addr} (h : eZ P Q G ys rows = true) (hB : Rw w B rows) :
  uy [P, Q, G] ∧ uy ys ∧ ∀ k, k < rows.length → uy (rows.getD k di).xs := by
 obtain ⟨v1, v2, v3, v4, v5, v6, v7, v8⟩ := bM h
 obtain ⟨h1, h2, h3, h4⟩ := b_ v1
 refine ⟨Jm v1, Iz h2 v5 (by omega), fun k hk => ?_⟩
 have hr := qf v8 hk
 have hl := (hB k hk).2.1
 simp only [nA, Bool.and_eq_true, decide_eq_true_eq] at hr
 exact Iz h2 hr.2 (by omega)
theorem DU {P Q C : Int} {ys : List Int} {rows : List Row} {zs : List Int} (hP0 : 2 ≤ P) (hP : P < 2305843009213693952) (hl : rows.length ≤ 1000) : uy (wO P Q C ys rows zs) :=
 ⟨by rw [gM]; exact hl, fun x hx => by
  obtain ⟨i, _, rfl⟩ := List.mem_map.1 hx
  unfold ze
  have h1 := Int.emod_nonneg (dH P 1 (rows.getD i di).xs zs * pw (ys.getD i 0) ((Q - C) % Q) P) (show P ≠ 0 by omega)
  have h2 := Int.emod_lt_of_pos (dH P 1 (rows.getD i di).xs zs * pw (ys.getD i 0) ((Q - C) % Q) P) (show 0 < P by omega)
  omega⟩
def wI (P Q G C : Int) (lb ys : List Int) (rows : List Row) (al zs : List Int) : Bool := rY P Q G C ys rows al zs && (gU lb && (zO P Q G lb ys rows al == C))
theorem TK (P Q G : Int) (Y : Option Addr) (ys : List Int) (yn yc : Nat) (B : Option Addr) (rows : List Row) (bn bc : Nat) (A : Option Addr) (al : List Int) (na ca : Nat) (C : Int) (Z : Option Addr) (zs : List Int) (nz cz : Nat) (hyn : Hid (ys.length = yn)) (hbn : Hid (rows.length = bn)) (eu : Hid (al.length = na)) (hzn : Hid (zs.length = nz)) (hna : na < 1000000) (hnz : nz < 1000000) (hQ : Q < 9223372036854775808) (s : ByteArray) (hs : s.size ≤ 1000) (HC : Hid (rY P Q G C ys rows al zs = false)) (w : World) (hv : Hid (Vars w)) (hd : Hid (bz w)) (hY : Hid (Sl w Y ys)) (hB : Hid (Rw w B rows)) (hA : Hid (Sl w A al)) (hZ : Hid (Sl w Z zs)) :
  Calls Tryz.prog 201 #[gv P Q G, ig Y yn yc B bn bc, .string s, iO A na ca C Z nz cz] w (Rt w (.bool false)) := by
 obtain ⟨w0, HW, aj, kC⟩ := sW (bq P Q G) fE (jI Y yn yc B bn bc) rq (fe A na ca C Z nz cz) qz w
 have kV := mkV aj hv
 have kY := mkS aj hY
 have kB := fq (fun u => Rw u B rows) aj hB (·.below)
 have kA := mkS aj hA
 have kZ := mkS aj hZ
 have kD := o6 aj hd
 have ah := bP w0
 clear hv hY hB hA hZ hd
 go_in
 go_wp2_with fail
 rw [HW.out]
 have zc := kC.out _ ah
 go_wp2_with fail
 clear zc
 refine eH kC ah (zC P Q G Y ys yn yc B rows bn bc A al na ca C Z zs nz cz hyn hbn eu hzn hna hnz hQ false HC _ (kV.out _ ah) (kY.out _ ah) (kB.out _ ah) (kA.out _ ah) (kZ.out _ ah)) fun w1 ax zc => ?_
 go_wp2
 go_ret
 exact ⟨rfl, gy aj ax⟩
theorem TJ (P Q G : Int) (Y : Option Addr) (ys : List Int) (yn yc : Nat) (B : Option Addr) (rows : List Row) (bn bc : Nat) (A : Option Addr) (al : List Int) (na ca : Nat) (C : Int) (Z : Option Addr) (zs : List Int) (nz cz : Nat) (hyn : Hid (ys.length = yn)) (hbn : Hid (rows.length = bn)) (eu : Hid (al.length = na)) (hzn : Hid (zs.length = nz)) (hna : na < 1000000) (hnz : nz < 1000000) (hQ : Q < 9223372036854775808) (s : ByteArray) (hs : s.size ≤ 1000) (HC : Hid (rY P Q G C ys rows al zs = true)) (hr : Hid (gU (aX s) = false)) (xu : bn ≤ 900) (w : World) (hv : Hid (Vars w)) (hd : Hid (bz w)) (hY : Hid (Sl w Y ys)) (hB : Hid (Rw w B rows)) (hA : Hid (Sl w A al)) (hZ : Hid (Sl w Z zs)) :
  Calls Tryz.prog 201 #[gv P Q G, ig Y yn yc B bn bc, .string s, iO A na ca C Z nz cz] w (Rt w (.bool false)) := by
 obtain ⟨w0, HW, aj, kC⟩ := sW (bq P Q G) fE (jI Y yn yc B bn bc) rq (fe A na ca C Z nz cz) qz w
 have kV := mkV aj hv
 have kY := mkS aj hY
 have kB := fq (fun u => Rw u B rows) aj hB (·.below)
 have kA := mkS aj hA
 have kZ := mkS aj hZ
 have kD := o6 aj hd
 have ah := bP w0
 clear hv hY hB hA hZ hd
 go_in
 go_wp2_with fail
 rw [HW.out]
 have zc := kC.out _ ah
 go_wp2_with fail
 clear zc
 refine eH kC ah (zC P Q G Y ys yn yc B rows bn bc A al na ca C Z zs nz cz hyn hbn eu hzn hna hnz hQ true HC _ (kV.out _ ah) (kY.out _ ah) (kB.out _ ah) (kA.out _ ah) (kZ.out _ ah)) fun w1 ax zc => ?_
 go_wp2_with fail
 clear zc
 refine eH kC ax (JV P Q G Y ys yn yc B rows bn bc A al na ca s hs hr hbn xu _ (kB.out _ ax)) fun w2 aK zc => ?_
 go_wp2
 go_ret
 exact ⟨rfl, gy aj aK⟩
theorem TI (P Q G : Int) (Y : Option Addr) (ys : List Int) (yn yc : Nat) (B : Option Addr) (rows : List Row) (bn bc : Nat) (A : Option Addr) (al : List Int) (na ca : Nat) (C : Int) (Z : Option Addr) (zs : List Int) (nz cz : Nat) (hyn : Hid (ys.length = yn)) (hbn : Hid (rows.length = bn)) (eu : Hid (al.length = na)) (hzn : Hid (zs.length = nz)) (hna : na < 1000000) (hnz : nz < 1000000) (hQ : Q < 9223372036854775808) (s : ByteArray) (hs : s.size ≤ 1000) (HC : Hid (rY P Q G C ys rows al zs = true)) (hr : Hid (gU (aX s) = true)) (xu : bn ≤ 900) (L_ : Hid (uy [P, Q, G])) (L8 : Hid (uy ys)) (Ma : Hid (uy al)) (L9 : Hid (∀ k, k < rows.length → uy (rows.getD k di).xs)) (RD : 2 ≤ Q) (RB : Q < 2305843009213693952) (V : Int) (HV : Kp (zO P Q G (aX s) ys rows al = V)) (w : World) (hv : Hid (Vars w)) (hd : Hid (bz w)) (hY : Hid (Sl w Y ys)) (hB : Hid (Rw w B rows)) (hA : Hid (Sl w A al)) (hZ : Hid (Sl w Z zs)) :
  Calls Tryz.prog 201 #[gv P Q G, ig Y yn yc B bn bc, .string s, iO A na ca C Z nz cz] w (Rt w (.bool (V == C))) := by
 obtain ⟨w0, HW, aj, kC⟩ := sW (bq P Q G) fE (jI Y yn yc B bn bc) rq (fe A na ca C Z nz cz) qz w
 have kV := mkV aj hv
 have kY := mkS aj hY
 have kB := fq (fun u => Rw u B rows) aj hB (·.below)
 have kA := mkS aj hA
 have kZ := mkS aj hZ
 have kD := o6 aj hd
 have ah := bP w0
 clear hv hY hB hA hZ hd
 go_in
 go_wp2_with fail
 rw [HW.out]
 have zc := kC.out _ ah
 go_wp2_with fail
 clear zc
 refine eH kC ah (zC P Q G Y ys yn yc B rows bn bc A al na ca C Z zs nz cz hyn hbn eu hzn hna hnz hQ true HC _ (kV.out _ ah) (kY.out _ ah) (kB.out _ ah) (kA.out _ ah) (kZ.out _ ah)) fun w1 ax zc => ?_
 go_wp2_with fail
 clear zc
 refine eH kC ax (Mj P Q G Y ys yn yc B rows bn bc A al na ca s hs hr hyn hbn eu xu L_ L8 Ma L9 RD RB V HV _ (kD.out _ ax) (kY.out _ ax) (kB.out _ ax) (kA.out _ ax)) fun w2 aK zc => ?_
 go_wp2
 go_ret
 exact ⟨rfl, gy aj aK⟩
theorem Mg (P Q G : Int) (Y : Option Addr) (ys : List Int) (yn yc : Nat) (B : Option Addr) (rows : List Row) (bn bc : Nat) (A : Option Addr) (al : List Int) (na ca : Nat) (C : Int) (Z : Option Addr) (zs : List Int) (nz cz : Nat) (hyn : Hid (ys.length = yn)) (hbn : Hid (rows.length = bn)) (eu : Hid (al.length = na)) (hzn : Hid (zs.length = nz)) (hna : na < 1000000) (hnz : nz < 1000000) (hQ : Q < 9223372036854775808) (s : ByteArray) (hs : s.size ≤ 1000) (r : Bool) (hr : Kp (wI P Q G C (aX s) ys rows al zs = r)) (w : World) (hv : Hid (Vars w)) (hd : Hid (bz w)) (hY : Hid (Sl w Y ys)) (hB : Hid (Rw w B rows)) (hA : Hid (Sl w A al)) (hZ : Hid (Sl w Z zs)) :
  Calls Tryz.prog 201 #[gv P Q G, ig Y yn yc B bn bc, .string s, iO A na ca C Z nz cz] w (Rt w (.bool r)) := by
 cases hc : rY P Q G C ys rows al zs with
 | false =>
  obtain rfl : r = false := by rw [← hr.1, wI, hc]; rfl
  exact TK P Q G Y ys yn yc B rows bn bc A al na ca C Z zs nz cz hyn hbn eu hzn hna hnz hQ s hs (aa hc) w hv hd hY hB hA hZ
 | true =>
  have hcc := hc
  simp only [rY, Bool.and_eq_true] at hcc
  obtain ⟨hg, hcb⟩ := hcc
  obtain ⟨v1, v2, v3, v4, v5, v6, v7, v8⟩ := bM hg
  obtain ⟨p1, p2, p3, p4⟩ := b_ v1
  obtain ⟨L_, L8, L9⟩ := Dy hg hB.out
  have xu : bn ≤ 900 := by rw [← hbn.out]; omega
  have Ma : uy al := by rw [← (qx hcb).2.2.2.2]; exact DU p1 p2 (by omega)
  cases hlb : gU (aX s) with
  | false =>
   obtain rfl : r = false := by rw [← hr.1, wI, hlb, Bool.false_and, Bool.and_false]
   exact TJ P Q G Y ys yn yc B rows bn bc A al na ca C Z zs nz cz hyn hbn eu hzn hna hnz hQ s hs (aa hc) (aa hlb) xu w hv hd hY hB hA hZ
  | true =>
   obtain ⟨V, hV⟩ : ∃ V, zO P Q G (aX s) ys rows al = V := ⟨_, rfl⟩
   obtain rfl : (V == C) = r := by rw [← hr.1, wI, hc, hlb, hV]; rfl
   exact TI P Q G Y ys yn yc B rows bn bc A al na ca C Z zs nz cz hyn hbn eu hzn hna hnz hQ s hs (aa hc) (aa hlb) xu (aa L_) (aa L8) (aa Ma) (aa L9) (by omega) (by omega) V ⟨hV⟩ w hv hd hY hB hA hZ
end Go.Proofs.YtchcllcbknfikaaGreatDoor