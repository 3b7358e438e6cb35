/- Contracts and lemmas: EncE, EncF, EncG, TrA, RdgB, RdgC, RdgD, RdgE, DigG, TrB, TrC, TrD, TrE, TrF. -/
import Derived.Deep.AppendLies
import Derived.Laws.AppendOwnNone
import Derived.Test.YtchcllcbknfikaaGreatDoorTa3
set_option linter.unusedVariables false
set_option linter.unusedSimpArgs false
set_option maxRecDepth 100000
set_option maxHeartbeats 25600000
namespace Go.Proofs.YtchcllcbknfikaaGreatDoor
open Go.RowKit si
theorem H_ {l : List Int} {k : Nat} (h : k < l.length) : (dz (k + 1) ++ l.drop (k + 1)).set k (l.getD k 0) = dz k ++ l.drop k := by
 rw [List.drop_eq_getElem_cons h, dz, List.replicate_succ', List.append_assoc, List.set_append_right _ _ (by rw [List.length_replicate]; exact Nat.le_refl _), List.length_replicate, Nat.sub_self]
 rw [List.getD_eq_getElem?_getD, List.getElem?_eq_getElem h]
 rfl
def NumOut (s : Nat) (n : Int) (w : World) (e : Ending) (w' : World) : Prop := ∃ g cap, e = .returned (.slice (some ⟨g, 0, none⟩) s cap) ∧ Sk .u8 w' (some ⟨g, 0, none⟩) (qB s n) ∧ Below w.heap.size w w'
theorem wR (n : Int) (h0 : 0 ≤ n) (h1 : n < 18446744073709551616) (w : World) : Calls Tryz.prog 182 #[.int .u64 n, .int .i64 4] w (NumOut 4 n w) := by
 obtain ⟨W, hW⟩ : ∃ W, w.alloc (.cells #[.int .u8 0, .int .u8 0, .int .u8 0, .int .u8 0] 5) = W := ⟨_, rfl⟩
 have bT : Hid (Below w.heap.size w W) := aa (by rw [← hW]; exact af _ _)
 have HB0 : Hid (bH .u8 5 W w.heap.size (dz 4 ++ (qB 4 n).drop 4)) := aa (by
  rw [← hW]
  exact bH.new w (dz 4))
 have hmk : ∀ w, (Instr.makeSlice 114 (.int .i64 4) (.int .i64 4)).run Tryz.prog w = .ok (.slice (some ⟨w.heap.size, 0, none⟩) 4 4) (w.alloc (.cells #[.int .u8 0, .int .u8 0, .int .u8 0, .int .u8 0] 5)) := fun _ => by kernel_rfl
 have HW := aa hW
 clear hW
 go_in
 go_wp2
 rw [HW.out]
 clear HW hmk
 go_loopw [0, 6] (fun p i u => ∃ (j : Nat) (x : Int), j ≤ 4 ∧ i = .int .i64 (3 - (j : Int)) ∧ p = .int .u64 x ∧ 0 ≤ x ∧ x ≤ n ∧ Hid (n / 2 ^ (8 * j) = x) ∧ Hid (bH .u8 5 u w.heap.size (dz (4 - j) ++ (qB 4 n).drop (4 - j))) ∧ Hid (Below w.heap.size w u)) (fun _ i _ => (intOf i + 1).toNat)
 case atStart => exact ⟨0, n, by omega, rfl, rfl, h0, Int.le_refl _, aa (by simp), HB0, bT⟩
 case round =>
  obtain ⟨j, x, hj, rfl, rfl, x0, x1, HX, HB, aF⟩ := hrel
  by_cases hlt : j < 4
  ·
   obtain ⟨k, hk⟩ : ∃ k, 3 - j = k := ⟨_, rfl⟩
   have hkk : 4 - j = k + 1 := by omega
   have hkl : k < (qB 4 n).length := by rw [jb (by omega)]; omega
   rw [hkk] at HB
   have hc := HB.out.cell (j := k) (by rw [List.length_append, dz, List.length_replicate]; omega)
   have hf := HB.out.free k
   have hst := H_ hkl
   rw [CV (by omega) n k (by omega), show 8 * (4 - 1 - k) = 8 * j by omega, HX.out] at hst
   have Aj : Hid (n / 2 ^ (8 * (j + 1)) = x / 256) := aa (by
    rw [← HX.out, show 8 * (j + 1) = 8 * j + 8 by omega, Int.pow_add, ← Int.ediv_ediv_of_nonneg (Int.le_of_lt (Int.pow_pos (by decide)))]
    rfl)
   have d1 : (0 : Int) ≤ 3 - (j : Int) := by omega
   have d2 : (3 - (j : Int)).toNat = k := by omega
   have d3 : 3 - (j : Int) < 4 := by omega
   have y0 : 0 ≤ x / 256 := Int.ediv_nonneg x0 (by decide)
   have y1 : x / 256 ≤ n := by omega
   obtain ⟨WV, Dp⟩ : ∃ u, wr.setCell ⟨w.heap.size, k, none⟩ (.int .u8 (x % 256)) = u := ⟨_, rfl⟩
   have HB2 : Hid (bH .u8 5 WV w.heap.size (dz (4 - (j + 1)) ++ (qB 4 n).drop (4 - (j + 1)))) := aa (by
    rw [← Dp, show 4 - (j + 1) = k by omega, ← hst]
    exact HB.out.set)
   have Db : Hid (Below w.heap.size w WV) := aa (by rw [← Dp]; exact aF.out.setCell (Nat.le_refl _) _)
   have Yk := aa Dp
   clear hst HB aF Dp hkl hk
   go_wp2
   try go_region
   try rw [Yk.out]
   clear hc hf
   go_wp2
   go_roundw
   case rel => exact ⟨j + 1, _, by omega, by go_num, rfl, y0, y1, Aj, HB2, Db⟩
   case measure => simp [intOf]; omega
  ·
   have Kv : Hid (bH .u8 5 wr w.heap.size (qB 4 n)) := aa (by
    have h := HB.out
    rwa [show 4 - j = 0 by omega] at h)
   have d1 : 3 - (j : Int) < 0 := by omega
   clear HB
   go_wp2
   go_ret
   exact ⟨_, _, rfl, Kv.out.sk, aF.out⟩
theorem Ju (n : Int) (h0 : 0 ≤ n) (h1 : n < 18446744073709551616) (w : World) : Calls Tryz.prog 182 #[.int .u64 n, .int .i64 8] w (NumOut 8 n w) := by
 obtain ⟨W, hW⟩ : ∃ W, w.alloc (.cells #[.int .u8 0, .int .u8 0, .int .u8 0, .int .u8 0, .int .u8 0, .int .u8 0, .int .u8 0, .int .u8 0] 5) = W := ⟨_, rfl⟩
 have bT : Hid (Below w.heap.size w W) := aa (by rw [← hW]; exact af _ _)
 have HB0 : Hid (bH .u8 5 W w.heap.size (dz 8 ++ (qB 8 n).drop 8)) := aa (by
  rw [← hW]
  exact bH.new w (dz 8))
 have hmk : ∀ w, (Instr.makeSlice 114 (.int .i64 8) (.int .i64 8)).run Tryz.prog w = .ok (.slice (some ⟨w.heap.size, 0, none⟩) 8 8) (w.alloc (.cells #[.int .u8 0, .int .u8 0, .int .u8 0, .int .u8 0, .int .u8 0, .int .u8 0, .int .u8 0, .int .u8 0] 5)) := fun _ => by kernel_rfl
 have HW := aa hW
 clear hW
 go_in
 go_wp2
 rw [HW.out]
 clear HW hmk
 go_loopw [0, 6] (fun p i u => ∃ (j : Nat) (x : Int), j ≤ 8 ∧ i = .int .i64 (7 - (j : Int)) ∧ p = .int .u64 x ∧ 0 ≤ x ∧ x ≤ n ∧ Hid (n / 2 ^ (8 * j) = x) ∧ Hid (bH .u8 5 u w.heap.size (dz (8 - j) ++ (qB 8 n).drop (8 - j))) ∧ Hid (Below w.heap.size w u)) (fun _ i _ => (intOf i + 1).toNat)
 case atStart => exact ⟨0, n, by omega, rfl, rfl, h0, Int.le_refl _, aa (by simp), HB0, bT⟩
 case round =>
  obtain ⟨j, x, hj, rfl, rfl, x0, x1, HX, HB, aF⟩ := hrel
  by_cases hlt : j < 8
  ·
   obtain ⟨k, hk⟩ : ∃ k, 7 - j = k := ⟨_, rfl⟩
   have hkk : 8 - j = k + 1 := by omega
   have hkl : k < (qB 8 n).length := by rw [jb (by omega)]; omega
   rw [hkk] at HB
   have hc := HB.out.cell (j := k) (by rw [List.length_append, dz, List.length_replicate]; omega)
   have hf := HB.out.free k
   have hst := H_ hkl
   rw [CV (by omega) n k (by omega), show 8 * (8 - 1 - k) = 8 * j by omega, HX.out] at hst
   have Aj : Hid (n / 2 ^ (8 * (j + 1)) = x / 256) := aa (by
    rw [← HX.out, show 8 * (j + 1) = 8 * j + 8 by omega, Int.pow_add, ← Int.ediv_ediv_of_nonneg (Int.le_of_lt (Int.pow_pos (by decide)))]
    rfl)
   have d1 : (0 : Int) ≤ 7 - (j : Int) := by omega
   have d2 : (7 - (j : Int)).toNat = k := by omega
   have d3 : 7 - (j : Int) < 8 := by omega
   have y0 : 0 ≤ x / 256 := Int.ediv_nonneg x0 (by decide)
   have y1 : x / 256 ≤ n := by omega
   obtain ⟨WV, Dp⟩ : ∃ u, wr.setCell ⟨w.heap.size, k, none⟩ (.int .u8 (x % 256)) = u := ⟨_, rfl⟩
   have HB2 : Hid (bH .u8 5 WV w.heap.size (dz (8 - (j + 1)) ++ (qB 8 n).drop (8 - (j + 1)))) := aa (by
    rw [← Dp, show 8 - (j + 1) = k by omega, ← hst]
    exact HB.out.set)
   have Db : Hid (Below w.heap.size w WV) := aa (by rw [← Dp]; exact aF.out.setCell (Nat.le_refl _) _)
   have Yk := aa Dp
   clear hst HB aF Dp hkl hk
   go_wp2
   try go_region
   try rw [Yk.out]
   clear hc hf
   go_wp2
   go_roundw
   case rel => exact ⟨j + 1, _, by omega, by go_num, rfl, y0, y1, Aj, HB2, Db⟩
   case measure => simp [intOf]; omega
  ·
   have Kv : Hid (bH .u8 5 wr w.heap.size (qB 8 n)) := aa (by
    have h := HB.out
    rwa [show 8 - j = 0 by omega] at h)
   have d1 : 7 - (j : Int) < 0 := by omega
   clear HB
   go_wp2
   go_ret
   exact ⟨_, _, rfl, Kv.out.sk, aF.out⟩
theorem Ld (c : Ic) (w : World) (D : Nat) (h1 : c.kind = 1) (h3 : c.nb = 0) (h4 : c.nl = 0) : Calls Tryz.prog 272 #[c.val, .int .i64 (D : Int)] w (Rt w (.bool true)) := by
 obtain ⟨kd, nn, B, nb, cb, L, nl, cl⟩ := c
 dsimp only at h1 h3 h4
 subst h1; subst h3; subst h4
 show Calls Tryz.prog 272 #[.agg #[.int .i64 1, .int .i64 nn, .slice B 0 cb, .slice L 0 cl], .int .i64 (D : Int)] w (Rt w (.bool true))
 go_in
 go_wp2
 go_ret
 exact ⟨rfl, af _ _⟩
theorem Le (c : Ic) (w : World) (D : Nat) (h1 : c.kind = 2) (h2 : c.n = 0) (h4 : c.nl = 0) : Calls Tryz.prog 272 #[c.val, .int .i64 (D : Int)] w (Rt w (.bool true)) := by
 obtain ⟨kd, nn, B, nb, cb, L, nl, cl⟩ := c
 dsimp only at h1 h2 h4
 subst h1; subst h2; subst h4
 show Calls Tryz.prog 272 #[.agg #[.int .i64 2, .int .i64 0, .slice B nb cb, .slice L 0 cl], .int .i64 (D : Int)] w (Rt w (.bool true))
 go_in
 go_wp2
 go_ret
 exact ⟨rfl, af _ _⟩
theorem SG (l : List It) (n : Nat) (hn : Hid (l.length = n)) (hn1 : n ≤ 1000) (f : Nat → Ic) (B : Option Addr) (cb : Nat) (L : Option Addr) (cl : Nat) (D : Nat) (hD : D < 8) (w : World)
  (h5 : Hid (∀ k, k < l.length → ∃ b o, L = some ⟨b, o, none⟩ ∧ Four w b (o + k * 4) (f k))) (h6 : Hid (∀ k, k < l.length → nV w (l.getD k default) (f k)))
  (ih : ∀ k, k < l.length → ∀ u, Below w.heap.size w u → Calls Tryz.prog 272 #[(f k).val, .int .i64 ((D + 1 : Nat) : Int)] u fun e w' => e = .returned (.bool true) ∧ Below u.heap.size u w') :
  Calls Tryz.prog 272 #[.agg #[.int .i64 3, .int .i64 0, .slice B 0 cb, .slice L n cl], .int .i64 (D : Int)] w (Rt w (.bool true)) := by
 have Hy := aa ih
 clear ih
 obtain ⟨W, hW⟩ : ∃ W, w.alloc (.cells #[.int .i64 3, .int .i64 0, .slice B 0 cb, .slice L n cl] 117) = W := ⟨_, rfl⟩
 have bT : Hid (Below w.heap.size w W) := aa (by rw [← hW]; exact af _ _)
 have HF : Hid (Four W w.heap.size 0 ⟨3, 0, B, 0, cb, L, n, cl⟩) := aa (by rw [← hW]; exact gW w ⟨3, 0, B, 0, cb, L, n, cl⟩)
 have HW := aa hW
 have d1 : decide ((1000 : Int) < (n : Int)) = false := by simp; omega
 have d2 : ((D : Int) == 8) = false := by simp; omega
 have HD : Hid (((D + 1 : Nat) : Int) = (D : Int) + 1) := aa (by omega)
 have afl : IntKind.i64.wrap ((D : Int) + 1) = (D : Int) + 1 := IntWalk.i64_in _ (by omega)
 obtain ⟨c0, c1, c2, c3⟩ := HF.out.get
 clear hW
 go_in
 go_upto_region 1 with (fail)
 rw [HW.out]
 go_wp2
 clear c0 c1 c2 c3
 go_loopw [5] (fun i u => ∃ k : Nat, k ≤ n ∧ i = .int .i64 k ∧ Hid (Below W.heap.size W u)) (fun i _ => n - (intOf i).toNat)
 case atStart => exact ⟨0, by omega, rfl, aa (Below.refl _ _)⟩
 case round =>
  obtain ⟨k, hk, rfl, aF⟩ := hrel
  obtain ⟨c0, c1, c2, c3⟩ := (HF.out.below aF.out).get
  by_cases hlk : k < n
  ·
   have hkl : k < l.length := by rw [hn.out]; exact hlk
   obtain ⟨b, o, hL, h4⟩ := h5.out k hkl
   subst hL
   have hbw := ag bT.out aF.out
   obtain ⟨ic, hic⟩ : ∃ x, f k = x := ⟨_, rfl⟩
   obtain ⟨kd, nn, B', nb, cb', L', nl, cl'⟩ := ic
   have uI := Hy.out k hkl wr hbw
   rw [hic] at h4 uI
   rw [HD.out] at uI
   have HC : Hid (Calls Tryz.prog 272 #[.agg #[.int .i64 kd, .int .i64 nn, .slice B' nb cb', .slice L' nl cl'], .int .i64 ((D : Int) + 1)] wr fun e w' => e = .returned (.bool true) ∧ Below wr.heap.size wr w') := aa uI
   obtain ⟨W_, W9, WZ, WY⟩ := (h4.below hbw).get
   clear hkl h4 hbw hic uI
   go_wp2_with fail
   refine HC.out.mono ?_
   rintro e w5 ⟨rfl, hb5⟩
   have jZ := aa (ag aF.out hb5)
   clear hb5 HC W_ W9 WZ WY c0 c1 c2 c3
   go_wp2
   go_roundw
   case rel => exact ⟨k + 1, by omega, by go_num, jZ⟩
   case measure => simp [intOf]; omega
  ·
   have hbf := ag bT.out aF.out
   go_wp2
   go_ret
   exact ⟨rfl, hbf⟩
theorem Lf : ∀ (d D : Nat), d + D ≤ 8 → ∀ (i : It) (c : Ic) (w : World), fits d i → nV w i c → Calls Tryz.prog 272 #[c.val, .int .i64 (D : Int)] w (Rt w (.bool true)) := by
 intro d
 induction d with
 | zero =>
  intro D hdD i c w hf hr
  cases hr with
  | int n c h1 h2 h3 h4 => exact Ld c w D h1 h3 h4
  | byt b c h1 h2 h3 h4 h5 => exact Le c w D h1 h2 h4
  | lst l c h1 h2 h3 h4 f h5 h6 => exact absurd hf (by simp [fits])
 | succ d ih =>
  intro D hdD i c w hf hr
  cases hr with
  | int n c h1 h2 h3 h4 => exact Ld c w D h1 h3 h4
  | byt b c h1 h2 h3 h4 h5 => exact Le c w D h1 h2 h4
  | lst l c h1 h2 h3 h4 f h5 h6 =>
   obtain ⟨kd, nn, B, nb, cb, L, nl, cl⟩ := c
   dsimp only at h1 h2 h3 h4 h5
   subst h1; subst h2; subst h3; subst h4
   refine SG l l.length (aa rfl) hf.1 f B cb L cl D (by omega) w (aa h5) (aa h6) ?_
   intro k hk u hu
   exact ih (D + 1) (by omega) _ (f k) u (hf.2 _ (by rw [List.getD_eq_getElem?_getD, List.getElem?_eq_getElem hk]; exact List.getElem_mem hk)) ((h6 k hk).kept hu)
theorem BS (i : It) (c : Ic) (w : World) (hf : fits 8 i) (hr : nV w i c) : Calls Tryz.prog 265 #[c.val] w (Rt w (.bool true)) := by
 have Hy := aa (Lf 8 0 (Nat.le_refl _) i c (w.alloc (tV c)) hf (hr.kept (af _ _)))
 obtain ⟨kd, nn, B, nb, cb, L, nl, cl⟩ := c
 show Calls Tryz.prog 265 #[.agg #[.int .i64 kd, .int .i64 nn, .slice B nb cb, .slice L nl cl]] w (Rt w (.bool true))
 clear hf hr
 go_in
 go_wp2_with fail
 refine Hy.out.mono ?_
 rintro e w2 ⟨rfl, hb0⟩
 have hb1 := ag (af _ _) hb0
 clear hb0
 go_wp2
 go_ret
 exact ⟨rfl, hb1⟩
theorem vz (w : World) (x : Int) : aR .u8 5 (w.alloc (.cells #[.int .u8 x] 5)) w.heap.size (.slice (some ⟨w.heap.size, 0, none⟩) 1 1) [x] :=
 ⟨rfl, Or.inr ⟨w.heap.size, 1, #[.int .u8 x], rfl, Nat.le_refl _, heap_alloc_new _ _, Nat.le_refl _, by decide, rfl, rfl⟩⟩
theorem D7 (n : Int) (hn1 : -9223372036854775808 ≤ n) (hn2 : n < 9223372036854775808) (B : Option Addr) (cb : Nat) (L : Option Addr) (cl : Nat) (w : World) :
  Calls Tryz.prog 145 #[.agg #[.int .i64 1, .int .i64 n, .slice B 0 cb, .slice L 0 cl]] w (zV .u8 5 (enc (.int n)) w) := by
 obtain ⟨i0, hi, hz0, hz1, hz2⟩ := info_parts dS
 obtain ⟨W, hW⟩ : ∃ W, w.alloc (.cells #[.int .i64 1, .int .i64 n, .slice B 0 cb, .slice L 0 cl] 117) = W := ⟨_, rfl⟩
 have bT : Hid (Below w.heap.size w W) := aa (by rw [← hW]; exact af _ _)
 have hF : Four W w.heap.size 0 ⟨1, n, B, 0, cb, L, 0, cl⟩ := by rw [← hW]; exact gW w ⟨1, n, B, 0, cb, L, 0, cl⟩
 obtain ⟨c0, c1, c2, c3⟩ := hF.get
 have c1b : (W.alloc (.cells #[.int .u8 1] 5)).cell? ⟨w.heap.size, 0 + 1, none⟩ = some (.int .i64 n) := cell_below c1 (af _ _)
 rw [Nat.zero_add] at c1b
 have HO : Hid (aR .u8 5 (W.alloc (.cells #[.int .u8 1] 5)) W.heap.size (.slice (some ⟨W.heap.size, 0, none⟩) 1 1) [1]) := aa (vz W 1)
 have R8 := aa (af W (.cells #[.int .u8 1] 5))
 have HW := aa hW
 have y0 : 0 ≤ n % 18446744073709551616 := Int.emod_nonneg _ (by decide)
 have y1 : n % 18446744073709551616 < 18446744073709551616 := Int.emod_lt_of_pos _ (by decide)
 clear hW hF
 go_in
 go_upto_region 1 with (fail)
 rw [HW.out]
 go_wp2_with fail
 refine (Ju (n % 18446744073709551616) y0 y1 _).mono ?_
 rintro e w3 ⟨g3, nU, rfl, hs3, hb3⟩
 have pR := aa (HO.out.keep hb3)
 have HB3 := aa (ag R8.out hb3)
 have QT := aa hs3
 have hz3 := HB3.out.size
 have hrow := pR.out.row (n := 1) rfl
 clear hb3 hs3 c0 c1 c1b c2 c3
 go_wp2_with (at_builtin; refine wpList_append_own _ rfl _ _ 114 rfl (W.heap.size) 5 i0 (.int .u8 0) 1 1 Tryz.underlying114 hi hz0 hz1 hz2 rfl (by decide) (.slice (some ⟨W.heap.size, 0, none⟩) 1 1) (1) ([.int .u8 1]) rfl (hrow) ⟨g3, 0, none⟩ 8 nU ((qB 8 (n % 18446744073709551616)).map (.int .u8)) rfl (by simp [jb, dY, fV]) (QT.out.news) (ints_oneCell .u8 _) (by unfold maxLen; omega) (by omega) (by omega) ?_; intro v4 w4 tY qo _)
 have yO : Hid (aR .u8 5 w4 W.heap.size v4 (enc (.int n))) := aa (by rw [mK]; exact aR.app (xs := [1]) (ys := qY (n % 18446744073709551616)) (m := 8) rfl rfl tY)
 have kL : Hid (Below w.heap.size w w4) := aa (ag bT.out (pR.out.below0 HB3.out hz3 qo))
 have hle := bT.out.size
 clear tY qo hrow
 go_wp2
 go_ret
 exact ⟨_, rfl, yO.out.mono hle, kL.out⟩
theorem D8 (l : List Int) (n : Nat) (hn : Hid (l.length = n)) (hn0 : 0 < n) (hn1 : n < 1000000) (b o : Nat) (cb : Nat) (L : Option Addr) (cl : Nat) (w : World) (hs : Hid (Sk .u8 w (some ⟨b, o, none⟩) l)) :
  Calls Tryz.prog 145 #[.agg #[.int .i64 2, .int .i64 0, .slice (some ⟨b, o, none⟩) n cb, .slice L 0 cl]] w (zV .u8 5 (enc (.byt l)) w) := by
 obtain ⟨i0, hi, hz0, hz1, hz2⟩ := info_parts dS
 obtain ⟨W, hW⟩ : ∃ W, w.alloc (.cells #[.int .i64 2, .int .i64 0, .slice (some ⟨b, o, none⟩) n cb, .slice L 0 cl] 117) = W := ⟨_, rfl⟩
 have bT : Hid (Below w.heap.size w W) := aa (by rw [← hW]; exact af _ _)
 have HF : Hid (Four W w.heap.size 0 ⟨2, 0, some ⟨b, o, none⟩, n, cb, L, 0, cl⟩) := aa (by rw [← hW]; exact gW w ⟨2, 0, some ⟨b, o, none⟩, n, cb, L, 0, cl⟩)
 obtain ⟨c0, c1, c2, c3⟩ := HF.out.get
 rw [Nat.zero_add] at c1 c2 c3
 have HS := aa (hs.out.below bT.out)
 have BI := aa c2
 have HW := aa hW
 have u1 : IntKind.u64.wrap (n : Int) = (n : Int) := by simp [IntKind.wrap, IntKind.bits, IntKind.signed]; omega
 clear hW
 go_in
 go_upto_region 1 with (fail)
 rw [HW.out]
 go_wp2_with fail
 clear c0 c1 c2 c3
 refine bJ (S := fun w' => w'.cell? ⟨w.heap.size, 2, none⟩ = some (.slice (some ⟨b, o, none⟩) n cb)) (E := []) (by kernel_rfl) (cell_below BI.out (Below.refl _ _).drew) (fun hHeld => ?_)
 refine bQ 1 ?_
 refine bQ 2 ?_
 refine bQ 3 ?_
 refine bQ 4 ?_
 refine bQ 7 ?_
 refine bQ 8 ?_
 refine OL (i1 := 0) (i2 := 5) (by kernel_rfl) rfl rfl (fun K hK => ?_) (fun K hK => ?_)
 ·
  go_simp
  refine hK.out _ _ ?_ (fun hHeld => ?_)
  · exact cell_below BI.out (af _ _).drew
  clear hK K
  try simp only [qq]
  refine bY 5 fun K hK => ?_
  go_simp
  try rw [show (W.drew.alloc (.cells #[.int .u8 2] 5)) = (W.alloc (.cells #[.int .u8 2] 5)).drew from rfl]
  refine (wR n (by omega) (by omega) _).mono ?_
  rintro e w3 ⟨gN, UT, rfl, hsN, hb3⟩
  refine hK.out _ _ ?_ (fun hHeld => ?_)
  · exact cell_below BI.out (ag (af _ _).drew hb3)
  clear hK K
  try simp only [qq]
  refine bY 6 fun K hK => ?_
  obtain ⟨gA, hgA⟩ : ∃ g, W.heap.size = g := ⟨_, rfl⟩
  have Dv : Hid (aR .u8 5 w3 W.heap.size (.slice (some ⟨gA, 0, none⟩) 1 1) [2]) := aa (by rw [← hgA]; exact (vz W 2).keep (ag (Below.refl _ _).drew hb3))
  have m_ : Hid (Below W.heap.size W w3) := aa (ag (af _ _).drew hb3)
  have YO := aa hsN
  obtain ⟨W6, Gt⟩ : ∃ u, w3 = u := ⟨_, rfl⟩
  rw [Gt] at Dv m_ YO ⊢
  rw [hgA]
  have MI := Dv.out.row (n := 1) rfl
  have Xa := m_.out.size
  refine step_append_lies _ (by rfl) _ _ _ (by rfl) (W.heap.size) 5 i0 _ 1 1 Tryz.underlying114 hi hz0 hz1 hz2 rfl (by omega) (.slice (some ⟨gA, 0, none⟩) 1 1) (1) ([.int .u8 2]) (by rfl) (MI) ⟨gN, 0, none⟩ 4 UT ((qB 4 (n : Int)).map (.int .u8)) (by rfl) (by simp [jb, dY, hn.out]) (YO.out.news) (ints_oneCell .u8 _) (by decide) (by unfold maxLen; omega) (by omega) (by omega) (W6.heap.size) rfl ?_
  intro g7 CP w7 MN Gr aaY aaJ
  have uo := aa (Dv.out.below0 m_.out Xa Gr)
  have zZ : Hid (aR .u8 5 w7 W.heap.size (.slice (some ⟨g7, 0, none⟩) (1 + 4) CP) (2 :: uP (n : Int))) := aa (aR.app (xs := [2]) (ys := uP (n : Int)) (m := 4) rfl rfl MN)
  have MH := zZ.out.row (n := 5) rfl
  have TY := uo.out.size
  have OE := aa (HS.out.below uo.out)
  refine hK.out _ _ ?_ (fun hHeld => ?_)
  · exact cell_below BI.out uo.out
  clear hK K
  try simp only [qq]
  refine bY 9 fun K hK => ?_
  refine step_append_lies _ (by rfl) _ _ _ (by rfl) (W.heap.size) 5 i0 _ 1 1 Tryz.underlying114 hi hz0 hz1 hz2 rfl (by omega) (.slice (some ⟨g7, 0, none⟩) (1 + 4) CP) (5) ((2 :: uP (n : Int)).map (.int .u8)) (by rfl) (MH) ⟨b, o, none⟩ n cb (l.map (.int .u8)) (by rfl) (by simp [jb, dY, hn.out]) (OE.out.news) (ints_oneCell .u8 _) (hn0) (by unfold maxLen; omega) (by omega) (by omega) (w7.heap.size) rfl ?_
  intro g8 NP w8 tX jA aaX Gq
  have qP := aa (zZ.out.below0 uo.out TY jA)
  have Kn : Hid (aR .u8 5 w8 W.heap.size (.slice (some ⟨g8, 0, none⟩) (5 + n) NP) (enc (.byt l))) := aa (by rw [iC, hn.out]; exact aR.app (xs := 2 :: uP (n : Int)) (ys := l) (m := n) rfl hn.out.symm tX)
  refine hK.out _ _ ?_ (fun hHeld => ?_)
  · exact cell_below BI.out qP.out
  clear hK K
  try simp only [qq]
  refine bQ 10 ?_
  refine gH ?_
  have HF := aa (Kn.out.mono bT.out.size)
  have hbf := ag bT.out qP.out
  go_wp2
  go_ret
  exact ⟨_, rfl, HF.out, hbf⟩
 ·
  go_simp
  refine (wR n (by omega) (by omega) _).mono ?_
  rintro e w3 ⟨gN, UT, rfl, hsN, hb3⟩
  have OI := aa (ag (Below.refl W.heap.size W).drew hb3)
  have hzN := OI.out.size
  refine hK.out _ _ ?_ (fun hHeld => ?_)
  · exact cell_below BI.out (ag (Below.refl W.heap.size W).drew hb3)
  clear hK K
  try simp only [qq]
  refine bY 0 fun K hK => ?_
  go_simp
  refine hK.out _ _ ?_ (fun hHeld => ?_)
  ·
   exact cell_below BI.out (ag (ag (Below.refl W.heap.size W).drew hb3) (af _ _))
  clear hK K
  try simp only [qq]
  refine bY 6 fun K hK => ?_
  obtain ⟨gA, hgA⟩ : ∃ g, w3.heap.size = g := ⟨_, rfl⟩
  have Dv : Hid (aR .u8 5 (w3.alloc (.cells #[.int .u8 2] 5)) W.heap.size (.slice (some ⟨gA, 0, none⟩) 1 1) [2]) := aa (by rw [← hgA]; exact (vz w3 2).mono hzN)
  have m_ : Hid (Below W.heap.size W (w3.alloc (.cells #[.int .u8 2] 5))) := aa (ag OI.out (af _ _))
  have YO := aa (hsN.below (af w3 (.cells #[.int .u8 2] 5)))
  obtain ⟨W6, Gt⟩ : ∃ u, w3.alloc (.cells #[.int .u8 2] 5) = u := ⟨_, rfl⟩
  rw [Gt] at Dv m_ YO ⊢
  rw [hgA]
  have MI := Dv.out.row (n := 1) rfl
  have Xa := m_.out.size
  refine step_append_lies _ (by rfl) _ _ _ (by rfl) (W.heap.size) 5 i0 _ 1 1 Tryz.underlying114 hi hz0 hz1 hz2 rfl (by omega) (.slice (some ⟨gA, 0, none⟩) 1 1) (1) ([.int .u8 2]) (by rfl) (MI) ⟨gN, 0, none⟩ 4 UT ((qB 4 (n : Int)).map (.int .u8)) (by rfl) (by simp [jb, dY, hn.out]) (YO.out.news) (ints_oneCell .u8 _) (by decide) (by unfold maxLen; omega) (by omega) (by omega) (W6.heap.size) rfl ?_
  intro g7 CP w7 MN Gr aaY aaJ
  have uo := aa (Dv.out.below0 m_.out Xa Gr)
  have zZ : Hid (aR .u8 5 w7 W.heap.size (.slice (some ⟨g7, 0, none⟩) (1 + 4) CP) (2 :: uP (n : Int))) := aa (aR.app (xs := [2]) (ys := uP (n : Int)) (m := 4) rfl rfl MN)
  have MH := zZ.out.row (n := 5) rfl
  have TY := uo.out.size
  have OE := aa (HS.out.below uo.out)
  refine hK.out _ _ ?_ (fun hHeld => ?_)
  · exact cell_below BI.out uo.out
  clear hK K
  try simp only [qq]
  refine bY 9 fun K hK => ?_
  refine step_append_lies _ (by rfl) _ _ _ (by rfl) (W.heap.size) 5 i0 _ 1 1 Tryz.underlying114 hi hz0 hz1 hz2 rfl (by omega) (.slice (some ⟨g7, 0, none⟩) (1 + 4) CP) (5) ((2 :: uP (n : Int)).map (.int .u8)) (by rfl) (MH) ⟨b, o, none⟩ n cb (l.map (.int .u8)) (by rfl) (by simp [jb, dY, hn.out]) (OE.out.news) (ints_oneCell .u8 _) (hn0) (by unfold maxLen; omega) (by omega) (by omega) (w7.heap.size) rfl ?_
  intro g8 NP w8 tX jA aaX Gq
  have qP := aa (zZ.out.below0 uo.out TY jA)
  have Kn : Hid (aR .u8 5 w8 W.heap.size (.slice (some ⟨g8, 0, none⟩) (5 + n) NP) (enc (.byt l))) := aa (by rw [iC, hn.out]; exact aR.app (xs := 2 :: uP (n : Int)) (ys := l) (m := n) rfl hn.out.symm tX)
  refine hK.out _ _ ?_ (fun hHeld => ?_)
  · exact cell_below BI.out qP.out
  clear hK K
  try simp only [qq]
  refine bQ 10 ?_
  refine gH ?_
  have HF := aa (Kn.out.mono bT.out.size)
  have hbf := ag bT.out qP.out
  go_wp2
  go_ret
  exact ⟨_, rfl, HF.out, hbf⟩
theorem LJ (l : List It) (n : Nat) (hn : Hid (l.length = n)) (hn1 : n ≤ 1000) (f : Nat → Ic) (B : Option Addr) (cb : Nat) (L : Option Addr) (cl : Nat) (w : World)
  (h5 : Hid (∀ k, k < l.length → ∃ b o, L = some ⟨b, o, none⟩ ∧ Four w b (o + k * 4) (f k))) (hsm : Hid ((enc (.lst l)).length ≤ 16384))
  (ih : ∀ k, k < l.length → ∀ u, Below w.heap.size w u → Calls Tryz.prog 145 #[(f k).val] u (zV .u8 5 (enc (l.getD k default)) u)) :
  Calls Tryz.prog 145 #[.agg #[.int .i64 3, .int .i64 0, .slice B 0 cb, .slice L n cl]] w (zV .u8 5 (enc (.lst l)) w) := by
 have Hy := aa ih
 clear ih
 obtain ⟨i0, hi, hz0, hz1, hz2⟩ := info_parts dS
 obtain ⟨W, hW⟩ : ∃ W, w.alloc (.cells #[.int .i64 3, .int .i64 0, .slice B 0 cb, .slice L n cl] 117) = W := ⟨_, rfl⟩
 have bT : Hid (Below w.heap.size w W) := aa (by rw [← hW]; exact af _ _)
 have HF : Hid (Four W w.heap.size 0 ⟨3, 0, B, 0, cb, L, n, cl⟩) := aa (by rw [← hW]; exact gW w ⟨3, 0, B, 0, cb, L, n, cl⟩)
 obtain ⟨c0, c1, c2, c3⟩ := HF.out.get
 have c3b : (W.alloc (.cells #[.int .u8 3] 5)).cell? ⟨w.heap.size, 0 + 3, none⟩ = some (.slice L n cl) := cell_below c3 (af _ _)
 rw [Nat.zero_add] at c3b
 have HO : Hid (aR .u8 5 (W.alloc (.cells #[.int .u8 3] 5)) W.heap.size (.slice (some ⟨W.heap.size, 0, none⟩) 1 1) [3]) := aa (vz W 3)
 have R8 := aa (af W (.cells #[.int .u8 3] 5))
 have HW := aa hW
 have u1 : IntKind.u64.wrap (n : Int) = (n : Int) := by simp [IntKind.wrap, IntKind.bits, IntKind.signed]; omega
 clear hW
 go_in
 go_upto_region 1 with (fail)
 rw [HW.out]
 go_wp2_with fail
 refine (wR n (by omega) (by omega) _).mono ?_
 rintro e w3 ⟨g3, nU, rfl, hs3, hb3⟩
 have pR := aa (HO.out.keep hb3)
 have HB3 := aa (ag R8.out hb3)
 have QT := aa hs3
 have hz3 := HB3.out.size
 have hrow := pR.out.row (n := 1) rfl
 clear hb3 hs3 c0 c1 c3b c2 c3
 go_wp2_with (at_builtin; refine wpList_append_own _ rfl _ _ 114 rfl (W.heap.size) 5 i0 (.int .u8 0) 1 1 Tryz.underlying114 hi hz0 hz1 hz2 rfl (by decide) (.slice (some ⟨W.heap.size, 0, none⟩) 1 1) (1) ([.int .u8 3]) rfl (hrow) ⟨g3, 0, none⟩ 4 nU ((qB 4 (n : Int)).map (.int .u8)) rfl (by simp [jb, dY, fV]) (QT.out.news) (ints_oneCell .u8 _) (by unfold maxLen; omega) (by omega) (by omega) ?_; intro v4 w4 tY qo _)
 have yO : Hid (aR .u8 5 w4 W.heap.size v4 (3 :: uP (n : Int) ++ fG (l.take 0))) := aa (by rw [List.take_zero]; simpa [fG] using aR.app (xs := [3]) (ys := uP (n : Int)) (m := 4) rfl rfl tY)
 have kL : Hid (Below W.heap.size W w4) := aa (pR.out.below0 HB3.out hz3 qo)
 have hle := bT.out.size
 clear tY qo hrow pR HB3 QT HO R8
 go_loopw [3, 4] (fun p i u => ∃ k : Nat, k ≤ n ∧ i = .int .i64 k ∧ Hid (aR .u8 5 u W.heap.size p (3 :: uP (n : Int) ++ fG (l.take k))) ∧ Hid (Below W.heap.size W u)) (fun _ i _ => n - (intOf i).toNat)
 case atStart => exact ⟨0, by omega, rfl, yO, kL⟩
 case round =>
  obtain ⟨k, hk, rfl, ZU, aF⟩ := hrel
  obtain ⟨c0, c1, c2, c3⟩ := (HF.out.below aF.out).get
  by_cases hlk : k < n
  ·
   have hkl : k < l.length := by rw [hn.out]; exact hlk
   obtain ⟨b, o, hL, h4⟩ := h5.out k hkl
   subst hL
   have hbw := ag bT.out aF.out
   have hle2 : (3 :: uP (n : Int) ++ fG (l.take k)).length + (enc (l.getD k default)).length ≤ 16384 := by
    have h := hsm.out
    have t1 := pK hkl
    have t2 := qw (l := l) (k := k + 1)
    rw [t1, List.length_append] at t2
    rw [fA, List.length_cons, List.length_append, dY] at h
    rw [List.length_append, List.length_cons, dY]
    omega
   have hstep := pK hkl
   have hpos := oD (l.getD k default)
   obtain ⟨ic, hic⟩ : ∃ x, f k = x := ⟨_, rfl⟩
   obtain ⟨kd, nn, B', nb, cb', L', nl, cl'⟩ := ic
   have uI := Hy.out k hkl wr hbw
   rw [hic] at h4 uI
   obtain ⟨et, het⟩ : ∃ x, enc (l.getD k default) = x := ⟨_, rfl⟩
   rw [het] at uI hle2 hstep hpos
   have HC : Hid (Calls Tryz.prog 145 #[.agg #[.int .i64 kd, .int .i64 nn, .slice B' nb cb', .slice L' nl cl']] wr (zV .u8 5 et wr)) := aa uI
   obtain ⟨W_, W9, WZ, WY⟩ := (h4.below hbw).get
   have HST := aa hstep
   obtain ⟨m, hm⟩ : ∃ m, et.length = m := ⟨_, rfl⟩
   obtain ⟨N, hN⟩ : ∃ N, (3 :: uP (n : Int) ++ fG (l.take k)).length = N := ⟨_, rfl⟩
   rw [hm] at hle2 hpos
   rw [hN] at hle2
   have HM := aa hm
   have OH := aa hN
   clear hkl h4 hbw hic uI het hstep hm hN
   go_wp2_with fail
   refine HC.out.mono ?_
   rintro e w5 ⟨v5, rfl, ho5, hb5⟩
   obtain ⟨g5, cap5, e5, hg5, -, -, Cu⟩ := ho5.cells (by rw [HM.out]; exact hpos)
   rw [HM.out] at e5
   subst e5
   have xC := aa (ZU.out.keep hb5)
   have jZ := aa (ag aF.out hb5)
   have KH := aa Cu
   have hrow := xC.out.row OH.out
   have hz5 := jZ.out.size
   clear Cu ho5 hb5 HC W_ W9 WZ WY c0 c1 c2 c3 ZU
   go_wp2_with (at_builtin; refine wpList_append_own _ rfl _ _ 114 rfl (W.heap.size) 5 i0 (.int .u8 0) 1 1 Tryz.underlying114 hi hz0 hz1 hz2 rfl (by decide) (u3) (N) ((3 :: uP (n : Int) ++ fG (l.take k)).map (.int .u8)) rfl (hrow) ⟨g5, 0, none⟩ m cap5 (et.map (.int .u8)) rfl (by simp [HM.out]) (KH.out.news) (ints_oneCell .u8 _) (by unfold maxLen; omega) (by omega) (by omega) ?_; intro v6 w6 hown6 M4 _)
   have Dv : Hid (aR .u8 5 w6 W.heap.size v6 (3 :: uP (n : Int) ++ fG (l.take (k + 1)))) := aa (by
    rw [HST.out, ← List.append_assoc]
    exact aR.app OH.out.symm HM.out.symm hown6)
   have m_ : Hid (Below W.heap.size W w6) := aa (xC.out.below0 jZ.out hz5 M4)
   clear hown6 M4 hrow xC jZ KH
   go_roundw
   case rel => exact ⟨k + 1, by omega, by go_num, Dv, m_⟩
   case measure => simp [intOf]; omega
  ·
   have VX : Hid (aR .u8 5 wr W.heap.size u3 (enc (.lst l))) := aa (by
    have h := ZU.out
    rw [show k = l.length by rw [hn.out]; omega, List.take_length] at h
    rw [fA, hn.out]
    exact h)
   have hbf := ag bT.out aF.out
   clear ZU
   go_wp2
   go_ret
   exact ⟨_, rfl, VX.out.mono hle, hbf⟩
theorem u_ : ∀ (d : Nat) (i : It) (c : Ic) (w : World), fits d i → nV w i c → (enc i).length ≤ 16384 → Calls Tryz.prog 145 #[c.val] w (zV .u8 5 (enc i) w) := by
 intro d
 induction d with
 | zero =>
  intro i c w hf hr hl
  obtain ⟨kd, nn, B, nb, cb, L, nl, cl⟩ := c
  cases hr with
  | int n _ h1 h2 h3 h4 =>
   dsimp only at h1 h2 h3 h4
   subst h1; subst h2; subst h3; subst h4
   exact D7 nn hf.1 hf.2 B cb L cl w
  | byt b _ h1 h2 h3 h4 h5 =>
   dsimp only at h1 h2 h3 h4 h5
   subst h1; subst h2; subst h4; subst h3
   obtain ⟨b', o', rfl, _⟩ := h5.at0 hf.1.1
   exact D8 b b.length (aa rfl) hf.1.1 hf.1.2 b' o' cb L cl w (aa h5)
  | lst l _ h1 h2 h3 h4 f h5 h6 => exact absurd hf (by simp [fits])
 | succ d ih =>
  intro i c w hf hr hl
  obtain ⟨kd, nn, B, nb, cb, L, nl, cl⟩ := c
  cases hr with
  | int n _ h1 h2 h3 h4 =>
   dsimp only at h1 h2 h3 h4
   subst h1; subst h2; subst h3; subst h4
   exact D7 nn hf.1 hf.2 B cb L cl w
  | byt b _ h1 h2 h3 h4 h5 =>
   dsimp only at h1 h2 h3 h4 h5
   subst h1; subst h2; subst h4; subst h3
   obtain ⟨b', o', rfl, _⟩ := h5.at0 hf.1.1
   exact D8 b b.length (aa rfl) hf.1.1 hf.1.2 b' o' cb L cl w (aa h5)
  | lst l _ h1 h2 h3 h4 f h5 h6 =>
   dsimp only at h1 h2 h3 h4 h5
   subst h1; subst h2; subst h3; subst h4
   refine LJ l l.length (aa rfl) hf.1 f B cb L cl w (aa h5) (aa hl) ?_
   intro k hk u hu
   refine ih _ (f k) u (hf.2 _ (by rw [List.getD_eq_getElem?_getD, List.getElem?_eq_getElem hk]; exact List.getElem_mem hk)) ((h6 k hk).kept hu) ?_
   have t1 := pK hk
   have t2 := qw (l := l) (k := k + 1)
   rw [t1, List.length_append] at t2
   rw [fA, List.length_cons, List.length_append, dY] at hl
   omega
def lV (x : Int) : Bool := decide (x < 33) || decide (126 < x)
def gU (l : List Int) : Bool := decide (1 ≤ l.length) && decide (l.length ≤ 24) && !(l.any lV)
theorem ET (x : Int) (w : World) : Calls Tryz.prog 271 #[.int .u8 x] w fun e w' => e = .returned (.bool (lV x)) ∧ w = w' := by
 by_cases h1 : x < 33
 ·
  have e : lV x = true := by simp [lV, h1]
  have d1 : decide (x < 33) = true := by simp [h1]
  rw [e]
  clear e
  go_in
  go_wp2
  go_ret
  exact ⟨rfl, rfl⟩
 ·
  have d1 : decide (x < 33) = false := by simp [h1]
  have e : lV x = decide (126 < x) := by simp [lV, h1]
  rw [e]
  clear e
  go_in
  go_wp2
  go_ret
  exact ⟨rfl, rfl⟩
theorem P6 (A : Option Addr) (xs : List Int) (n c : Nat) (hn : Hid (xs.length = n)) (hbig : n ≤ 100000) (w : World) (hs : Hid (Sk .u8 w A xs)) :
  Calls Tryz.prog 273 #[.slice A n c, .func (.func 271) #[] #[]] w (G_ lV xs w) := by
 go_in
 go_wp2
 go_loopw [8] (fun i wr => ∃ k : Nat, k ≤ n ∧ i = .int .i64 k ∧ Hid (xs.any lV = (xs.drop k).any lV) ∧ Hid (Below w.heap.size w wr)) (fun i _ => n - (intOf i).toNat)
 case atStart => exact ⟨0, by omega, rfl, aa rfl, aa (Below.refl _ _)⟩
 case round =>
  obtain ⟨k, hk, rfl, HR, aF⟩ := hrel
  by_cases hlt : k < n
  ·
   have hkl : k < xs.length := by rw [hn.out]; exact hlt
   obtain ⟨b, o, hA, hi⟩ := (hs.out.below aF.out) k hkl
   subst hA
   cases hpx : lV (xs.getD k 0) with
   | false =>
    have HN : Hid (xs.any lV = (xs.drop (k + 1)).any lV) := aa (HR.out.trans (kR hkl hpx))
    obtain ⟨x, hx⟩ : ∃ x, xs.getD k 0 = x := ⟨_, rfl⟩
    rw [hx] at hi hpx
    have C9 := aa hpx
    clear hx hkl hpx HR
    go_wp2_with fail
    refine (ET x _).mono ?_
    rintro e w2 ⟨rfl, rfl⟩
    rw [C9.out]
    go_wp2
    go_roundw
    case rel => exact ⟨k + 1, by omega, by go_num, HN, aF⟩
    case measure => simp [intOf]; omega
   | true =>
    have HN : Hid (xs.any lV = true) := aa (HR.out.trans (jL hkl hpx))
    obtain ⟨x, hx⟩ : ∃ x, xs.getD k 0 = x := ⟨_, rfl⟩
    rw [hx] at hi hpx
    have C9 := aa hpx
    clear hx hkl hpx HR
    go_wp2_with fail
    refine (ET x _).mono ?_
    rintro e w2 ⟨rfl, rfl⟩
    rw [C9.out]
    go_wp2
    go_ret
    exact ⟨_, rfl, by rw [HN.out]; simp, aF.out⟩
  ·
   have HN : Hid (xs.any lV = false) := aa (by
    have h := HR.out
    rwa [List.drop_of_length_le (by have := hn.out; omega)] at h)
   clear HR
   go_wp2
   go_ret
   exact ⟨_, rfl, by rw [HN.out]; rfl, aF.out⟩
theorem UQ (A : Option Addr) (xs : List Int) (n c : Nat) (r : Bool) (hr : Hid (xs.any lV = r)) (hn : Hid (xs.length = n)) (hbig : n ≤ 100000) (w : World) (hs : Hid (Sk .u8 w A xs)) :
  Calls Tryz.prog 270 #[.slice A n c, .func (.func 271) #[] #[]] w (Rt w (.bool r)) := by
 go_in
 go_wp2_with fail
 refine (P6 A xs n c hn hbig _ hs).mono ?_
 rintro e w' ⟨i, rfl, hdi, hb0⟩
 have HD : Hid (decide (0 ≤ i) = r) := aa (hdi.trans hr.out)
 clear hdi
 go_wp2
 go_ret
 exact ⟨by first | rfl | (rw [← HD.out]; rfl), hb0⟩
theorem p_ (s : ByteArray) (hs : s.size ≤ 1000) (r : Bool) (hr : Hid (gU (aX s) = r)) (w : World) :
  Calls Tryz.prog 260 #[.string s] w (Rt w (.bool r)) := by
 by_cases h1 : s.size < 1
 ·
  have e : r = false := by rw [← hr.out, gU, bE, decide_eq_false (by omega)]; rfl
  have d1 : decide ((1 : Int) ≤ (s.size : Int)) = false := by simp; omega
  subst e
  clear hr
  go_in
  go_wp2
  go_ret
  exact ⟨rfl, Below.refl _ _⟩
 ·
  have d1 : decide ((1 : Int) ≤ (s.size : Int)) = true := by simp; omega
  by_cases h2 : 24 < s.size
  ·
   have e : r = false := by rw [← hr.out, gU, bE, decide_eq_false (show ¬ s.size ≤ 24 by omega)]; simp
   have d2 : decide ((s.size : Int) ≤ 24) = false := by simp; omega
   subst e
   clear hr
   go_in
   go_wp2
   go_ret
   exact ⟨rfl, Below.refl _ _⟩
  ·
   have d2 : decide ((s.size : Int) ≤ 24) = true := by simp; omega
   obtain ⟨q, hq⟩ : ∃ q, (aX s).any lV = q := ⟨_, rfl⟩
   have e : r = !q := by rw [← hr.out, gU, bE, decide_eq_true (by omega), decide_eq_true (by omega), hq]; rfl
   subst e
   have HQ := aa hq
   have hcv := fun w => run_bytes_of_string (P := Tryz.prog) w 9 114 5 s Tryz.underlying9 Tryz.underlying114 Tryz.underlying5
   clear hr hq
   go_in
   go_wp2_with fail
   clear hcv
   obtain ⟨Wc, hWc⟩ : ∃ u, (w.alloc (.cells (bytesRow s (grownCap w s.size 0 5)) 5 ((bytesRow s (grownCap w s.size 0 5)).size, (bytesRow s (grownCap w s.size 0 5)).size + 1))).drew = u := ⟨_, rfl⟩
   have su : Hid (Below w.heap.size w Wc) := aa (by rw [← hWc]; exact (af _ _).drew)
   have HSc : Hid (Sk .u8 Wc (some ⟨w.heap.size, 0, none⟩) (aX s)) := aa (by
    rw [← hWc]
    exact mh (heap_alloc_new w _))
   obtain ⟨gc, hgc⟩ : ∃ g, grownCap w s.size 0 5 = g := ⟨_, rfl⟩
   rw [hWc, hgc]
   clear hWc hgc
   refine (UQ (some ⟨w.heap.size, 0, none⟩) (aX s) s.size gc q HQ (aa (bE s)) (by omega) _ HSc).mono ?_
   rintro e w2 ⟨rfl, hb2⟩
   have hbf := ag su.out hb2
   clear hb2
   go_wp2
   go_ret
   exact ⟨by first | rfl | simp, hbf⟩
theorem QC {s : ByteArray} {k : Nat} (h : k < s.size) : (aX s).getD k 0 = ((s[k]'h).toNat : Int) := by
 have h2 : k < s.data.toList.length := by simpa using h
 rw [aX, List.getD_eq_getElem?_getD, List.getElem?_map, List.getElem?_eq_getElem h2]
 rfl
theorem qg (s : ByteArray) (hs : s.size ≤ 1000) (r : Bool) (hr : Hid (gU (aX s) = r)) (w : World) :
  Calls Tryz.prog 206 #[.string s] w fun e w' => e = .returned (.bool r) ∧ w = w' := by
 by_cases h1 : s.size < 1
 ·
  have e : r = false := by rw [← hr.out, gU, bE, decide_eq_false (by omega)]; rfl
  have d1 : decide ((s.size : Int) < 1) = true := by simp; omega
  subst e
  clear hr
  go_in
  go_wp2
  go_ret
  exact ⟨rfl, rfl⟩
 ·
  have d1 : decide ((s.size : Int) < 1) = false := by simp; omega
  by_cases h2 : 24 < s.size
  ·
   have e : r = false := by rw [← hr.out, gU, bE, decide_eq_false (show ¬ s.size ≤ 24 by omega)]; simp
   have d2 : decide ((24 : Int) < (s.size : Int)) = true := by simp; omega
   subst e
   clear hr
   go_in
   go_wp2
   go_ret
   exact ⟨rfl, rfl⟩
  ·
   have d2 : decide ((24 : Int) < (s.size : Int)) = false := by simp; omega
   have HE : Hid (r = !((aX s).any lV)) := aa (by rw [← hr.out, gU, bE, decide_eq_true (by omega), decide_eq_true (by omega)]; rfl)
   clear hr
   go_in
   go_wp2
   go_loop [3] (fun i => ∃ k : Nat, k ≤ s.size ∧ i = .int .i64 k ∧ Hid ((aX s).any lV = ((aX s).drop k).any lV)) (fun i => s.size - (intOf i).toNat)
   case atStart => exact ⟨0, by omega, rfl, aa rfl⟩
   case round =>
    obtain ⟨k, hk, rfl, HR⟩ := hrel
    by_cases hlt : k < s.size
    ·
     have hkl : k < (aX s).length := by rw [bE]; exact hlt
     have hg := QC hlt
     by_cases t1 : ((s[k]'hlt).toNat : Int) < 33
     ·
      have hN : (aX s).any lV = true := HR.out.trans (jL hkl (by rw [hg]; simp [lV, t1]))
      have e : r = false := by rw [HE.out, hN]; rfl
      have d3 : decide (((s[k]'hlt).toNat : Int) < 33) = true := by simp [t1]
      subst e
      clear hN hg hkl HR HE
      go_wp2
      go_ret
      exact ⟨rfl, rfl⟩
     ·
      have d3 : decide (((s[k]'hlt).toNat : Int) < 33) = false := by simp [t1]
      by_cases t2 : (126 : Int) < ((s[k]'hlt).toNat : Int)
      ·
       have hN : (aX s).any lV = true := HR.out.trans (jL hkl (by rw [hg]; simp [lV, t1, t2]))
       have e : r = false := by rw [HE.out, hN]; rfl
       have d4 : decide ((126 : Int) < ((s[k]'hlt).toNat : Int)) = true := by simp [t2]
       subst e
       clear hN hg hkl HR HE
       go_wp2
       go_ret
       exact ⟨rfl, rfl⟩
      ·
       have HN : Hid ((aX s).any lV = ((aX s).drop (k + 1)).any lV) := aa (HR.out.trans (kR hkl (by rw [hg]; simp [lV, t1, t2])))
       have d4 : decide ((126 : Int) < ((s[k]'hlt).toNat : Int)) = false := by simp [t2]
       clear hg hkl HR
       go_wp2
       go_round
       case rel => exact ⟨k + 1, by omega, by go_num, HN⟩
       case measure => simp [intOf]; omega
    ·
     have e : r = true := by
      rw [HE.out, HR.out, List.drop_of_length_le (by rw [bE]; omega)]; rfl
     subst e
     clear HR HE
     go_wp2
     go_ret
     exact ⟨rfl, rfl⟩
theorem Ie : (Tryz.prog.info? 209).map (fun i => (i.zero, i.size, i.bytes)) = some (some (.int .u32 0), 1, 4) := by kernel_rfl
theorem FQ (b o cap : Nat) (blk : List Int) (hlen : Hid (blk.length = 64)) (hby : Hid (aC blk = true)) (w : World) (hs : Hid (Sk .u8 w (some ⟨b, o, none⟩) blk)) (hcap : 64 ≤ cap) :
  Calls Tryz.prog 213 #[.slice (some ⟨b, o, none⟩) 64 cap] w (zV .u32 209 (dN blk) w) := by
 obtain ⟨i0, hi, hz0, hz1, hz2⟩ := info_parts Ie
 go_in
 go_wp2
 go_loopw [3, 4] (fun v i u => ∃ k : Nat, k ≤ 16 ∧ i = .int .i64 k ∧ Hid (aR .u32 209 u w.heap.size v (dB blk k)) ∧ Hid (Below w.heap.size w u)) (fun _ i _ => 16 - (intOf i).toNat)
 case atStart => exact ⟨0, by omega, rfl, aa (rJ _ _), aa (Below.refl _ _)⟩
 case round =>
  obtain ⟨k, hk, rfl, HO, aF⟩ := hrel
  by_cases hlt : k < 16
  ·
   go_wp2
   go_loopw [5, 6] (fun p j u => ∃ (m : Nat) (x : Int), m ≤ 4 ∧ j = .int .i64 m ∧ p = .int .u32 x ∧ Hid (part blk k m = x) ∧ 0 ≤ x ∧ Hid (aR .u32 209 u w.heap.size u3 (dB blk k)) ∧ Hid (Below w.heap.size w u)) (fun _ j _ => 4 - (intOf j).toNat)
   case atStart => exact ⟨0, 0, by omega, rfl, rfl, aa rfl, by omega, HO, aF⟩
   case round =>
    obtain ⟨m, x, hm, rfl, rfl, HX, x0, ZT, mZ⟩ := hrel
    by_cases hlm : m < 4
    ·
     have hc1 := (hs.out.below mZ.out).cell (j := 4 * k + m) (by have := hlen.out; omega)
     obtain ⟨c0, c1⟩ := iR hby.out (4 * k + m)
     have hpn : part blk k (m + 1) = part blk k m * 256 + blk.getD (4 * k + m) 0 := rfl
     have x1 := Im hby.out k m (by omega)
     rw [HX.out] at hpn x1
     obtain ⟨c, hcc⟩ : ∃ c, blk.getD (4 * k + m) 0 = c := ⟨_, rfl⟩
     rw [hcc] at hc1 c0 c1 hpn
     have Aj := aa hpn
     have j2 : (4 * (k : Int) + m).toNat = 4 * k + m := by omega
     clear hcc hpn
     go_wp2
     go_roundw
     case rel => exact ⟨m + 1, _, by omega, by go_num, rfl, Aj, by omega, ZT, mZ⟩
     case measure => simp [intOf]; omega
    ·
     have HW1 : Hid (dB blk (k + 1) = dB blk k ++ [x]) := aa (by rw [xI, ← Rk, ← HX.out, show m = 4 by omega])
     have ry : Hid ((dB blk k).length = k) := aa (fF _ _)
     have hown := ZT.out.row ry.out
     have hbs := mZ.out.size
     clear HX
     go_wp2_with (at_builtin; refine wpList_append_own _ rfl _ _ 176 rfl w.heap.size 209 i0 (.int .u32 0) 1 4 Tryz.underlying176 hi hz0 hz1 hz2 rfl (by decide) _ _ _ rfl (hown.alloc _) ⟨wr.heap.size, 0, none⟩ 1 1 [.int .u32 x] rfl rfl (cell_one_new _ _ _) (ints_oneCell .u32 [x]) (by unfold maxLen; omega) (by omega) (by simp; omega) ?_; intro v2 w2 hown2 hgrow2 _)
     have pR : Hid (aR .u32 209 w2 w.heap.size v2 (dB blk (k + 1))) := aa (by
      rw [HW1.out]
      exact aR.app ry.out.symm rfl hown2)
     have qI : Hid (Below w.heap.size w w2) := aa (ZT.out.below mZ.out hbs hgrow2)
     clear hown hown2 hgrow2 ZT
     go_roundw
     case rel => exact ⟨k + 1, by omega, by go_num, pR, qI⟩
     case measure => simp [intOf]; omega
  ·
   obtain rfl : k = 16 := by omega
   obtain ⟨g1, rZ, e1, hg1, _, _, _⟩ := HO.out.cells (by rw [fF]; decide)
   rw [fF] at e1
   subst e1
   have ab_ : Hid (aR .u32 209 wr w.heap.size (.slice (some ⟨g1, 0, none⟩) 16 rZ) (ni (16 - 16) (dB blk 16))) := aa (by rw [show 16 - 16 = 0 from rfl, ni]; exact HO.out)
   clear HO hlt
   go_wp2
   rw [show (((16 : Nat) : Int)) = 16 from rfl]
   go_loopw [3, 7] (fun v i u => ∃ (t g cp : Nat), 16 ≤ t ∧ t ≤ 64 ∧ i = .int .i64 t ∧ v = .slice (some ⟨g, 0, none⟩) t cp ∧ Hid (aR .u32 209 u w.heap.size v (ni (t - 16) (dB blk 16))) ∧ Hid (Below w.heap.size w u)) (fun _ i _ => 64 - (intOf i).toNat)
   case atStart => exact ⟨16, g1, rZ, by omega, by omega, rfl, rfl, ab_, aF⟩
   case round =>
    obtain ⟨t, g, cp, ht0, ht, rfl, rfl, HO, mZ⟩ := hrel
    by_cases hlt : t < 64
    ·
     obtain ⟨L, hL⟩ : ∃ L, ni (t - 16) (dB blk 16) = L := ⟨_, rfl⟩
     have hLn : L.length = t := by rw [← hL, yX, fF]; omega
     rw [hL] at HO
     have hsk := HO.out.skAt (by omega)
     have UB := hsk.cell (j := t - 15) (by omega)
     have h2 := hsk.cell (j := t - 2) (by omega)
     have h16 := hsk.cell (j := t - 16) (by omega)
     have h7 := hsk.cell (j := t - 7) (by omega)
     have ae4 := hsk.lt (by omega)
     rw [Nat.zero_add] at UB h2 h16 h7
     have hnx : ni (t + 1 - 16) (dB blk 16) = L ++ [add32 (add32 (add32 (L.getD (t - 16) 0) (SA (L.getD (t - 15) 0))) (L.getD (t - 7) 0)) (Sz (L.getD (t - 2) 0))] := by
      rw [show t + 1 - 16 = (t - 16) + 1 by omega, ni, hL, KT, hLn]
     obtain ⟨Jh, e15⟩ : ∃ x, L.getD (t - 15) 0 = x := ⟨_, rfl⟩
     obtain ⟨x2, e2⟩ : ∃ x, L.getD (t - 2) 0 = x := ⟨_, rfl⟩
     obtain ⟨VK, e16⟩ : ∃ x, L.getD (t - 16) 0 = x := ⟨_, rfl⟩
     obtain ⟨x7, e7⟩ : ∃ x, L.getD (t - 7) 0 = x := ⟨_, rfl⟩
     rw [e15] at UB hnx
     rw [e2] at h2 hnx
     rw [e16] at h16 hnx
     rw [e7] at h7 hnx
     have Fv := aa hnx
     have ry := aa hLn
     have H16 := aa h16
     have H7 := aa h7
     have i15 : ((t : Int) - 15).toNat = t - 15 := by omega
     have i2 : ((t : Int) - 2).toNat = t - 2 := by omega
     have i16 : ((t : Int) - 16).toNat = t - 16 := by omega
     have i7 : ((t : Int) - 7).toNat = t - 7 := by omega
     have j15 : (0 : Int) ≤ (t : Int) - 15 := by omega
     have j2 : (0 : Int) ≤ (t : Int) - 2 := by omega
     have j16 : (0 : Int) ≤ (t : Int) - 16 := by omega
     have j7 : (0 : Int) ≤ (t : Int) - 7 := by omega
     clear hnx e15 e2 e16 e7 hL hLn hsk h16 h7
     go_wp2
     go_quiet (fail)
     have o7 := aa (aG (Below.refl wr.heap.size wr) nq)
     obtain ⟨w2, hw2⟩ : ∃ u, wr.drewN nq = u := ⟨_, rfl⟩
     rw [hw2] at o7 ⊢
     clear hw2 UB h2
     go_wp2_with fail
     refine (pq Jh 7 7 rfl (by decide) (by decide) _).mono ?_
     rintro e w3 ⟨rfl, nk, rfl⟩
     have uL := aa (aG o7.out nk)
     obtain ⟨w3, hw3⟩ : ∃ u, w2.drewN nk = u := ⟨_, rfl⟩
     rw [hw3] at uL ⊢
     clear hw3 o7
     have o7 := uL
     clear uL
     obtain ⟨w2, hw2⟩ : ∃ u, w3 = u := ⟨_, rfl⟩
     rw [hw2] at o7 ⊢
     clear hw2
     go_wp2_with fail
     refine (pq Jh 18 18 rfl (by decide) (by decide) _).mono ?_
     rintro e w3 ⟨rfl, nk, rfl⟩
     have uL := aa (aG o7.out nk)
     obtain ⟨w3, hw3⟩ : ∃ u, w2.drewN nk = u := ⟨_, rfl⟩
     rw [hw3] at uL ⊢
     clear hw3 o7
     have o7 := uL
     clear uL
     obtain ⟨w2, hw2⟩ : ∃ u, w3 = u := ⟨_, rfl⟩
     rw [hw2] at o7 ⊢
     clear hw2
     go_wp2_with fail
     refine (pq x2 17 17 rfl (by decide) (by decide) _).mono ?_
     rintro e w3 ⟨rfl, nk, rfl⟩
     have uL := aa (aG o7.out nk)
     obtain ⟨w3, hw3⟩ : ∃ u, w2.drewN nk = u := ⟨_, rfl⟩
     rw [hw3] at uL ⊢
     clear hw3 o7
     have o7 := uL
     clear uL
     obtain ⟨w2, hw2⟩ : ∃ u, w3 = u := ⟨_, rfl⟩
     rw [hw2] at o7 ⊢
     clear hw2
     go_wp2_with fail
     refine (pq x2 19 19 rfl (by decide) (by decide) _).mono ?_
     rintro e w3 ⟨rfl, nk, rfl⟩
     have uL := aa (aG o7.out nk)
     obtain ⟨w3, hw3⟩ : ∃ u, w2.drewN nk = u := ⟨_, rfl⟩
     rw [hw3] at uL ⊢
     clear hw3 o7
     have o7 := uL
     clear uL
     obtain ⟨w2, hw2⟩ : ∃ u, w3 = u := ⟨_, rfl⟩
     rw [hw2] at o7 ⊢
     clear hw2
     obtain ⟨r7, Ue⟩ : ∃ r, iG Jh 7 = r := ⟨_, rfl⟩
     obtain ⟨r18, Gj⟩ : ∃ r, iG Jh 18 = r := ⟨_, rfl⟩
     obtain ⟨r17, Gl⟩ : ∃ r, iG x2 17 = r := ⟨_, rfl⟩
     obtain ⟨r19, Gi⟩ : ∃ r, iG x2 19 = r := ⟨_, rfl⟩
     rw [Ue, Gj, Gl, Gi]
     obtain ⟨s0, hs0⟩ : ∃ r, bits .xor .u32 (bits .xor .u32 r7 r18) (Jh / 8) = r := ⟨_, rfl⟩
     obtain ⟨s1, hs1⟩ : ∃ r, bits .xor .u32 (bits .xor .u32 r17 r19) (x2 / 1024) = r := ⟨_, rfl⟩
     have Z7 : Hid (SA Jh = s0) := aa (by rw [SA, Ue, Gj, hs0])
     have Z6 : Hid (Sz x2 = s1) := aa (by rw [Sz, Gl, Gi, hs1])
     clear Ue Gj Gl Gi
     go_wp2
     clear hs0 hs1
     obtain ⟨V, hV⟩ : ∃ V, IntKind.u32.wrap (IntKind.u32.wrap (IntKind.u32.wrap (VK + s0) + x7) + s1) = V := ⟨_, rfl⟩
     have HV := aa hV
     have HN : Hid (ni (t + 1 - 16) (dB blk 16) = L ++ [V]) := aa (by
      rw [Fv.out, Z7.out, Z6.out, ← hV]
      rfl)
     have yO := aa ((HO.out.keep o7.out))
     have kL := aa (ag mZ.out o7.out)
     have yN : Hid (w2.cell? ⟨g, t - 16, none⟩ = some (.int .u32 VK) ∧ w2.cell? ⟨g, t - 7, none⟩ = some (.int .u32 x7)) := aa ⟨cell_below H16.out o7.out, cell_below H7.out o7.out⟩
     have q16 : IntKind.i64.wrap ((t : Int) - 16) = (t : Int) - 16 := IntWalk.i64_in _ (by omega)
     have q7 : IntKind.i64.wrap ((t : Int) - 7) = (t : Int) - 7 := IntWalk.i64_in _ (by omega)
     have k16 : (16 : Int) ≤ (t : Int) := by omega
     have k7 : (7 : Int) ≤ (t : Int) := by omega
     have l16 : (t : Int) - 16 < (t : Int) := by omega
     have l7 : (t : Int) - 7 < (t : Int) := by omega
     clear hV HO mZ H16 H7 Fv Z7 Z6
     refine bJ (S := fun w' => w'.cell? ⟨g, t - 16, none⟩ = some (.int .u32 VK) ∧ w'.cell? ⟨g, t - 7, none⟩ = some (.int .u32 x7)) (E := [17, 18]) (by kernel_rfl) (⟨cell_below yN.out.1 (Below.refl _ _).drew, cell_below yN.out.2 (Below.refl _ _).drew⟩) (fun hHeld => ?_)
     refine bQ 0 ?_
     refine bQ 1 ?_
     refine bQ 2 ?_
     refine bQ 3 ?_
     refine bQ 4 ?_
     refine bQ 5 ?_
     refine bQ 6 ?_
     refine bQ 7 ?_
     refine bQ 8 ?_
     refine bQ 9 ?_
     refine bQ 10 ?_
     refine bQ 11 ?_
     refine bQ 12 ?_
     refine bQ 13 ?_
     refine bQ 14 ?_
     refine bQ 15 ?_
     refine bY 16 fun K hK => ?_
     go_simp
     refine hK.out _ _ ?_ (fun hHeld => ?_)
     ·
      rw [HV.out]
      exact ⟨cell_below yN.out.1 (af _ _).drew, cell_below yN.out.2 (af _ _).drew⟩
     clear hK K
     try simp only [qq]
     refine mR 17 fun K hK => ?_
     try rw [HV.out]
     have MM := (yO.out.keep ((af w2 (.cells #[.int .u32 V] 209)).drew)).row ry.out
     have hbs := kL.out.size
     refine step_append_lies _ (by rfl) _ _ _ (by rfl) (w.heap.size) 209 i0 _ 1 4 Tryz.underlying176 hi hz0 hz1 hz2 rfl (by omega) (.slice (some ⟨g, 0, none⟩) t cp) t (L.map (.int .u32)) (by rfl) MM ⟨w2.heap.size, 0, none⟩ 1 1 [.int .u32 V] (by rfl) (by rfl) (World.news_of_block (cs := #[.int .u32 V]) (t := 209) (fr := (0, 0)) (heap_alloc_new w2 _)) (by simp [Value.oneCell']) (by omega) (by unfold maxLen; omega) (by omega) (by simp; omega) (w2.heap.size + 1) (by simp) ?_
     intro g5 cap5 w5 hown5 qm Ur Ui
     refine hK.out _ _ ?_
     clear hK K
     try simp only [qq]
     refine mR 18 fun K hK => ?_
     go_simp
     refine hK.out _ _ ?_
     clear hK K
     try simp only [qq]
     refine gH ?_
     have xC : Hid (aR .u32 209 w5 w.heap.size (.slice (some ⟨g5, 0, none⟩) (t + 1) cap5) (ni (t + 1 - 16) (dB blk 16))) := aa (by
      rw [HN.out]
      exact aR.app ry.out.symm rfl hown5)
     have jZ : Hid (Below w.heap.size w w5) := aa (Below.grown (ag kL.out (af _ _).drew) qm (by have := kL.out.size; simp; omega) (fun j hj => (World.ownsRow.lt MM j hj).1))
     clear hown5 qm MM yO HN Ur Ui yN
     go_wp2
     go_roundw
     case rel => exact ⟨t + 1, g5, cap5, by omega, by omega, by go_num, rfl, xC, jZ⟩
     case measure => simp [intOf]; omega
    ·
     have HOf : Hid (aR .u32 209 wr w.heap.size (.slice (some ⟨g, 0, none⟩) t cp) (dN blk)) := aa (by
      have h := HO.out
      rwa [show t - 16 = 48 by omega, show ni 48 (dB blk 16) = dN blk from rfl] at h)
     clear HO
     go_wp2
     go_ret
     exact ⟨_, rfl, HOf.out, mZ.out⟩
theorem Sk.set_ne {K : IntKind} {w : World} {a j : Nat} {A : Option Addr} {l : List Int} {v : Value} (h : Sk K w A l) (hne : ∀ b o, A = some ⟨b, o, none⟩ → b ≠ a) : Sk K (w.setCell ⟨a, j, none⟩ v) A l := fun i hi => by
 obtain ⟨b, o, e, hc⟩ := h i hi
 refine ⟨b, o, e, ?_⟩
 rw [World.cell?_setCell_other _ _ _ _ (fun e2 => hne b o e (by cases e2; rfl))]
 exact hc
theorem LW (s : St) (i : Nat) (hi : i < 32) : (nI s).getD i 0 = s.list.getD (i / 4) 0 / 2 ^ (24 - 8 * (i % 4)) % 256 := by
 have h := Ip s (i / 4) (by omega) (i % 4) (by omega)
 rwa [show 4 * (i / 4) + i % 4 = i by omega] at h
theorem SC (e : Int) : bits .xor .u32 (bits .xor .u32 (iG e 2) (iG e 13)) (iG e 22) = Zp e := rfl
theorem TH (a b c : Int) : bits .xor .u32 (bits .xor .u32 (bits .and .u32 a b) (bits .and .u32 a c)) (bits .and .u32 b c) = Zt a b c := rfl
theorem Wo (a b c : Int) : (Zp a + Zt a b c) % 4294967296 = Wn a b c := rfl
theorem DY (b o c : Nat) (l : List Int) (n : Nat) (hn : Hid (l.length = n)) (hn0 : 0 < n) (hbig : n ≤ 1000000) (hby : Hid (aC l = true)) (w : World) (hs : Hid (Sk .u8 w (some ⟨b, o, none⟩) l)) :
  Calls Tryz.prog 180 #[.slice (some ⟨b, o, none⟩) n c] w (Rt w (.agg (arr .u8 (qb l)))) := by
 obtain ⟨i0, hi, hz0, hz1, hz2⟩ := info_parts Ie
 obtain ⟨W, hW⟩ : ∃ W, w.alloc (.cells z32 41) = W := ⟨_, rfl⟩
 have bT : Hid (Below w.heap.size w W) := aa (by rw [← hW]; exact af _ _)
 have eG : Hid (bH .u8 41 W w.heap.size (dz 32)) := aa (by
  rw [← hW, jd]
  exact bH.new _ _)
 have lu : Hid (W.heap.size = w.heap.size + 1) := aa (by rw [← hW]; simp)
 obtain ⟨W1, hW1⟩ : ∃ u, W.alloc (.cells #[.int .u32 1779033703, .int .u32 3144134277, .int .u32 1013904242, .int .u32 2773480762, .int .u32 1359893119, .int .u32 2600822924, .int .u32 528734635, .int .u32 1541459225] 209) = u := ⟨_, rfl⟩
 have HB1 : Hid (Below W.heap.size W W1) := aa (by rw [← hW1]; exact af _ _)
 have HH1 : Hid (bH .u32 209 W1 W.heap.size st0.list) := aa (by
  rw [← hW1]
  exact bH.new W st0.list)
 have Yz : Hid (W1.heap.size = W.heap.size + 1) := aa (by rw [← hW1]; simp)
 have HS := aa ((hs.out.below bT.out).below HB1.out)
 have HW := aa hW
 have HW1 := aa hW1
 clear hW hW1 hs
 go_in
 go_wp2_with fail
 rw [HW.out, HW1.out]
 refine (FW _).mono ?_
 rintro e w2 ⟨rfl, hw2⟩
 have HB2 : Hid (Below W1.heap.size W1 w2) := aa (by rw [← hw2]; exact af _ _)
 have HK2 : Hid (bH .u32 209 w2 W1.heap.size KL) := aa (by rw [← hw2]; exact bH.new _ _)
 have Yy : Hid (w2.heap.size = W1.heap.size + 1) := aa (by rw [← hw2]; simp)
 clear hw2 HW HW1
 go_wp2_with fail
 refine (DZ b o c l n hn hn0 hbig _ (aa (HS.out.below HB2.out))).mono ?_
 rintro e w3 ⟨vp, rfl, hop, hb3⟩
 obtain ⟨M, hM⟩ : ∃ M, (nS l).length = 64 * M := ⟨(nS l).length / 64, by have := Eb l; omega⟩
 have hM2 : 64 * M ≤ n + 200 := by rw [rH, hn.out, l9] at hM; omega
 obtain ⟨gp, XU, e4, hgp, hcap, Ez, Uc⟩ := hop.cells (by rw [rH]; omega)
 rw [hM] at e4 hcap
 subst e4
 obtain ⟨P, hP⟩ : ∃ P, nS l = P := ⟨_, rfl⟩
 have Xv : aC P = true := by rw [← hP]; exact zq hby.out
 rw [hP] at Uc hM
 have HP : Kp (nS l = P) := ⟨hP⟩
 have HM := aa hM
 have HPB := aa Xv
 have YC := aa Uc
 have HB3 := aa hb3
 have hcm : XU ≤ 9223372036854775807 := by simpa [maxLen] using Ez
 have Y4 := aa ((HH1.out.below HB2.out).below HB3.out)
 have YU := aa (HK2.out.below HB3.out)
 have vZ := aa (ag (ag HB1.out HB2.out) HB3.out)
 obtain ⟨bk, hbk⟩ : ∃ g, W1.heap.size = g := ⟨_, rfl⟩
 have aaU : W.heap.size < bk := by have := Yz.out; omega
 have ae3 : bk < gp := by have := Yy.out; omega
 rw [hbk] at YU ⊢
 obtain ⟨bh, Zx⟩ : ∃ g, w.heap.size + 1 = g := ⟨_, rfl⟩
 rw [lu.out, Zx] at Y4 aaU
 rw [Zx]
 have HBH : Hid (W.heap.size = bh) := aa (lu.out.trans Zx)
 clear hP hM Xv Uc hb3 hop Ez hbk Zx HB1 HH1 HB2 HK2 HB3 HS
 go_wp2
 go_loopw [6] (fun i u => ∃ (k : Nat), k ≤ M ∧ i = .int .i64 (64 * (k : Int)) ∧ Hid (bH .u32 209 u bh (lH P k).list) ∧ Hid (bH .u32 209 u bk KL) ∧ Hid (Sk .u8 u (some ⟨gp, 0, none⟩) P) ∧ Hid (Below W.heap.size W u)) (fun i _ => 64 * M - (intOf i).toNat)
 case atStart => exact ⟨0, by omega, by simp, Y4, YU, YC, vZ⟩
 case round =>
  obtain ⟨k, hk, rfl, HH, HK, ZM, aF⟩ := hrel
  by_cases hkM : k < M
  ·
   obtain ⟨⟨xa, xb, xc, xd, xe, xf, xg, xh⟩, hS⟩ : ∃ T, lH P k = T := ⟨_, rfl⟩
   rw [hS] at HH
   have Du : Kp (lH P k = ⟨xa, xb, xc, xd, xe, xf, xg, xh⟩) := ⟨hS⟩
   have Rb : Hid ((fU P k).length = 64) := aa (xS (by have := HM.out; omega))
   have Fx : Hid (aC (fU P k) = true) := aa (t_ HPB.out k)
   have HSb : Hid (Sk .u8 wr (some ⟨gp, 64 * k, none⟩) (fU P k)) := aa (by
    have h := (ZM.out.drop (n := 64 * k)).take (n := 64)
    rwa [Nat.zero_add] at h)
   have c1 : (64 * (k : Int)).toNat = 64 * k := by omega
   have c2 : (64 * (k : Int) + 64).toNat = 64 * k + 64 := by omega
   clear hS
   go_wp2_with fail
   refine (FQ gp (64 * k) (XU - 64 * k) (fU P k) Rb Fx _ HSb (by omega)).mono ?_
   rintro e w4 ⟨vw, rfl, how, hb4⟩
   obtain ⟨gw, afy, rfl, hgw, -, -, Ub⟩ := how.cells (by rw [jr]; decide)
   rw [jr]
   obtain ⟨ws, hws⟩ : ∃ l, dN (fU P k) = l := ⟨_, rfl⟩
   have I7 : Hid (ws.length = 64) := aa (by rw [← hws, jr])
   have Yl : Kp (dN (fU P k) = ws) := ⟨hws⟩
   rw [hws] at Ub
   have OC := aa Ub
   have ZY := aa (HH.out.below hb4)
   have HK4 := aa (HK.out.below hb4)
   have Yv := aa (ZM.out.below hb4)
   have kL := aa (ag aF.out hb4)
   have hbz : bh < w4.heap.size := ZY.out.lt
   clear hws Ub how hb4 HH HK ZM aF HSb Rb Fx
   have hown : (w4.alloc (.cells #[] 209)).ownsRow w4.heap.size 209 1 (.slice (some ⟨w4.heap.size, 0, none⟩) 0 0) 0 [] := nG (K := .u32) w4
   go_wp2_with (at_builtin; refine wpList_append_own _ rfl _ _ 176 rfl w4.heap.size 209 i0 (.int .u32 0) 1 4 Tryz.underlying176 hi hz0 hz1 hz2 rfl (by decide) _ _ _ rfl hown ⟨bh, 0, none⟩ 8 8 ((St.mk xa xb xc xd xe xf xg xh).list.map (.int .u32)) rfl rfl ((ZY.out.old (.cells #[] 209)).sk.news) (ints_oneCell .u32 _) (by decide) (by decide) (by simp) ?_; intro v5 w5 hown5 qm _)
   have xC : Hid (aR .u32 209 w5 w4.heap.size v5 (St.mk xa xb xc xd xe xf xg xh).list) := aa (aR.app (xs := []) (ys := (St.mk xa xb xc xd xe xf xg xh).list) (m := 8) rfl rfl hown5)
   have Ky : Hid (Below w4.heap.size w4 w5) := aa ((af w4 (.cells #[] 209)).grown qm (by simp) (fun j hj => by cases hj; exact Nat.le_refl _))
   have HH5 := aa (ZY.out.keepB hbz Ky.out)
   have E9 := aa (HK4.out.below Ky.out)
   have Yu := aa (Yv.out.below Ky.out)
   have YA := aa (OC.out.below Ky.out)
   have jZ := aa (ag kL.out Ky.out)
   obtain ⟨g5, cap5, e5, hg5, -, -, Cu⟩ := xC.out.cells (show 0 < 8 by decide)
   have e6 : v5 = .slice (some ⟨g5, 0, none⟩) 8 cap5 := e5
   have abO := aa Cu
   have aaO : bh < g5 := by omega
   clear hown hown5 qm xC ZY HK4 Yv kL Ky OC e5 Cu
   subst e6
   go_loopw [8, 9] (fun v i u => ∃ (t g cp : Nat) (ya yb yc yd ye yf yg yh : Int), t ≤ 64 ∧ bh < g ∧ i = .int .i64 t ∧ v = .slice (some ⟨g, 0, none⟩) 8 cp ∧ Hid (xZ ws ⟨xa, xb, xc, xd, xe, xf, xg, xh⟩ t = ⟨ya, yb, yc, yd, ye, yf, yg, yh⟩) ∧ Hid (Sk .u32 u (some ⟨g, 0, none⟩) (St.mk ya yb yc yd ye yf yg yh).list) ∧ Hid (Below w5.heap.size w5 u)) (fun _ i _ => 64 - (intOf i).toNat)
   case atStart => exact ⟨0, g5, cap5, xa, xb, xc, xd, xe, xf, xg, xh, by omega, aaO, rfl, rfl, aa rfl, abO, aa (Below.refl _ _)⟩
   case round =>
    obtain ⟨t, g, cp, ya, yb, yc, yd, ye, yf, yg, yh, ht, hgh, rfl, rfl, HR, OD, mZ⟩ := hrel
    by_cases hlt : t < 64
    ·
     have hk0 := (E9.out.below mZ.out).cell (j := t) (show t < 64 by omega)
     have hk1 := (YA.out.below mZ.out).cell (j := t) (by have := I7.out; omega)
     rw [Nat.zero_add] at hk1
     have hnx : xZ ws ⟨xa, xb, xc, xd, xe, xf, xg, xh⟩ (t + 1) = Wq ⟨ya, yb, yc, yd, ye, yf, yg, yh⟩ (KL.getD t 0) (ws.getD t 0) := by rw [xZ, HR.out]
     obtain ⟨kc, XK⟩ : ∃ x, KL.getD t 0 = x := ⟨_, rfl⟩
     obtain ⟨wc, XJ⟩ : ∃ x, ws.getD t 0 = x := ⟨_, rfl⟩
     rw [XK] at hk0 hnx
     rw [XJ] at hk1 hnx
     have Fv := aa hnx
     have HCV : Hid (wr.cell? ⟨g, 0 + 0, none⟩ = some (.int .u32 ya) ∧ wr.cell? ⟨g, 0 + 1, none⟩ = some (.int .u32 yb) ∧ wr.cell? ⟨g, 0 + 2, none⟩ = some (.int .u32 yc) ∧ wr.cell? ⟨g, 0 + 3, none⟩ = some (.int .u32 yd) ∧ wr.cell? ⟨g, 0 + 4, none⟩ = some (.int .u32 ye) ∧ wr.cell? ⟨g, 0 + 5, none⟩ = some (.int .u32 yf) ∧ wr.cell? ⟨g, 0 + 6, none⟩ = some (.int .u32 yg) ∧ wr.cell? ⟨g, 0 + 7, none⟩ = some (.int .u32 yh)) := aa ⟨OD.out.cell (j := 0) (show 0 < 8 by decide), OD.out.cell (j := 1) (show 1 < 8 by decide), OD.out.cell (j := 2) (show 2 < 8 by decide), OD.out.cell (j := 3) (show 3 < 8 by decide), OD.out.cell (j := 4) (show 4 < 8 by decide), OD.out.cell (j := 5) (show 5 < 8 by decide), OD.out.cell (j := 6) (show 6 < 8 by decide), OD.out.cell (j := 7) (show 7 < 8 by decide)⟩
     obtain ⟨va, vb, vc, vd, ve, vf, vg, vh⟩ := HCV.out
     have q0 : IntKind.i64.wrap (t : Int) = (t : Int) := IntWalk.i64_in _ (by omega)
     have p64 : (t : Int) < 64 := by omega
     clear hnx XK XJ OD HCV
     go_wp2_with fail
     go_quiet ((go_at_call 214; exact Ik (zf _ _ (by decide) (by decide) _)))
     rw [RP, K_, Rj]
     obtain ⟨X, hX⟩ : ∃ X, SF ye yf yg yh kc wc = X := ⟨_, rfl⟩
     rw [hX]
     have HX := aa hX
     have Aa := aa (aG mZ.out nq)
     obtain ⟨yw⟩ : Kp ((wr.drewN nq).cell? ⟨g, 0 + 0, none⟩ = some (.int .u32 ya) ∧ (wr.drewN nq).cell? ⟨g, 0 + 1, none⟩ = some (.int .u32 yb) ∧ (wr.drewN nq).cell? ⟨g, 0 + 2, none⟩ = some (.int .u32 yc) ∧ (wr.drewN nq).cell? ⟨g, 0 + 3, none⟩ = some (.int .u32 yd) ∧ (wr.drewN nq).cell? ⟨g, 0 + 4, none⟩ = some (.int .u32 ye) ∧ (wr.drewN nq).cell? ⟨g, 0 + 5, none⟩ = some (.int .u32 yf) ∧ (wr.drewN nq).cell? ⟨g, 0 + 6, none⟩ = some (.int .u32 yg) ∧ (wr.drewN nq).cell? ⟨g, 0 + 7, none⟩ = some (.int .u32 yh)) := ⟨⟨by simpa using va, by simpa using vb, by simpa using vc, by simpa using vd, by simpa using ve, by simpa using vf, by simpa using vg, by simpa using vh⟩⟩
     obtain ⟨w6, hw6⟩ : ∃ u, wr.drewN nq = u := ⟨_, rfl⟩
     rw [hw6] at Aa yw ⊢
     clear hX hw6 hk0 hk1 mZ va vb vc vd ve vf vg vh
     obtain ⟨va, vb, vc, vd, ve, vf, vg, vh⟩ := yw
     go_wp2_with fail
     go_quiet ((go_at_call 214; exact Ik (zf _ _ (by decide) (by decide) _)))
     rw [SC, TH, Wo]
     obtain ⟨Y, hY⟩ : ∃ Y, Wn ya yb yc = Y := ⟨_, rfl⟩
     rw [hY]
     have HR2 : Hid (xZ ws ⟨xa, xb, xc, xd, xe, xf, xg, xh⟩ (t + 1) = ⟨IntKind.u32.wrap (X + Y), ya, yb, yc, IntKind.u32.wrap (yd + X), ye, yf, yg⟩) := aa (by
      rw [Fv.out, LF, HX.out, hY, iT, iT])
     have Ku := aa (aG Aa.out nq)
     have yu : Kp ((w6.drewN nq).cell? ⟨g, 0 + 0, none⟩ = some (.int .u32 ya) ∧ (w6.drewN nq).cell? ⟨g, 0 + 1, none⟩ = some (.int .u32 yb) ∧ (w6.drewN nq).cell? ⟨g, 0 + 2, none⟩ = some (.int .u32 yc) ∧ (w6.drewN nq).cell? ⟨g, 0 + 3, none⟩ = some (.int .u32 yd) ∧ (w6.drewN nq).cell? ⟨g, 0 + 4, none⟩ = some (.int .u32 ye) ∧ (w6.drewN nq).cell? ⟨g, 0 + 5, none⟩ = some (.int .u32 yf) ∧ (w6.drewN nq).cell? ⟨g, 0 + 6, none⟩ = some (.int .u32 yg)) := ⟨⟨by simpa using va, by simpa using vb, by simpa using vc, by simpa using vd, by simpa using ve, by simpa using vf, by simpa using vg⟩⟩
     obtain ⟨w7, hw7⟩ : ∃ u, w6.drewN nq = u := ⟨_, rfl⟩
     rw [hw7] at Ku yu ⊢
     clear hY hw7 Aa va vb vc vd ve vf vg vh Fv HX
     obtain ⟨X2, hX2⟩ : ∃ z, IntKind.u32.wrap (X + Y) = z := ⟨_, rfl⟩
     obtain ⟨Y2, hY2⟩ : ∃ z, IntKind.u32.wrap (yd + X) = z := ⟨_, rfl⟩
     rw [hX2, hY2] at HR2
     have Aj := aa hX2
     have Ob := aa hY2
     clear hX2 hY2
     go_wp2_with fail
     refine bJ (S := fun w' => w'.cell? ⟨g, 0 + 0, none⟩ = some (.int .u32 ya) ∧ w'.cell? ⟨g, 0 + 1, none⟩ = some (.int .u32 yb) ∧ w'.cell? ⟨g, 0 + 2, none⟩ = some (.int .u32 yc) ∧ w'.cell? ⟨g, 0 + 3, none⟩ = some (.int .u32 yd) ∧ w'.cell? ⟨g, 0 + 4, none⟩ = some (.int .u32 ye) ∧ w'.cell? ⟨g, 0 + 5, none⟩ = some (.int .u32 yf) ∧ w'.cell? ⟨g, 0 + 6, none⟩ = some (.int .u32 yg)) (E := []) (by kernel_rfl) (⟨cell_below (yu.out.1) (Below.refl _ _).drew, cell_below (yu.out.2.1) (Below.refl _ _).drew, cell_below (yu.out.2.2.1) (Below.refl _ _).drew, cell_below (yu.out.2.2.2.1) (Below.refl _ _).drew, cell_below (yu.out.2.2.2.2.1) (Below.refl _ _).drew, cell_below (yu.out.2.2.2.2.2.1) (Below.refl _ _).drew, cell_below (yu.out.2.2.2.2.2.2) (Below.refl _ _).drew⟩) (fun hHeld => ?_)
     refine bQ 0 ?_
     refine bQ 1 ?_
     refine bQ 2 ?_
     refine bQ 3 ?_
     refine bQ 4 ?_
     refine bQ 5 ?_
     refine bQ 6 ?_
     refine bQ 7 ?_
     refine bQ 8 ?_
     refine bQ 9 ?_
     refine bQ 10 ?_
     refine bQ 11 ?_
     refine bQ 12 ?_
     refine bQ 13 ?_
     refine bQ 14 ?_
     refine bQ 15 ?_
     refine bQ 16 ?_
     refine bQ 17 ?_
     refine bQ 18 ?_
     refine bQ 19 ?_
     refine bQ 20 ?_
     refine bQ 21 ?_
     refine bQ 22 ?_
     refine bQ 23 ?_
     refine bQ 24 ?_
     refine bQ 25 ?_
     refine bY 26 fun K hK => ?_
     go_simp
     refine hK.out _ _ ?_ (fun hHeld => ?_)
     ·
      rw [Aj.out, Ob.out]
      exact ⟨cell_below (yu.out.1) (af _ _).drew, cell_below (yu.out.2.1) (af _ _).drew, cell_below (yu.out.2.2.1) (af _ _).drew, cell_below (yu.out.2.2.2.1) (af _ _).drew, cell_below (yu.out.2.2.2.2.1) (af _ _).drew, cell_below (yu.out.2.2.2.2.2.1) (af _ _).drew, cell_below (yu.out.2.2.2.2.2.2) (af _ _).drew⟩
     clear hK K
     try simp only [qq]
     refine bQ 27 ?_
     refine gH ?_
     rw [Aj.out, Ob.out]
     have abP : Hid (Sk .u32 (w7.alloc (.cells #[.int .u32 X2, .int .u32 ya, .int .u32 yb, .int .u32 yc, .int .u32 Y2, .int .u32 ye, .int .u32 yf, .int .u32 yg] 209)).drew (some ⟨w7.heap.size, 0, none⟩) (St.mk X2 ya yb yc Y2 ye yf yg).list) := aa ((bH.new w7 (St.mk X2 ya yb yc Y2 ye yf yg).list).sk.below (Below.refl _ _).drew)
     have acK : Hid (Below w5.heap.size w5 (w7.alloc (.cells #[.int .u32 X2, .int .u32 ya, .int .u32 yb, .int .u32 yc, .int .u32 Y2, .int .u32 ye, .int .u32 yf, .int .u32 yg] 209)).drew) := aa (ag Ku.out (af _ _).drew)
     have hg7 : bh < w7.heap.size := by have := Ku.out.size; have := HH5.out.lt; omega
     clear yu Aj Ob Ku hHeld
     go_wp2_with fail
     go_roundw
     case rel => exact ⟨t + 1, w7.heap.size, 8, X2, ya, yb, yc, Y2, ye, yf, yg, by omega, hg7, by go_num, rfl, HR2, abP, acK⟩
     case measure => simp [intOf]; omega
    ·
     have jF : Kp (xZ (dN (fU P k)) ⟨xa, xb, xc, xd, xe, xf, xg, xh⟩ 64 = ⟨ya, yb, yc, yd, ye, yf, yg, yh⟩) := ⟨by
      have h := HR.out
      rwa [show t = 64 by omega, ← Yl.out] at h⟩
     have HT : Kp (lH P (k + 1) = QH ⟨xa, xb, xc, xd, xe, xf, xg, xh⟩ ⟨ya, yb, yc, yd, ye, yf, yg, yh⟩) := ⟨by rw [lH, Du.out, Eh, jF.out]⟩
     have HH6 : Hid (bH .u32 209 wr bh (r_ (St.mk xa xb xc xd xe xf xg xh).list (St.mk ya yb yc yd ye yf yg yh).list 0)) := aa (by
      rw [BG rfl]
      exact HH5.out.below mZ.out)
     have ZW := aa (E9.out.below mZ.out)
     have abJ := aa (Yu.out.below mZ.out)
     have m_ := aa (ag jZ.out mZ.out)
     clear HR mZ HH5 E9 Yu jZ YA Yl I7 jF Du
     go_wp2_with fail
     go_loopw [12] (fun i u => ∃ m : Nat, m ≤ 8 ∧ i = .int .i64 m ∧ Hid (bH .u32 209 u bh (r_ (St.mk xa xb xc xd xe xf xg xh).list (St.mk ya yb yc yd ye yf yg yh).list m)) ∧ Hid (bH .u32 209 u bk KL) ∧ Hid (Sk .u8 u (some ⟨gp, 0, none⟩) P) ∧ Hid (Sk .u32 u (some ⟨g, 0, none⟩) (St.mk ya yb yc yd ye yf yg yh).list) ∧ Hid (Below W.heap.size W u)) (fun i _ => 8 - (intOf i).toNat)
     case atStart => exact ⟨0, by omega, rfl, HH6, ZW, abJ, OD, m_⟩
     case round =>
      obtain ⟨m, hm, rfl, VW, HKm, U9, QO, uK⟩ := hrel
      by_cases hlm : m < 8
      ·
       have hc := VW.out.cell (j := m) (by rw [r9]; exact hlm)
       have hf := VW.out.free m
       rw [EX hlm] at hc
       have hv := QO.out.cell (j := m) (show m < 8 from hlm)
       rw [Nat.zero_add] at hv
       obtain ⟨s0, e0⟩ : ∃ x, (St.mk xa xb xc xd xe xf xg xh).list.getD m 0 = x := ⟨_, rfl⟩
       obtain ⟨v0, e1⟩ : ∃ x, (St.mk ya yb yc yd ye yf yg yh).list.getD m 0 = x := ⟨_, rfl⟩
       have hst := EW (s := (St.mk xa xb xc xd xe xf xg xh).list) (v := (St.mk ya yb yc yd ye yf yg yh).list) hlm
       rw [e0, e1, add32, iT] at hst
       rw [e0] at hc
       rw [e1] at hv
       obtain ⟨V, hV⟩ : ∃ V, (s0 + v0) % 4294967296 = V := ⟨_, rfl⟩
       have HV := aa hV
       rw [hV] at hst
       have Q4 : Hid (bH .u32 209 (wr.setCell ⟨bh, m, none⟩ (.int .u32 V)).drew bh (r_ (St.mk xa xb xc xd xe xf xg xh).list (St.mk ya yb yc yd ye yf yg yh).list (m + 1))) := aa (by
        rw [← hst]
        exact (VW.out.set).below (Below.refl _ _).drew)
       have HK7 : Hid (bH .u32 209 (wr.setCell ⟨bh, m, none⟩ (.int .u32 V)).drew bk KL) := aa ((HKm.out.set_ne (by omega)).below (Below.refl _ _).drew)
       have abI : Hid (Sk .u8 (wr.setCell ⟨bh, m, none⟩ (.int .u32 V)).drew (some ⟨gp, 0, none⟩) P) := aa ((U9.out.set_ne (fun b o e => by cases e; omega)).below (Below.refl _ _).drew)
       have abN : Hid (Sk .u32 (wr.setCell ⟨bh, m, none⟩ (.int .u32 V)).drew (some ⟨g, 0, none⟩) (St.mk ya yb yc yd ye yf yg yh).list) := aa ((QO.out.set_ne (fun b o e => by cases e; omega)).below (Below.refl _ _).drew)
       have uo : Hid (Below W.heap.size W (wr.setCell ⟨bh, m, none⟩ (.int .u32 V)).drew) := aa (uK.out.setCell (by have := HBH.out; simp; omega) _).drew
       clear hst e0 e1 VW HKm U9 QO uK hV
       go_wp2
       go_region
       rw [HV.out]
       clear hc hf hv
       go_wp2
       go_roundw
       case rel => exact ⟨m + 1, by omega, by go_num, Q4, HK7, abI, abN, uo⟩
       case measure => simp [intOf]; omega
      ·
       have KM : Hid (bH .u32 209 wr bh (lH P (k + 1)).list) := aa (by
        have h := VW.out
        rwa [show m = 8 by omega, EY, ← HT.out] at h)
       clear VW QO HT
       go_wp2_with fail
       go_roundw
       case rel => exact ⟨k + 1, by omega, by first | rfl | (congr 1; omega), KM, HKm, U9, uK⟩
       case measure => simp [intOf]; omega
  ·
   obtain ⟨T, hT⟩ : ∃ T, lH P k = T := ⟨_, rfl⟩
   have Ve : Kp (qb l = nI T) := ⟨by
    rw [qb, HP.out, HM.out, show 64 * M / 64 = k by omega, hT]⟩
   rw [hT] at HH
   have hout := nH T
   have hbr := aF.out.size
   have HHl : bh < wr.heap.size := HH.out.lt
   have U3 : Hid (bH .u8 41 (wr.alloc (.cells z32 41)) wr.heap.size (pz 32 ((nI T).take 0))) := aa (by
    rw [jd]
    exact bH.new _ _)
   have qP : Hid (Below W.heap.size W (wr.alloc (.cells z32 41))) := aa (aF.out.alloc aF.out.size _)
   have KM := aa (HH.out.old (.cells z32 41))
   obtain ⟨WN, Ry⟩ : ∃ u, wr.alloc (.cells z32 41) = u := ⟨_, rfl⟩
   obtain ⟨B5, RH⟩ : ∃ x, wr.heap.size = x := ⟨_, rfl⟩
   have OI : Hid (B5 < WN.heap.size) := aa (by rw [← Ry, ← RH]; simp)
   rw [Ry] at U3 qP KM
   rw [RH] at U3 hbr HHl
   have HWN := aa Ry
   have jZ := aa RH
   have ae1 : ¬ (64 * (k : Int) < 64 * (M : Int)) := by omega
   clear hT HH ZM HK aF Ry RH hout
   go_wp2_with fail
   rw [HWN.out, jZ.out]
   go_loopw [14] (fun i u => ∃ m : Nat, m ≤ 32 ∧ i = .int .i64 m ∧ Hid (bH .u8 41 u B5 (pz 32 ((nI T).take m))) ∧ Hid (Below B5 WN u)) (fun i _ => 32 - (intOf i).toNat)
   case atStart => exact ⟨0, by omega, rfl, U3, aa (Below.refl _ _)⟩
   case round =>
    obtain ⟨m, hm, rfl, uK, Q8⟩ := hrel
    by_cases hlm : m < 32
    ·
     have hol : (nI T).length = 32 := nH _
     have hc := uK.out.cell (j := m) (by rw [FZ (by rw [List.length_take, hol]; omega)]; omega)
     have hf := uK.out.free m
     have hst := BZ (N := 32) (k := m) (l := nI T) (by rw [hol]; omega) (by omega)
     have hh := (KM.out.keepB HHl Q8.out).cell (j := m / 4) (show m / 4 < 8 by omega)
     rw [LW _ m hlm] at hst
     obtain ⟨v0, e1⟩ : ∃ x, T.list.getD (m / 4) 0 = x := ⟨_, rfl⟩
     rw [e1] at hst hh
     obtain ⟨q, hq⟩ : ∃ q, v0 / 2 ^ (24 - 8 * (m % 4)) = q := ⟨_, rfl⟩
     rw [hq] at hst
     have j0 : (0 : Int) ≤ 24 - 8 * ((m : Int) % 4) := by omega
     have j1 : (24 - 8 * ((m : Int) % 4)).toNat = 24 - 8 * (m % 4) := by omega
     have j2 : ((m : Int) / 4).toNat = m / 4 := by omega
     have j3 : (0 : Int) ≤ (m : Int) / 4 := by omega
     have j4 : (m : Int) / 4 < 8 := by omega
     have HQ := aa hq
     obtain ⟨WV, Dp⟩ : ∃ u, wr.setCell ⟨B5, m, none⟩ (.int .u8 (q % 256)) = u := ⟨_, rfl⟩
     have HB2 : Hid (bH .u8 41 WV B5 (pz 32 ((nI T).take (m + 1)))) := aa (by
      rw [← Dp, ← hst]
      exact uK.out.set)
     have VF : Hid (Below B5 WN WV) := aa (by rw [← Dp]; exact Q8.out.setCell (Nat.le_refl _) _)
     have Yk := aa Dp
     clear hst uK Q8 hol e1 Dp
     go_wp2
     try go_region
     try (rw [Yk.out])
     clear hc hf hh
     go_wp2
     go_roundw
     case rel => exact ⟨m + 1, by omega, by go_num, HB2, VF⟩
     case measure => simp [intOf]; omega
    ·
     have Kv : Hid (bH .u8 41 wr B5 (qb l)) := aa (by
      have h := uK.out
      rwa [show m = (nI T).length by rw [nH]; omega, List.take_length, B_ (nH _), ← Ve.out] at h)
     have vZ := aa (qP.out.trans (Q8.out.mono hbr))
     have RY : Hid (bH .u8 41 wr w.heap.size (dz 32)) := aa (eG.out.keepB (by have := lu.out; omega) vZ.out)
     have fM : Hid (Below w.heap.size w (wr.setRow w.heap.size (arr .u8 (qb l)))) := aa (ai (ag bT.out vZ.out) (Nat.le_refl _))
     have HRR : Hid (bH .u8 41 (wr.setRow w.heap.size (arr .u8 (qb l))) w.heap.size (qb l)) := aa RY.out.setRow
     clear uK Q8
     go_wp2_with (first
      | ((with_reducible show wpList _ _ _ (⟨some 181, _, _, _, _, _⟩ :: _) _ _); refine wpList_load_row rfl 41 _ rfl B5 rfl _ _ _ _ Kv.out Tryz.underlying41 rfl (ay (gF l)) ?_)
      | ((with_reducible show wpList _ _ _ (⟨none, _, _, _, _, _⟩ :: _) _ _); refine wpList_store_row rfl 41 _ _ rfl w.heap.size (arr .u8 (qb l)) rfl rfl _ _ RY.out (ay (gF l)) (eB (l := dz 32) rfl (gF l)) (dh _) ?_))
     exact bodyPost_ret (v := .agg (arr .u8 (qb l))) (results_cell_row (p := 2) (ty := 41) rfl _ _ w.heap.size _ _ _ _ rfl HRR.out Tryz.underlying41 rfl (ay (gF l))) rfl ⟨rfl, fM.out⟩
theorem Jy (h : List Int) (hh : Hid (h.length = 32)) (w : World) :
  Calls Tryz.prog 181 #[.slice none 0 0, .agg (arr .u8 h)] w (zV .u8 5 h w) := by
 obtain ⟨i0, hi, hz0, hz1, hz2⟩ := info_parts dS
 obtain ⟨W, hW⟩ : ∃ W, w.alloc (.cells (arr .u8 h) 41) = W := ⟨_, rfl⟩
 have bT : Hid (Below w.heap.size w W) := aa (by rw [← hW]; exact af _ _)
 have eG : Hid (bH .u8 41 W w.heap.size h) := aa (by rw [← hW]; exact bH.new _ _)
 have lu : Hid (W.heap.size = w.heap.size + 1) := aa (by rw [← hW]; simp)
 have HW := aa hW
 clear hW
 go_in
 have hown : (W.alloc (.cells #[] 5)).ownsRow W.heap.size 5 1 (.slice (some ⟨W.heap.size, 0, none⟩) 0 0) 0 [] := nG (K := .u8) W
 go_upto_region 1 with (fail)
 rw [HW.out]
 go_wp2_with (at_builtin; refine wpList_append_own_none rfl _ _ 114 rfl W.heap.size 5 i0 1 Tryz.underlying114 hi _ _ _ rfl hown rfl ?_)
 have Fu : Hid (aR .u8 5 (W.alloc (.cells #[] 5)) W.heap.size (.slice (some ⟨W.heap.size, 0, none⟩) 0 0) []) := aa (nG (K := .u8) W)
 have HB1 : Hid (Below W.heap.size W (W.alloc (.cells #[] 5))) := aa (af _ _)
 clear hown
 go_loopw [5, 6] (fun v i u => ∃ k : Nat, k ≤ 32 ∧ i = .int .i64 k ∧ Hid (aR .u8 5 u W.heap.size v (h.take k)) ∧ Hid (Below W.heap.size W u)) (fun _ i _ => 32 - (intOf i).toNat)
 case atStart => exact ⟨0, by omega, rfl, aa (by rw [List.take_zero]; exact Fu.out), HB1⟩
 case round =>
  obtain ⟨k, hk, rfl, HO, aF⟩ := hrel
  by_cases hlt : k < 32
  ·
   have hc := (eG.out.keepB (by have := lu.out; omega) aF.out).cell (j := k) (by have := hh.out; omega)
   have yx : Hid (h.take (k + 1) = h.take k ++ [h.getD k 0]) := aa (take_one (by have := hh.out; omega))
   obtain ⟨x, hx⟩ : ∃ x, h.getD k 0 = x := ⟨_, rfl⟩
   rw [hx] at hc yx
   have ry : Hid ((h.take k).length = k) := aa (by rw [List.length_take, hh.out]; omega)
   have hown := HO.out.row ry.out
   have hbs := aF.out.size
   clear hx
   go_wp2_with (at_builtin; refine wpList_append_own _ rfl _ _ 114 rfl W.heap.size 5 i0 (.int .u8 0) 1 1 Tryz.underlying114 hi hz0 hz1 hz2 rfl (by decide) _ _ _ rfl (hown.alloc _) ⟨wr.heap.size, 0, none⟩ 1 1 [.int .u8 x] rfl rfl (cell_one_new _ _ _) (ints_oneCell .u8 [x]) (by unfold maxLen; omega) (by omega) (by simp; omega) ?_; intro v2 w2 hown2 hgrow2 _)
   have pR : Hid (aR .u8 5 w2 W.heap.size v2 (h.take (k + 1))) := aa (by
    rw [yx.out]
    exact aR.app ry.out.symm rfl hown2)
   have qI : Hid (Below W.heap.size W w2) := aa (HO.out.below aF.out hbs hgrow2)
   clear hown hown2 hgrow2 HO hc
   go_roundw
   case rel => exact ⟨k + 1, by omega, by go_num, pR, qI⟩
   case measure => simp [intOf]; omega
  ·
   have pR : Hid (aR .u8 5 wr W.heap.size u5 (h)) := aa (by
    have e := HO.out
    rwa [List.take_of_length_le (by have := hh.out; omega)] at e)
   have hbf := ag bT.out aF.out
   have hle := bT.out.size
   clear HO
   go_wp2
   go_ret
   exact ⟨_, rfl, pR.out.mono hle, hbf⟩
theorem Jz (b o c : Nat) (l : List Int) (n : Nat) (hn : Hid (l.length = n)) (hn0 : 0 < n) (hbig : n ≤ 1000000) (h : List Int) (hh : Hid (h.length = 32)) (w : World) (hs : Hid (Sk .u8 w (some ⟨b, o, none⟩) l)) :
  Calls Tryz.prog 181 #[.slice (some ⟨b, o, none⟩) n c, .agg (arr .u8 h)] w (zV .u8 5 (l ++ h) w) := by
 obtain ⟨i0, hi, hz0, hz1, hz2⟩ := info_parts dS
 obtain ⟨W, hW⟩ : ∃ W, w.alloc (.cells (arr .u8 h) 41) = W := ⟨_, rfl⟩
 have bT : Hid (Below w.heap.size w W) := aa (by rw [← hW]; exact af _ _)
 have eG : Hid (bH .u8 41 W w.heap.size h) := aa (by rw [← hW]; exact bH.new _ _)
 have lu : Hid (W.heap.size = w.heap.size + 1) := aa (by rw [← hW]; simp)
 have HW := aa hW
 clear hW
 have HS := aa ((hs.out.below bT.out).below (af W (.cells #[] 5)))
 clear hs
 go_in
 have hown : (W.alloc (.cells #[] 5)).ownsRow W.heap.size 5 1 (.slice (some ⟨W.heap.size, 0, none⟩) 0 0) 0 [] := nG (K := .u8) W
 go_upto_region 1 with (fail)
 rw [HW.out]
 go_wp2_with (at_builtin; refine wpList_append_own _ rfl _ _ 114 rfl W.heap.size 5 i0 (.int .u8 0) 1 1 Tryz.underlying114 hi hz0 hz1 hz2 rfl (by decide) _ _ _ rfl hown ⟨b, o, none⟩ n c (l.map (.int .u8)) rfl (by simp [hn.out]) (HS.out.news) (ints_oneCell .u8 _) (by unfold maxLen; omega) (by omega) (by simp) ?_; intro v1 w1 hown1 hgrow1 _)
 have Fu : Hid (aR .u8 5 w1 W.heap.size v1 l) := aa (aR.app (xs := []) (ys := l) (m := n) rfl hn.out.symm hown1)
 have HB1 : Hid (Below W.heap.size W w1) := aa ((af W (.cells #[] 5)).grown hgrow1 (by simp) (fun j hj => by cases hj; exact Nat.le_refl _))
 clear hown1 hgrow1
 clear hown
 go_loopw [5, 6] (fun v i u => ∃ k : Nat, k ≤ 32 ∧ i = .int .i64 k ∧ Hid (aR .u8 5 u W.heap.size v (l ++ h.take k)) ∧ Hid (Below W.heap.size W u)) (fun _ i _ => 32 - (intOf i).toNat)
 case atStart => exact ⟨0, by omega, rfl, aa (by rw [List.take_zero, List.append_nil]; exact Fu.out), HB1⟩
 case round =>
  obtain ⟨k, hk, rfl, HO, aF⟩ := hrel
  by_cases hlt : k < 32
  ·
   have hc := (eG.out.keepB (by have := lu.out; omega) aF.out).cell (j := k) (by have := hh.out; omega)
   have yx : Hid (h.take (k + 1) = h.take k ++ [h.getD k 0]) := aa (take_one (by have := hh.out; omega))
   obtain ⟨x, hx⟩ : ∃ x, h.getD k 0 = x := ⟨_, rfl⟩
   rw [hx] at hc yx
   have ry : Hid ((l ++ h.take k).length = n + k) := aa (by rw [List.length_append, List.length_take, hh.out, hn.out]; omega)
   have hown := HO.out.row ry.out
   have hbs := aF.out.size
   clear hx
   go_wp2_with (at_builtin; refine wpList_append_own _ rfl _ _ 114 rfl W.heap.size 5 i0 (.int .u8 0) 1 1 Tryz.underlying114 hi hz0 hz1 hz2 rfl (by decide) _ _ _ rfl (hown.alloc _) ⟨wr.heap.size, 0, none⟩ 1 1 [.int .u8 x] rfl rfl (cell_one_new _ _ _) (ints_oneCell .u8 [x]) (by unfold maxLen; omega) (by omega) (by simp; omega) ?_; intro v2 w2 hown2 hgrow2 _)
   have pR : Hid (aR .u8 5 w2 W.heap.size v2 (l ++ h.take (k + 1))) := aa (by
    rw [yx.out, ← List.append_assoc]
    exact aR.app ry.out.symm rfl hown2)
   have qI : Hid (Below W.heap.size W w2) := aa (HO.out.below aF.out hbs hgrow2)
   clear hown hown2 hgrow2 HO hc
   go_roundw
   case rel => exact ⟨k + 1, by omega, by go_num, pR, qI⟩
   case measure => simp [intOf]; omega
  ·
   have pR : Hid (aR .u8 5 wr W.heap.size u5 (l ++ h)) := aa (by
    have e := HO.out
    rwa [List.take_of_length_le (by have := hh.out; omega)] at e)
   have hbf := ag bT.out aF.out
   have hle := bT.out.size
   clear HO
   go_wp2
   go_ret
   exact ⟨_, rfl, pR.out.mono hle, hbf⟩
theorem fZ {P : Program} {S : World → Prop} {o : Oper} {a : Act} (ty : TypeId) (x : Operand) (ho : o.op = .load ty x)
  (g : Nat) (hx : a.eval x = .pointer (some ⟨g, 0, none⟩)) (t : TypeId) (cs : Array Value) (fr : Nat × Nat) (d : TypeDesc) (hg : ∀ w, S w → w.heap[g]? = some (.cells cs t fr))
  (hu : P.underlying ty = some d) (hd : (match d with | .struct _ | .array _ _ => true | _ => false) = true) (hi : (P.info? ty).map (·.size) = some cs.size) :
  ∀ w, S w → (execOp a.eval o).run P w = .ok (.value (.agg cs)) w := fun w hw => by
 unfold execOp
 simp only [ho, hx, Instr.loadAt, Instr.sureAddr, Sem.run_bind, Sem.run_pure, Result.andThen_ok, run_loadVar_row w g t ty cs fr d (hg w hw) hu hd hi]
theorem lJ (s : ByteArray) (hs1 : 1 ≤ s.size) (hs2 : s.size ≤ 100) (b o c : Nat) (l : List Int) (n : Nat) (hn : Hid (l.length = n)) (hn0 : 0 < n) (hbig : n ≤ 900000) (hby : Hid (aC l = true)) (w : World) (hs : Hid (Sk .u8 w (some ⟨b, o, none⟩) l)) :
  Calls Tryz.prog 144 #[.string s, .slice (some ⟨b, o, none⟩) n c] w (Rt w (.agg (arr .u8 (tagged (aX s) l)))) := by
 obtain ⟨i0, hi, hz0, hz1, hz2⟩ := info_parts dS
 obtain ⟨W, hW⟩ : ∃ W, w.alloc (.cells z32 41) = W := ⟨_, rfl⟩
 have bT : Hid (Below w.heap.size w W) := aa (by rw [← hW]; exact af _ _)
 have eG : Hid (bH .u8 41 W w.heap.size (dz 32)) := aa (by
  rw [← hW, jd]
  exact bH.new _ _)
 have lu : Hid (W.heap.size = w.heap.size + 1) := aa (by rw [← hW]; simp)
 have HS := aa (hs.out.below bT.out)
 have HW := aa hW
 have hcv := fun w => run_bytes_of_string (P := Tryz.prog) w 9 114 5 s Tryz.underlying9 Tryz.underlying114 Tryz.underlying5
 clear hW hs
 go_in
 go_wp2_with fail
 rw [HW.out]
 clear hcv HW
 obtain ⟨Wc, hWc⟩ : ∃ u, (W.alloc (.cells (bytesRow s (grownCap W s.size 0 5)) 5 ((bytesRow s (grownCap W s.size 0 5)).size, (bytesRow s (grownCap W s.size 0 5)).size + 1))).drew = u := ⟨_, rfl⟩
 have su : Hid (Below W.heap.size W Wc) := aa (by rw [← hWc]; exact (af _ _).drew)
 have HSc : Hid (Sk .u8 Wc (some ⟨w.heap.size + 1, 0, none⟩) (aX s)) := aa (by
  rw [← hWc, ← lu.out]
  exact mh (heap_alloc_new W _))
 obtain ⟨gc, hgc⟩ : ∃ g, grownCap W s.size 0 5 = g := ⟨_, rfl⟩
 rw [hWc, hgc]
 clear hWc hgc
 refine (DY (w.heap.size + 1) 0 gc (aX s) s.size (aa (bE s)) (by omega) (by omega) (aa (ja s)) _ HSc).mono ?_
 rintro e w1 ⟨rfl, hb1⟩
 have HB1 := aa (ag su.out hb1)
 clear hb1 HSc su
 obtain ⟨t, ht⟩ : ∃ t, qb (aX s) = t := ⟨_, rfl⟩
 have htl : t.length = 32 := by rw [← ht]; exact gF _
 have htb : aC t = true := by rw [← ht]; exact iU _
 have HT : Kp (qb (aX s) = t) := ⟨ht⟩
 have yM := aa htl
 have HTB := aa htb
 rw [ht]
 clear ht htl htb
 go_upto_region 2 with ((with_reducible show wpList _ _ _ (⟨none, _, _, _, _, _⟩ :: _) _ _); refine wpList_store_row rfl 41 _ _ rfl w1.heap.size (arr .u8 t) rfl rfl _ _ (heap_alloc_new _ _) (ay yM.out) (eB (l := dz 32) rfl yM.out) (dh _) ?_)
 rw [World.setRow_alloc_new]
 simp only [Act.put]
 have HB2 := aa (ag HB1.out (af w1 (.cells (arr .u8 t) 41)))
 have HT2 : Hid (bH .u8 41 (w1.alloc (.cells (arr .u8 t) 41)) w1.heap.size t) := aa (bH.new _ _)
 obtain ⟨W2, hW2⟩ : ∃ u, w1.alloc (.cells (arr .u8 t) 41) = u := ⟨_, rfl⟩
 have HSN : Hid (w1.heap.size < W2.heap.size) := aa (by rw [← hW2]; simp)
 rw [hW2] at HB2 HT2 ⊢
 clear hW2 HB1
 obtain ⟨gt, hgt⟩ : ∃ g, w1.heap.size = g := ⟨_, rfl⟩
 rw [hgt] at HT2 HSN ⊢
 clear hgt
 have o7 := aa ((Below.refl W2.heap.size W2).drew)
 have AL := aa (HT2.out.below o7.out)
 have HB3 := aa (ag HB2.out o7.out)
 obtain ⟨Wd, hWd⟩ : ∃ u, W2.drew = u := ⟨_, rfl⟩
 refine bJ (S := fun w' => w'.heap[gt]? = some (.cells (arr .u8 t) 41 (0, 0))) (E := [5, 6, 7]) (by kernel_rfl) (AL.out) (fun hHeld => ?_)
 refine Ad 0 (.agg (arr .u8 t)) rfl (fZ 41 _ rfl gt rfl _ _ _ _ (fun _ h => h) Tryz.underlying41 rfl (ay yM.out)) ?_
 refine Ad 2 (.agg (arr .u8 t)) rfl (fZ 41 _ rfl gt rfl _ _ _ _ (fun _ h => h) Tryz.underlying41 rfl (ay yM.out)) ?_
 refine bQ 4 ?_
 refine bY 1 fun K hK => ?_
 go_simp
 try rw [hWd]
 rw [hWd] at o7 AL HB3
 refine (Jy t yM _).mono ?_
 rintro e w3 ⟨v3, rfl, ho3, hb3⟩
 refine hK.out _ _ ?_ (fun hHeld => ?_)
 · exact AL.out.below hb3
 clear hK K
 try simp only [qq]
 refine bY 3 fun K hK => ?_
 go_simp
 obtain ⟨g3, nU, e3, hg3, -, -, P_⟩ := ho3.cells (by have := yM.out; omega)
 rw [yM.out] at e3
 subst e3
 have QT := aa P_
 refine (Jz g3 0 nU t 32 yM (by decide) (by decide) t yM _ QT).mono ?_
 rintro e w4 ⟨v4, rfl, Av, hb4⟩
 have kL := aa (ag hb3 hb4)
 have aaQ := kL.out.size
 have hrow4 := Av.row (n := 64) (by rw [List.length_append, yM.out])
 refine hK.out _ _ ?_ (fun hHeld => ?_)
 · exact (AL.out.below hb3).below hb4
 clear hK K
 try simp only [qq]
 refine mR 5 fun K hK => ?_
 have yN := aa ((HS.out.below HB3.out).below kL.out)
 refine step_append_lies _ (by rfl) _ _ _ (by rfl) (w3.heap.size) 5 i0 _ 1 1 Tryz.underlying114 hi hz0 hz1 hz2 rfl (by omega) v4 64 ((t ++ t).map (.int .u8)) (by rfl) (hrow4) ⟨b, o, none⟩ n c (l.map (.int .u8)) (by rfl) (by simp [hn.out]) (yN.out.news) (ints_oneCell .u8 _) (by omega) (by unfold maxLen; omega) (by omega) (by have := hb4.size; omega) (w4.heap.size) (rfl) ?_
 intro g5 cap5 w5 hown5 qm Ur Ui
 have jZ := aa (Below.grown kL.out qm (by omega) (fun j hj => by have := (World.ownsRow.lt hrow4 j hj).1; have := hb3.size; omega))
 have xC : Hid (aR .u8 5 w5 w3.heap.size (.slice (some ⟨g5, 0, none⟩) (64 + n) cap5) (t ++ t ++ l)) := aa (aR.app (by rw [List.length_append, yM.out]) hn.out.symm hown5)
 refine hK.out _ _ ?_
 clear hK K
 try simp only [qq]
 refine mR 6 fun K hK => ?_
 go_simp
 have Cu := xC.out.skAt (by simp [hn.out]; omega)
 refine (DY g5 0 cap5 (t ++ t ++ l) (64 + n) (aa (by simp [hn.out, yM.out]; omega)) (by omega) (by omega) (aa (by rw [dG, dG, HTB.out, hby.out]; rfl)) _ (aa Cu)).mono ?_
 rintro e w6 ⟨rfl, hb6⟩
 have m_ := aa (jZ.out.trans (hb6.mono jZ.out.size))
 refine hK.out _ _ ?_
 clear hK K
 try simp only [qq]
 refine mR 7 fun K hK => ?_
 rw [show (if Region.wanted _ _ = true then _ else _ : Prop) = _ from if_pos rfl]
 refine wp_store_row 41 _ _ rfl w.heap.size (arr .u8 (qb (t ++ t ++ l))) rfl rfl 41 _ (((eG.out.below HB3.out)).below m_.out) (ay (gF _)) (eB rfl (gF _)) (dh _) ?_
 refine hK.out _ _ ?_
 clear hK K
 try simp only [qq]
 refine gH ?_
 have HRR : Hid (bH .u8 41 (w6.setRow w.heap.size (arr .u8 (qb (t ++ t ++ l)))) w.heap.size (qb (t ++ t ++ l))) := aa ((eG.out.below HB3.out).below m_.out).setRow
 have fM : Hid (Below w.heap.size w (w6.setRow w.heap.size (arr .u8 (qb (t ++ t ++ l))))) := aa (ai (ag bT.out (ag HB3.out m_.out)) (Nat.le_refl _))
 have Yo : Kp (tagged (aX s) l = qb (t ++ t ++ l)) := ⟨by rw [tagged, HT.out]⟩
 obtain ⟨R, hR⟩ : ∃ R, qb (t ++ t ++ l) = R := ⟨_, rfl⟩
 have hRl : R.length = 32 := by rw [← hR]; exact gF _
 rw [hR] at HRR fM Yo ⊢
 obtain ⟨w8, hw8⟩ : ∃ u, w6.setRow w.heap.size (arr .u8 R) = u := ⟨_, rfl⟩
 rw [hw8] at HRR fM ⊢
 have HI : Kp ((Tryz.prog.info? 41).map (·.size) = some (arr .u8 R).size) := ⟨ay hRl⟩
 clear hR hRl hw8
 go_wp2
 exact bodyPost_ret (v := .agg (arr .u8 R)) (results_cell_row (p := 4) (ty := 41) rfl _ _ w.heap.size _ _ _ _ rfl HRR.out Tryz.underlying41 rfl HI.out) rfl ⟨by rw [Yo.out], fM.out⟩
def xm (m : Int) (h : List Int) : Nat → Int
 | 0 => 0
 | k + 1 => (xm m h k * 256 + h.getD k 0) % m
def Ga (m : Int) (h : List Int) : Int := xm m h 16
theorem yF {m : Int} {h : List Int} (hm : 1 ≤ m) (k : Nat) : 0 ≤ xm m h k ∧ xm m h k < m := by
 cases k with
 | zero => exact ⟨Int.le_refl _, by simp [xm]; omega⟩
 | succ k => exact ⟨Int.emod_nonneg _ (by omega), Int.emod_lt_of_pos _ (by omega)⟩
theorem Ns {acc m a : Int} {j : Nat} (h : acc * 2 ^ j % m = a) : acc * 2 ^ (j + 1) % m = (a + a) % m := by
 rw [← h, Int.pow_succ, ← Int.mul_assoc, Int.mul_comm _ 2, Int.add_emod_emod, Int.emod_add_emod]
 congr 1
 omega
theorem Mc {acc m a c : Int} (h : acc * 2 ^ 8 % m = a) : (a + c % m) % m = (acc * 256 + c) % m := by
 rw [← h, Int.add_emod_emod, Int.emod_add_emod]
 rfl
theorem JN {acc m c : Int} : (acc * (256 % m) % m + c) % m = (acc * 256 + c) % m := by
 have e : acc * (256 % m) % m = acc * 256 % m := by
  rw [Int.mul_emod acc (256 % m), Int.emod_emod_of_dvd _ (Int.dvd_refl m), ← Int.mul_emod]
 rw [e, Int.emod_add_emod]
theorem Gb (h : List Int) (hh : Hid (h.length = 32)) (hb : Hid (aC h = true)) (m : Int) (h1 : 1 ≤ m) (h2 : m < 2305843009213693952) (w : World) :
  Calls Tryz.prog 264 #[.agg (arr .u8 h), .int .i64 m] w (Rt w (.tuple #[.int .i64 (Ga m h), .int .i64 0])) := by
 obtain ⟨W, hW⟩ : ∃ W, w.alloc (.cells (arr .u8 h) 41) = W := ⟨_, rfl⟩
 have bT : Hid (Below w.heap.size w W) := aa (by rw [← hW]; exact af _ _)
 have eG : Hid (bH .u8 41 W w.heap.size h) := aa (by rw [← hW]; exact bH.new _ _)
 have HW := aa hW
 clear hW
 have hm0 : ((m : Int) == 0) = false := by simp; omega
 have hm1 : ¬ m < 1 := by omega
 have hm2 : ¬ 2305843009213693952 ≤ m := by omega
 go_in
 go_wp2
 rw [HW.out]
 go_loopw [6, 17] (fun p i u => ∃ (k : Nat) (acc : Int), k ≤ 16 ∧ i = .int .i64 k ∧ p = .int .i64 acc ∧ Hid (xm m h k = acc) ∧ Hid (Below W.heap.size W u)) (fun _ i _ => 16 - (intOf i).toNat)
 case atStart => exact ⟨0, 0, by omega, rfl, rfl, aa rfl, aa (Below.refl _ _)⟩
 case round =>
  obtain ⟨k, acc, hk, rfl, rfl, HN, aF⟩ := hrel
  have ha := yF (m := m) (h := h) h1 k
  rw [HN.out] at ha
  obtain ⟨a0, a1⟩ := ha
  by_cases hlt : k < 16
  ·
   have hc := (eG.out.below aF.out).cell (j := k) (by have := hh.out; omega)
   obtain ⟨c0, c1⟩ := iR hb.out k
   have hnx : xm m h (k + 1) = (acc * 256 + h.getD k 0) % m := by rw [xm, HN.out]
   obtain ⟨c, hcc⟩ : ∃ c, h.getD k 0 = c := ⟨_, rfl⟩
   rw [hcc] at hc c0 c1 hnx
   have Fv := aa hnx
   clear hcc hnx
   have dk : decide ((k : Int) < 16) = true := by simp; omega
   go_wp2
   go_loopw [6, 21] (fun p i u => ∃ (j : Nat) (a : Int), j ≤ 8 ∧ i = .int .i64 j ∧ p = .int .i64 a ∧ Hid (acc * 2 ^ j % m = a) ∧ 0 ≤ a ∧ a < m ∧ Hid (Below W.heap.size W u)) (fun _ i _ => 8 - (intOf i).toNat)
   case atStart => exact ⟨0, acc, by omega, rfl, rfl, aa (by rw [Int.pow_zero, Int.mul_one]; exact Int.emod_eq_of_lt a0 a1), a0, a1, aF⟩
   case round =>
    obtain ⟨j, a, hj, rfl, rfl, HA, b0, b1, mZ⟩ := hrel
    by_cases hlj : j < 8
    ·
     have HA2 := aa (Ns HA.out)
     have e0 : 0 ≤ (a + a) % m := Int.emod_nonneg _ (by omega)
     have e1 : (a + a) % m < m := Int.emod_lt_of_pos _ (by omega)
     obtain ⟨q, hq⟩ : ∃ q, (a + a) % m = q := ⟨_, rfl⟩
     rw [hq] at e0 e1 HA2
     have HQ := aa hq
     clear hq HA
     go_wp2_with fail
     refine (NZ a a m h2 b0 b1 b0 b1 _).mono ?_
     rintro e w' ⟨rfl, rfl⟩
     rw [HQ.out]
     go_wp2
     go_roundw
     case rel => exact ⟨j + 1, q, by omega, by go_num, rfl, HA2, e0, e1, mZ⟩
     case measure => simp [intOf]; omega
    ·
     have HA8 : Hid (acc * 2 ^ 8 % m = a) := aa (by have h := HA.out; rwa [show j = 8 by omega] at h)
     have HE : Hid ((a + c % m) % m = (acc * 256 + c) % m) := aa (Mc HA8.out)
     have f0 : 0 ≤ c % m := Int.emod_nonneg _ (by omega)
     have f1 : c % m < m := Int.emod_lt_of_pos _ (by omega)
     obtain ⟨cm, hcm⟩ : ∃ x, c % m = x := ⟨_, rfl⟩
     rw [hcm] at f0 f1 HE
     obtain ⟨q, hq⟩ : ∃ q, (a + cm) % m = q := ⟨_, rfl⟩
     have HN2 : Hid (xm m h (k + 1) = q) := aa (by rw [Fv.out, ← HE.out, hq])
     have HQ := aa hq
     clear hq HA HA8 HE Fv HN
     go_wp2_with fail
     refine (NZ a cm m h2 b0 b1 f0 f1 _).mono ?_
     rintro e w' ⟨rfl, rfl⟩
     rw [HQ.out]
     go_wp2
     go_roundw
     case rel => exact ⟨k + 1, q, by omega, by go_num, rfl, HN2, mZ⟩
     case measure => simp [intOf]; omega
  ·
   have HF : Hid (Ga m h = acc) := aa (by have e := HN.out; rwa [show k = 16 by omega] at e)
   have hbf := ag bT.out aF.out
   clear HN
   go_wp2
   go_ret2
   exact ⟨by rw [HF.out]; rfl, hbf⟩
theorem D5 (h : List Int) (hh : Hid (h.length = 32)) (hb : Hid (aC h = true)) (m : Int) (h1 : 1 ≤ m) (h2 : m < 2305843009213693952) (w : World) :
  Calls Tryz.prog 251 #[.agg (arr .u8 h), .int .i64 m] w (Rt w (.int .i64 (Ga m h))) := by
 obtain ⟨W, hW⟩ : ∃ W, w.alloc (.cells (arr .u8 h) 41) = W := ⟨_, rfl⟩
 have bT : Hid (Below w.heap.size w W) := aa (by rw [← hW]; exact af _ _)
 have eG : Hid (bH .u8 41 W w.heap.size h) := aa (by rw [← hW]; exact bH.new _ _)
 have HW := aa hW
 clear hW
 have hm0 : ((m : Int) == 0) = false := by simp; omega
 go_in
 go_wp2
 rw [HW.out]
 go_loopw [5, 6] (fun p i u => ∃ (k : Nat) (acc : Int), k ≤ 16 ∧ i = .int .i64 k ∧ p = .int .i64 acc ∧ Hid (xm m h k = acc) ∧ Hid (Below W.heap.size W u)) (fun _ i _ => 16 - (intOf i).toNat)
 case atStart => exact ⟨0, 0, by omega, rfl, rfl, aa rfl, aa (Below.refl _ _)⟩
 case round =>
  obtain ⟨k, acc, hk, rfl, rfl, HN, aF⟩ := hrel
  have ha := yF (m := m) (h := h) h1 k
  rw [HN.out] at ha
  obtain ⟨a0, a1⟩ := ha
  by_cases hlt : k < 16
  ·
   have hc := (eG.out.below aF.out).cell (j := k) (by have := hh.out; omega)
   obtain ⟨c0, c1⟩ := iR hb.out k
   have hnx : xm m h (k + 1) = (acc * 256 + h.getD k 0) % m := by rw [xm, HN.out]
   obtain ⟨c, hcc⟩ : ∃ c, h.getD k 0 = c := ⟨_, rfl⟩
   rw [hcc] at hc c0 c1 hnx
   have Fv := aa hnx
   have f0 : 0 ≤ 256 % m := Int.emod_nonneg _ (by omega)
   have f1 : 256 % m < m := Int.emod_lt_of_pos _ (by omega)
   have hst := JN (acc := acc) (m := m) (c := c)
   have ht : Int.tmod 256 m = 256 % m := Int.tmod_eq_emod_of_nonneg (by decide)
   have hw0 : IntKind.i64.wrap (256 % m) = 256 % m := IntWalk.i64_in _ (by omega)
   obtain ⟨d, hd⟩ : ∃ d, 256 % m = d := ⟨_, rfl⟩
   rw [hd] at f0 f1 hst ht hw0
   have g0 : 0 ≤ acc * d % m := Int.emod_nonneg _ (by omega)
   have g1 : acc * d % m < m := Int.emod_lt_of_pos _ (by omega)
   obtain ⟨p, hp⟩ : ∃ p, acc * d % m = p := ⟨_, rfl⟩
   rw [hp] at g0 g1 hst
   obtain ⟨q, hq⟩ : ∃ q, (p + c) % m = q := ⟨_, rfl⟩
   have HP := aa hp
   have HQ := aa hq
   have hw1 : IntKind.i64.wrap (p + c) = p + c := IntWalk.i64_in _ (by omega)
   have HN2 : Hid (xm m h (k + 1) = q) := aa (by rw [Fv.out, ← hst, hq])
   clear hst hp hq Fv HN hd
   go_wp2
   go_quiet ((first | (go_at_call 45; exact BX (jk acc d m p HP h2 a0 a1 f0 f1 _)) | (go_at_call 55; exact BX (xK (p + c) m q HQ h1 h2 (by omega) (by omega) _))))
   have HB2 := aa (aG aF.out nq)
   clear hc
   go_wp2
   go_roundw
   case rel => exact ⟨k + 1, q, by omega, by go_num, rfl, HN2, HB2⟩
   case measure => simp [intOf]; omega
  ·
   have HF : Hid (Ga m h = acc) := aa (by have e := HN.out; rwa [show k = 16 by omega] at e)
   have hbf := ag bT.out aF.out
   clear HN
   go_wp2
   go_ret
   exact ⟨by rw [HF.out]; rfl, hbf⟩
def dx (h : List Int) (c : Int) : Array Value := arr .u8 h ++ #[.int .i64 c]
theorem Mh : ∀ h : List Int, h.length = 32 → ∃ a0 a1 a2 a3 a4 a5 a6 a7 a8 a9 Yd Yc a12 Yb Ya X_ a16 a17 X9 XZ a20 a21 a22 a23 a24 a25 a26 a27 a28 a29 a30 a31, h = [a0, a1, a2, a3, a4, a5, a6, a7, a8, a9, Yd, Yc, a12, Yb, Ya, X_, a16, a17, X9, XZ, a20, a21, a22, a23, a24, a25, a26, a27, a28, a29, a30, a31]
 | [a0, a1, a2, a3, a4, a5, a6, a7, a8, a9, Yd, Yc, a12, Yb, Ya, X_, a16, a17, X9, XZ, a20, a21, a22, a23, a24, a25, a26, a27, a28, a29, a30, a31], _ => ⟨a0, a1, a2, a3, a4, a5, a6, a7, a8, a9, Yd, Yc, a12, Yb, Ya, X_, a16, a17, X9, XZ, a20, a21, a22, a23, a24, a25, a26, a27, a28, a29, a30, a31, rfl⟩
theorem UU : Tryz.prog.built 237 [] = some (dx (dz 32) 0) := by kernel_rfl
theorem NS (h : List Int) (hl : h.length = 32) : Tryz.prog.built 237 [(0, .agg (arr .u8 h))] = some (dx h 0) := by
 obtain ⟨a0, a1, a2, a3, a4, a5, a6, a7, a8, a9, Yd, Yc, a12, Yb, Ya, X_, a16, a17, X9, XZ, a20, a21, a22, a23, a24, a25, a26, a27, a28, a29, a30, a31, rfl⟩ := Mh h hl
 kernel_rfl
theorem NR (h : List Int) (hl : h.length = 32) (c : Int) : Tryz.prog.built 237 [(0, .agg (arr .u8 h)), (1, .int .i64 c)] = some (dx h c) := by
 obtain ⟨a0, a1, a2, a3, a4, a5, a6, a7, a8, a9, Yd, Yc, a12, Yb, Ya, X_, a16, a17, X9, XZ, a20, a21, a22, a23, a24, a25, a26, a27, a28, a29, a30, a31, rfl⟩ := Mh h hl
 kernel_rfl
theorem mG {P : Program} {ops : Array Oper} {rest : List Oper} {o : Oper} {a : Act} {w : World} {Q : Exit → Act → World → Prop} (hg : o.guard = none) (t : TypeId) (l : List (Nat × Operand)) (ho : o.op = .build t l.toArray) (cells : Array Value)
  (hf : P.built t (l.map fun x => (x.1, a.eval x.2)) = some cells) (h : wpList P ops Q rest (a.put o.dst (.agg cells)) w) : wpList P ops Q (o :: rest) a w := by
 have e : (l.toArray.map fun (x : Nat × Operand) => (x.1, a.eval x.2)).toList = l.map fun x => (x.1, a.eval x.2) := by simp
 refine wpList_build hg t l.toArray ho ?_ ?_
 ·
  show (P.built t (l.toArray.map fun (x : Nat × Operand) => (x.1, a.eval x.2)).toList).isSome = true
  rw [e, hf]; rfl
 ·
  show wpList P ops Q rest (a.put o.dst (.agg ((P.built t (l.toArray.map fun (x : Nat × Operand) => (x.1, a.eval x.2)).toList).getD #[]))) w
  rw [e, hf]; exact h
theorem uT {h : List Int} {c : Int} (hl : h.length = 32) : (dx h c).size = 33 := by simp [dx, dL, hl]
theorem WT : (Tryz.prog.info? 237).map (·.size) = some 33 := by kernel_rfl
theorem aP {h : List Int} {c : Int} (hl : h.length = 32) : (Tryz.prog.info? 237).map (·.size) = some (dx h c).size := WT.trans (congrArg some (uT hl).symm)
theorem dX (h : List Int) (c : Int) : (dx h c).all (·.oneCell') = true := by simp [dx, arr, Value.oneCell']
theorem Jf : (#[.int .u8 0, .int .u8 0, .int .u8 0, .int .u8 0, .int .u8 0, .int .u8 0, .int .u8 0, .int .u8 0, .int .u8 0, .int .u8 0, .int .u8 0, .int .u8 0, .int .u8 0, .int .u8 0, .int .u8 0, .int .u8 0, .int .u8 0, .int .u8 0, .int .u8 0, .int .u8 0, .int .u8 0, .int .u8 0, .int .u8 0, .int .u8 0, .int .u8 0, .int .u8 0, .int .u8 0, .int .u8 0, .int .u8 0, .int .u8 0, .int .u8 0, .int .u8 0, .int .i64 0] : Array Value) = dx (dz 32) 0 := rfl
theorem fJ {h h' : List Int} {c c' : Int} (hl : h.length = 32) (hl' : h'.length = 32) : (dx h c).size = (dx h' c').size := by rw [uT hl, uT hl']
def dM (w : World) (b : Nat) (h : List Int) (c : Int) : Prop := w.heap[b]? = some (.cells (dx h c) 237 (0, 0))
theorem dM.below {w w' : World} {b : Nat} {h : List Int} {c : Int} (hh : dM w b h c) (hb : Below w.heap.size w w') : dM w' b h c := (hb.block b (Array.getElem?_eq_some_iff.1 hh).1).trans hh
theorem dM.new (w : World) (h : List Int) (c : Int) : dM (w.alloc (.cells (dx h c) 237)) w.heap.size h c := heap_alloc_new _ _
theorem dM.lt {w : World} {b : Nat} {h : List Int} {c : Int} (hh : dM w b h c) : b < w.heap.size := (Array.getElem?_eq_some_iff.1 hh).1
theorem dM.setRow {w : World} {b : Nat} {h h' : List Int} {c c' : Int} (hh : dM w b h c) : dM (w.setRow b (dx h' c')) b h' c' := setRow_heap w b _ _ _ _ hh
theorem dM.count {w : World} {b : Nat} {h : List Int} {c : Int} (hh : dM w b h c) (hl : h.length = 32) : w.cell? ⟨b, 32, none⟩ = some (.int .i64 c) := by
 rw [au hh, dx, Array.getElem?_append_right (by rw [dL, hl]; exact Nat.le_refl _), dL, hl]
 rfl
theorem dM.sk {w : World} {b : Nat} {h : List Int} {c : Int} (hh : dM w b h c) : Sk .u8 w (some ⟨b, 0, none⟩) h := fun j hj => ⟨b, 0, rfl, by
 rw [Nat.zero_add, au hh, dx, Array.getElem?_append_left (by rw [dL]; exact hj)]
 exact yK hj⟩
theorem yY (h : List Int) (hl : Hid (h.length = 32)) (c : Int) (h0 : 0 ≤ c) (h1 : c ≤ 1000) (w : World) :
  Calls Tryz.prog 262 #[.agg (dx h c)] w (Rt w (.bool true)) := by
 have hc := (dM.new w h c).count hl.out
 have d1 : decide ((0 : Int) ≤ c) = true := by simp [h0]
 have d2 : decide (c ≤ 1000) = true := by simp [h1]
 go_in
 go_wp2
 go_ret
 exact ⟨rfl, af _ _⟩
theorem xJ (h : List Int) (hl : Hid (h.length = 32)) (c : Int) (h0 : 0 ≤ c) (h1 : c ≤ 1000) (w : World) :
  Calls Tryz.prog 250 #[.agg (dx h c)] w (Rt w (.bool true)) := by
 have hc := (dM.new w h c).count hl.out
 have d1 : decide ((0 : Int) ≤ c) = true := by simp [h0]
 have d2 : decide (c ≤ 1000) = true := by simp [h1]
 go_in
 go_wp2
 go_ret
 exact ⟨rfl, af _ _⟩
def K3 : ByteArray := ⟨#[115, 112, 101, 99, 105, 101, 47, 116, 114, 97, 110, 115, 99, 114, 105, 112, 116]⟩
def yL (h : List Int) (c e : Int) : Value := .tuple #[.agg (dx h c), .int .i64 e]
def newL (l : List Int) : List Int := tagged (aX K3) l
theorem KX (s : ByteArray) (hs : s.size ≤ 1000) (hr : Hid (gU (aX s) = false)) (w : World) :
  Calls Tryz.prog 243 #[.string s] w (Rt w (yL (dz 32) 0 1)) := by
 obtain ⟨W, hW⟩ : ∃ W, w.alloc (.cells #[.int .u8 0, .int .u8 0, .int .u8 0, .int .u8 0, .int .u8 0, .int .u8 0, .int .u8 0, .int .u8 0, .int .u8 0, .int .u8 0, .int .u8 0, .int .u8 0, .int .u8 0, .int .u8 0, .int .u8 0, .int .u8 0, .int .u8 0, .int .u8 0, .int .u8 0, .int .u8 0, .int .u8 0, .int .u8 0, .int .u8 0, .int .u8 0, .int .u8 0, .int .u8 0, .int .u8 0, .int .u8 0, .int .u8 0, .int .u8 0, .int .u8 0, .int .u8 0, .int .i64 0] 237) = W := ⟨_, rfl⟩
 have bT : Hid (Below w.heap.size w W) := aa (by rw [← hW]; exact af _ _)
 have HT0 : Hid (dM W w.heap.size (dz 32) 0) := aa (by rw [← hW, Jf]; exact dM.new _ _ _)
 have HW := aa hW
 clear hW
 go_in
 go_wp2_with fail
 rw [HW.out]
 refine (p_ s hs false hr _).mono ?_
 rintro e w1 ⟨rfl, hb1⟩
 have HT1 := aa (HT0.out.below hb1)
 have HB1 := aa (ag bT.out hb1)
 clear hb1
 go_wp2_with (first
  | ((with_reducible show wpList _ _ _ (⟨some 9, _, _, _, _, _⟩ :: _) _ _); refine mG rfl 237 _ rfl _ UU ?_)
  | ((with_reducible show wpList _ _ _ (⟨none, _, _, _, _, _⟩ :: _) _ _); refine wpList_store_row rfl 237 _ _ rfl w.heap.size (dx (dz 32) 0) rfl rfl _ _ HT1.out (aP rfl) rfl (dX _ _) ?_))
 have HRR : Hid (dM (w1.setRow w.heap.size (dx (dz 32) 0)) w.heap.size (dz 32) 0) := aa HT1.out.setRow
 have fM : Below w.heap.size w (w1.setRow w.heap.size (dx (dz 32) 0)) := ai HB1.out (Nat.le_refl _)
 exact bodyPost_ret (v := yL (dz 32) 0 1) (aQ (p := 2) (q := 3) (ty := 237) rfl _ _ ⟨w.heap.size, 0, none⟩ _ _ rfl rfl (run_loadVar_row _ _ _ _ _ _ _ HRR.out Tryz.underlying237 rfl (aP rfl))) rfl ⟨rfl, fM⟩
theorem OZ (s : ByteArray) (hs : s.size ≤ 1000) (hr : Hid (gU (aX s) = true)) (w : World) (hv : Hid (bz w)) :
  Calls Tryz.prog 243 #[.string s] w (Rt w (yL (newL (aX s)) 0 0)) := by
 have hs0 : 1 ≤ s.size := by
  have h := hr.out
  rw [gU, bE] at h
  simp at h
  exact h.1.1
 obtain ⟨W, hW⟩ : ∃ W, w.alloc (.cells #[.int .u8 0, .int .u8 0, .int .u8 0, .int .u8 0, .int .u8 0, .int .u8 0, .int .u8 0, .int .u8 0, .int .u8 0, .int .u8 0, .int .u8 0, .int .u8 0, .int .u8 0, .int .u8 0, .int .u8 0, .int .u8 0, .int .u8 0, .int .u8 0, .int .u8 0, .int .u8 0, .int .u8 0, .int .u8 0, .int .u8 0, .int .u8 0, .int .u8 0, .int .u8 0, .int .u8 0, .int .u8 0, .int .u8 0, .int .u8 0, .int .u8 0, .int .u8 0, .int .i64 0] 237) = W := ⟨_, rfl⟩
 have bT : Hid (Below w.heap.size w W) := aa (by rw [← hW]; exact af _ _)
 have HT0 : Hid (dM W w.heap.size (dz 32) 0) := aa (by rw [← hW, Jf]; exact dM.new _ _ _)
 have HV := aa (hv.out.below bT.out)
 have HW := aa hW
 have hcv := fun w => run_bytes_of_string (P := Tryz.prog) w 9 114 5 s Tryz.underlying9 Tryz.underlying114 Tryz.underlying5
 clear hW hv
 go_in
 go_wp2_with fail
 rw [HW.out]
 refine (p_ s hs true hr _).mono ?_
 rintro e w1 ⟨rfl, hb1⟩
 have HT1 := aa (HT0.out.below hb1)
 have HB1 := aa (ag bT.out hb1)
 have qF := aa (HV.out.below hb1)
 clear hb1 HW
 go_wp2_with fail
 clear hcv
 obtain ⟨Wc, hWc⟩ : ∃ u, (w1.alloc (.cells (bytesRow s (grownCap w1 s.size 0 5)) 5 ((bytesRow s (grownCap w1 s.size 0 5)).size, (bytesRow s (grownCap w1 s.size 0 5)).size + 1))).drew = u := ⟨_, rfl⟩
 have su : Hid (Below w1.heap.size w1 Wc) := aa (by rw [← hWc]; exact (af _ _).drew)
 have HSc : Hid (Sk .u8 Wc (some ⟨w1.heap.size, 0, none⟩) (aX s)) := aa (by
  rw [← hWc]
  exact mh (heap_alloc_new w1 _))
 obtain ⟨gc, hgc⟩ : ∃ g, grownCap w1 s.size 0 5 = g := ⟨_, rfl⟩
 rw [hWc, hgc]
 clear hWc hgc
 refine (qa K3 (by decide) (by decide) w1.heap.size 0 gc (aX s) s.size (aa (bE s)) hs0 (by omega) (aa (ja s)) _ HSc (aa (qF.out.below su.out))).mono ?_
 rintro e w2 ⟨rfl, hb2⟩
 have HT2 := aa ((HT1.out.below su.out).below hb2)
 have HB2 := aa (ag (ag HB1.out su.out) hb2)
 obtain ⟨R, hR⟩ : ∃ R, tagged (aX K3) (aX s) = R := ⟨_, rfl⟩
 have hRl : R.length = 32 := by rw [← hR]; exact dF _ _
 have HN : Kp (newL (aX s) = R) := ⟨hR⟩
 have fI := aa hRl
 rw [hR, show mq R = .tuple #[.agg (arr .u8 R), .int .i64 0] from rfl]
 clear hb2 HSc su HT1 HB1 qF hR hRl
 go_upto_region 4 with ((with_reducible show wpList _ _ _ (⟨none, _, _, _, _, _⟩ :: _) _ _); refine wpList_store_row rfl 41 _ _ rfl w2.heap.size (arr .u8 R) rfl rfl _ _ (heap_alloc_new _ _) (ay fI.out) (eB (l := dz 32) rfl fI.out) (dh _) ?_)
 rw [World.setRow_alloc_new]
 try simp only [Act.put]
 have Y4 : Hid (bH .u8 41 (w2.alloc (.cells (arr .u8 R) 41)) w2.heap.size R) := aa (bH.new _ _)
 have HT3 := aa (HT2.out.below (af w2 (.cells (arr .u8 R) 41)))
 have HB3 := aa (ag HB2.out (af w2 (.cells (arr .u8 R) 41)))
 obtain ⟨W3, hW3⟩ : ∃ u, w2.alloc (.cells (arr .u8 R) 41) = u := ⟨_, rfl⟩
 rw [hW3] at Y4 HT3 HB3 ⊢
 clear hW3
 go_wp2_with (first
  | ((with_reducible show wpList _ _ _ (⟨some 16, _, _, _, _, _⟩ :: _) _ _); refine wpList_load_row rfl 41 _ rfl w2.heap.size rfl _ _ _ _ Y4.out Tryz.underlying41 rfl (ay fI.out) ?_)
  | ((with_reducible show wpList _ _ _ (⟨some 17, _, _, _, _, _⟩ :: _) _ _); refine mG rfl 237 _ rfl _ (NS R fI.out) ?_)
  | ((with_reducible show wpList _ _ _ (⟨none, _, _, _, _, _⟩ :: _) _ _); refine wpList_store_row rfl 237 _ _ rfl w.heap.size (dx R 0) rfl rfl _ _ HT3.out (aP fI.out) (fJ rfl fI.out) (dX _ _) ?_))
 have HRR : Hid (dM (W3.setRow w.heap.size (dx R 0)) w.heap.size R 0) := aa HT3.out.setRow
 have fM : Below w.heap.size w (W3.setRow w.heap.size (dx R 0)) := ai HB3.out (Nat.le_refl _)
 exact bodyPost_ret (v := yL R 0 0) (aQ (p := 2) (q := 3) (ty := 237) rfl _ _ ⟨w.heap.size, 0, none⟩ _ _ rfl rfl (run_loadVar_row _ _ _ _ _ _ _ HRR.out Tryz.underlying237 rfl (aP fI.out))) rfl ⟨by rw [HN.out], fM⟩
theorem Lx (s : ByteArray) (hs : s.size ≤ 1000) (hs0 : 1 ≤ s.size) (w : World) :
  Calls Tryz.prog 229 #[.string s] w (Rt w (.agg (dx (newL (aX s)) 0))) := by
 obtain ⟨W, hW⟩ : ∃ W, w.alloc (.cells #[.int .u8 0, .int .u8 0, .int .u8 0, .int .u8 0, .int .u8 0, .int .u8 0, .int .u8 0, .int .u8 0, .int .u8 0, .int .u8 0, .int .u8 0, .int .u8 0, .int .u8 0, .int .u8 0, .int .u8 0, .int .u8 0, .int .u8 0, .int .u8 0, .int .u8 0, .int .u8 0, .int .u8 0, .int .u8 0, .int .u8 0, .int .u8 0, .int .u8 0, .int .u8 0, .int .u8 0, .int .u8 0, .int .u8 0, .int .u8 0, .int .u8 0, .int .u8 0, .int .i64 0] 237) = W := ⟨_, rfl⟩
 have bT : Hid (Below w.heap.size w W) := aa (by rw [← hW]; exact af _ _)
 have HT0 : Hid (dM W w.heap.size (dz 32) 0) := aa (by rw [← hW, Jf]; exact dM.new _ _ _)
 have lu : Hid (W.heap.size = w.heap.size + 1) := aa (by rw [← hW]; simp)
 have HW := aa hW
 have hcv := fun w => run_bytes_of_string (P := Tryz.prog) w 9 114 5 s Tryz.underlying9 Tryz.underlying114 Tryz.underlying5
 clear hW
 go_in
 go_wp2_with fail
 rw [HW.out]
 clear hcv HW
 obtain ⟨Wc, hWc⟩ : ∃ u, (W.alloc (.cells (bytesRow s (grownCap W s.size 0 5)) 5 ((bytesRow s (grownCap W s.size 0 5)).size, (bytesRow s (grownCap W s.size 0 5)).size + 1))).drew = u := ⟨_, rfl⟩
 have su : Hid (Below W.heap.size W Wc) := aa (by rw [← hWc]; exact (af _ _).drew)
 have HSc : Hid (Sk .u8 Wc (some ⟨w.heap.size + 1, 0, none⟩) (aX s)) := aa (by
  rw [← hWc, ← lu.out]
  exact mh (heap_alloc_new W _))
 obtain ⟨gc, hgc⟩ : ∃ g, grownCap W s.size 0 5 = g := ⟨_, rfl⟩
 rw [hWc, hgc]
 clear hWc hgc
 refine (lJ K3 (by decide) (by decide) (w.heap.size + 1) 0 gc (aX s) s.size (aa (bE s)) hs0 (by omega) (aa (ja s)) _ HSc).mono ?_
 rintro e w2 ⟨rfl, hb2⟩
 have HT2 := aa ((HT0.out.below su.out).below hb2)
 have HB2 := aa (ag (ag bT.out su.out) hb2)
 obtain ⟨R, hR⟩ : ∃ R, tagged (aX K3) (aX s) = R := ⟨_, rfl⟩
 have hRl : R.length = 32 := by rw [← hR]; exact dF _ _
 have HN : Kp (newL (aX s) = R) := ⟨hR⟩
 have fI := aa hRl
 rw [hR]
 clear hb2 HSc su hR hRl
 go_wp2_with (first
  | ((with_reducible show wpList _ _ _ (⟨some 6, _, _, _, _, _⟩ :: _) _ _); refine mG rfl 237 _ rfl _ (NS R fI.out) ?_)
  | ((with_reducible show wpList _ _ _ (⟨none, _, _, _, _, _⟩ :: _) _ _); refine wpList_store_row rfl 237 _ _ rfl w.heap.size (dx R 0) rfl rfl _ _ HT2.out (aP fI.out) (fJ rfl fI.out) (dX _ _) ?_))
 have HRR : Hid (dM (w2.setRow w.heap.size (dx R 0)) w.heap.size R 0) := aa HT2.out.setRow
 have fM : Below w.heap.size w (w2.setRow w.heap.size (dx R 0)) := ai HB2.out (Nat.le_refl _)
 exact bodyPost_ret (v := .agg (dx R 0)) (aD (p := 2) (ty := 237) rfl _ _ ⟨w.heap.size, 0, none⟩ _ rfl (run_loadVar_row _ _ _ _ _ _ _ HRR.out Tryz.underlying237 rfl (aP fI.out))) rfl ⟨by rw [HN.out], fM⟩
theorem rP {w : World} {base : Nat} {v : Value} {cs : List Ic} {l : List It} {n : Nat} (h : dO w base v cs) (hc : cs.length = n) (hl : l.length = n) (hpos : 0 < n) (hr : ∀ k, k < n → nV w (l.getD k default) (cs.getD k default)) :
  ∃ g cap, v = .slice (some ⟨g, 0, none⟩) n cap ∧ nV w (.lst l) ⟨3, 0, none, 0, 0, some ⟨g, 0, none⟩, n, cap⟩ := by
 obtain ⟨g, cap, e, _, _, hf⟩ := h.four (by omega)
 rw [hc] at e hf
 exact ⟨g, cap, e, .lst l _ rfl rfl rfl hl.symm (fun k => cs.getD k default) (fun k hk => ⟨g, 0, rfl, hf k (by omega)⟩) (fun k hk => hr k (by omega))⟩
def aI (A : Option Addr) (n c : Nat) : Ic := ⟨2, 0, A, n, c, none, 0, 0⟩
theorem jo {w : World} {A : Option Addr} {n c : Nat} {b : List Int} (h : Sk .u8 w A b) (hn : b.length = n) : nV w (.byt b) (aI A n c) := .byt b _ rfl rfl hn.symm rfl h
theorem vB (w : World) (a b : Ic) : dO (w.alloc (.cells #[.int .i64 a.kind, .int .i64 a.n, .slice a.B a.nb a.cb, .slice a.L a.nl a.cl, .int .i64 b.kind, .int .i64 b.n, .slice b.B b.nb b.cb, .slice b.L b.nl b.cl] 117)) w.heap.size (.slice (some ⟨w.heap.size, 0, none⟩) 2 2) [a, b] :=
 ⟨rfl, Or.inr ⟨w.heap.size, 2, _, rfl, Nat.le_refl _, heap_alloc_new _ _, Nat.le_refl _, by decide, rfl, rfl⟩⟩
theorem Bo {w : World} {b : Nat} {c : Ic} (h : Four w b 0 c) (j : Nat) (u : Value) (hj : (aT c)[j]? = some u) : w.cell? ((⟨b, 0, none⟩ : Addr).add j) = some u := by
 obtain ⟨h0, h1, h2, h3⟩ := h
 match j, hj with
 | 0, e => simp [aT] at e; subst e; exact h0
 | 1, e => simp [aT] at e; subst e; exact h1
 | 2, e => simp [aT] at e; subst e; exact h2
 | 3, e => simp [aT] at e; subst e; exact h3
 | j + 4, e => simp [aT] at e
theorem tT (c : Ic) : ∀ u ∈ aT c, u.oneCell' = true := by
 intro u hu
 simp [aT] at hu
 rcases hu with rfl | rfl | rfl | rfl <;> rfl
theorem FK {K : IntKind} {w w' : World} {B b : Nat} {l : List Int} (h : Sk K w (some ⟨b, 0, none⟩) l) (hb : Below B w w') (hl : b < B) : Sk K w' (some ⟨b, 0, none⟩) l := by
 intro j hj
 obtain ⟨b1, o, e, hc⟩ := h j hj
 injection e with e
 injection e with e1 e2 e3
 subst e1
 subst e2
 exact ⟨b, 0, rfl, (hb.cell (p := ⟨b, 0 + j, none⟩) hl).trans hc⟩
theorem J2 (tg : ByteArray) (ht1 : 1 ≤ tg.size) (ht2 : tg.size ≤ 100) (h : List Int) (hl : Hid (h.length = 32)) (hb : Hid (aC h = true)) (c : Int) (s : ByteArray) (hs0 : 1 ≤ s.size) (hs : s.size ≤ 1000) (w : World) (hv : Hid (bz w)) :
  Calls Tryz.prog 263 #[.string tg, .agg (dx h c), .string s, .slice none 0 0] w (Rt w (mq (tagged (aX tg) (enc (.lst [.byt h, .byt (aX s)]))))) := by
 obtain ⟨i0, hi, hz0, hz1, hz2⟩ := info_parts jl
 obtain ⟨RR, hRR⟩ : ∃ R, tagged (aX tg) (enc (.lst [.byt h, .byt (aX s)])) = R := ⟨_, rfl⟩
 rw [hRR]
 have Og : Kp (tagged (aX tg) (enc (.lst [.byt h, .byt (aX s)])) = RR) := ⟨hRR⟩
 clear hRR
 obtain ⟨W, hW⟩ : ∃ W, (w.alloc (.cells (dx h c) 237)).alloc (.cells z32 41) = W := ⟨_, rfl⟩
 have bT : Hid (Below w.heap.size w W) := aa (by rw [← hW]; exact aJ (Below.refl _ _))
 have HT0 : Hid (dM W w.heap.size h c) := aa (by rw [← hW]; exact heap_alloc2_old _ _ _)
 have eG : Hid (bH .u8 41 W (w.heap.size + 1) (dz 32)) := aa (by rw [← hW, jd]; exact heap_alloc2_new _ _ _)
 have lu : Hid (W.heap.size = w.heap.size + 2) := aa (by rw [← hW]; simp)
 have HV := aa (hv.out.below bT.out)
 have HW := aa hW
 have hcv := fun w => run_bytes_of_string (P := Tryz.prog) w 9 114 5 s Tryz.underlying9 Tryz.underlying114 Tryz.underlying5
 clear hW hv
 go_in
 go_upto_region 1 with (fail)
 rw [HW.out]
 go_upto_region 2 with (fail)
 clear hcv HW
 obtain ⟨gc, hgc⟩ : ∃ g, grownCap W s.size 0 5 = g := ⟨_, rfl⟩
 rw [hgc]
 obtain ⟨Wc, hWc⟩ : ∃ u, W.alloc (.cells (bytesRow s gc) 5 ((bytesRow s gc).size, (bytesRow s gc).size + 1)) = u := ⟨_, rfl⟩
 rw [hWc]
 have su : Hid (Below W.heap.size W Wc) := aa (by rw [← hWc]; exact af _ _)
 have HSc : Hid (Sk .u8 Wc (some ⟨W.heap.size, 0, none⟩) (aX s)) := aa (by rw [← hWc]; exact mh (heap_alloc_new W _))
 have E_ : Hid (Wc.heap.size = W.heap.size + 1) := aa (by rw [← hWc]; simp)
 obtain ⟨W2, hW2⟩ : ∃ u, (Wc.alloc (.cells #[.int .i64 2, .int .i64 0, .slice (some ⟨w.heap.size, 0, none⟩) 32 32, .slice none 0 0, .int .i64 2, .int .i64 0, .slice (some ⟨W.heap.size, 0, none⟩) s.size gc, .slice none 0 0] 117)).drew = u := ⟨_, rfl⟩
 have uj : Hid (dO W2 Wc.heap.size (.slice (some ⟨W.heap.size + 1, 0, none⟩) 2 2) [aI (some ⟨w.heap.size, 0, none⟩) 32 32, aI (some ⟨W.heap.size, 0, none⟩) s.size gc]) := aa (by
  rw [← hW2]
  have h := (vB Wc (aI (some ⟨w.heap.size, 0, none⟩) 32 32) (aI (some ⟨W.heap.size, 0, none⟩) s.size gc)).keep (Below.refl _ _).drew
  rw [E_.out] at h ⊢
  exact h)
 have HB2 : Hid (Below W.heap.size W W2) := aa (ag su.out (by rw [← hW2]; exact (af _ _).drew))
 have HS2 : Hid (Sk .u8 W2 (some ⟨W.heap.size, 0, none⟩) (aX s)) := aa (HSc.out.below (by rw [← hW2]; exact (af _ _).drew))
 have hzW : Wc.heap.size < W2.heap.size := by rw [← hW2]; simp
 rw [hW2]
 clear hW2 hWc hgc HSc su
 have hrow : W2.ownsRow Wc.heap.size 117 4 (.slice (some ⟨W.heap.size + 1, 0, none⟩) 2 2) 2 ([aI (some ⟨w.heap.size, 0, none⟩) 32 32, aI (some ⟨W.heap.size, 0, none⟩) s.size gc].flatMap aT) := uj.out
 have abK := hs
 go_wp2_with (at_builtin; refine wpList_append_own_none rfl _ _ 115 rfl Wc.heap.size 117 i0 4 Tryz.underlying115 hi _ _ _ rfl hrow rfl ?_)
 have Ol : Hid (∃ g cap, (Value.slice (some ⟨W.heap.size + 1, 0, none⟩) 2 2) = .slice (some ⟨g, 0, none⟩) 2 cap ∧ nV W2 (.lst [.byt h, .byt (aX s)]) ⟨3, 0, none, 0, 0, some ⟨g, 0, none⟩, 2, cap⟩) := aa (rP uj.out rfl rfl (by decide) (fun k hk => by
  rcases (show k = 0 ∨ k = 1 by omega) with rfl | rfl
  · exact jo (HT0.out.below HB2.out).sk hl.out
  · exact jo HS2.out (bE s)))
 obtain ⟨g3, nU, e3, hit⟩ := Ol.out
 simp only [Value.slice.injEq, Option.some.injEq, Addr.mk.injEq] at e3
 obtain ⟨⟨rfl, -⟩, -, rfl⟩ := e3
 have HIT := aa hit
 have HB3 := HB2
 have jQ : Hid (fits 8 (.lst [.byt h, .byt (aX s)])) := aa (by
  refine ⟨by simp, fun x hx => ?_⟩
  rcases (by simpa using hx : x = .byt h ∨ x = .byt (aX s)) with rfl | rfl
  · exact ⟨⟨by rw [hl.out]; decide, by rw [hl.out]; decide⟩, hb.out⟩
  · exact ⟨⟨by rw [bE]; omega, by rw [bE]; omega⟩, ja s⟩)
 have HLEN : Hid ((enc (.lst [.byt h, .byt (aX s)])).length ≤ 16384) := aa (by
  rw [fA]
  simp only [fG, iC, List.length_cons, List.length_append, dY, hl.out, bE, List.length_nil]
  omega)
 clear hit Ol hrow
 rw [show (Value.agg #[.int .i64 3, .int .i64 0, .slice none 0 0, .slice (some ⟨W.heap.size + 1, 0, none⟩) 2 2]) = (Ic.mk 3 0 none 0 0 (some ⟨W.heap.size + 1, 0, none⟩) 2 2).val from rfl]
 refine (uE _ _ _ jQ.out HIT.out HLEN.out).mono ?_
 rintro e w4 ⟨v4, rfl, Av, hb4⟩
 obtain ⟨E, hE⟩ : ∃ E, enc (.lst [.byt h, .byt (aX s)]) = E := ⟨_, rfl⟩
 have Kr : Hid (aC E = true) := aa (by rw [← hE]; exact kz jQ.out)
 have wH : Hid (0 < E.length ∧ E.length ≤ 16384) := aa (by rw [← hE]; exact ⟨oD _, HLEN.out⟩)
 rw [hE] at Av
 obtain ⟨g4, cap4, e4, hg4, -, -, rT⟩ := Av.cells wH.out.1
 obtain ⟨n4, MS⟩ : ∃ n, E.length = n := ⟨_, rfl⟩
 rw [MS] at e4 wH
 subst e4
 have YQ := aa MS
 have yN := aa rT
 have kL := aa (ag HB3.out hb4)
 have Hz : Kp (enc (.lst [.byt h, .byt (aX s)]) = E) := ⟨hE⟩
 clear hE rT Av hb4 MS HIT HLEN jQ
 obtain ⟨he0, he1⟩ := wH.out
 go_wp2_with fail
 refine (qa tg ht1 ht2 g4 0 cap4 E n4 YQ he0 (by omega) Kr _ yN (aa (HV.out.below kL.out))).mono ?_
 rintro e w5 ⟨rfl, hb5⟩
 have jZ := aa (ag kL.out hb5)
 obtain ⟨R, hR⟩ : ∃ R, tagged (aX tg) E = R := ⟨_, rfl⟩
 have fI : Hid (R.length = 32) := aa (by rw [← hR]; exact dF _ _)
 have hRe : RR = R := by rw [← Og.1, Hz.1, hR]
 subst hRe
 rw [hR, show mq RR = .tuple #[.agg (arr .u8 RR), .int .i64 0] from rfl]
 clear hb5 hR yN kL
 have uH : Hid (bH .u8 41 w5 (w.heap.size + 1) (dz 32)) := aa (eG.out.below jZ.out)
 go_wp2_with ((with_reducible show wpList _ _ _ (⟨none, _, _, _, _, _⟩ :: _) _ _); refine wpList_store_row rfl 41 _ _ rfl (w.heap.size + 1) (arr .u8 RR) rfl rfl _ _ uH.out (ay fI.out) (eB (l := dz 32) rfl fI.out) (dh _) ?_)
 have HRR : Hid (bH .u8 41 (w5.setRow (w.heap.size + 1) (arr .u8 RR)) (w.heap.size + 1) RR) := aa uH.out.setRow
 have fM : Below w.heap.size w (w5.setRow (w.heap.size + 1) (arr .u8 RR)) := ai (ag bT.out jZ.out) (Nat.le_succ _)
 exact bodyPost_ret (v := mq RR) (aQ (p := 8) (q := 9) (ty := 41) rfl _ _ ⟨w.heap.size + 1, 0, none⟩ _ _ rfl rfl (run_loadVar_row _ _ _ _ _ _ _ HRR.out Tryz.underlying41 rfl (ay fI.out))) rfl ⟨rfl, fM⟩
theorem JZ (tg : ByteArray) (ht1 : 1 ≤ tg.size) (ht2 : tg.size ≤ 100) (h : List Int) (hl : Hid (h.length = 32)) (hb : Hid (aC h = true)) (c : Int) (s : ByteArray) (hs0 : 1 ≤ s.size) (hs : s.size ≤ 1000) (item : It) (cI : Ic) (gm cm : Nat) (w : World) (hv : Hid (bz w)) (hF : Hid (Four w gm 0 cI)) (hI : Hid (nV w item cI)) (hfi : Hid (fits 7 item)) (hle : Hid ((enc item).length ≤ 14000)) :
  Calls Tryz.prog 263 #[.string tg, .agg (dx h c), .string s, .slice (some ⟨gm, 0, none⟩) 1 cm] w (Rt w (mq (tagged (aX tg) (enc (.lst [.byt h, .byt (aX s), item]))))) := by
 obtain ⟨i0, hi, hz0, hz1, hz2⟩ := info_parts jl
 obtain ⟨RR, hRR⟩ : ∃ R, tagged (aX tg) (enc (.lst [.byt h, .byt (aX s), item])) = R := ⟨_, rfl⟩
 rw [hRR]
 have Og : Kp (tagged (aX tg) (enc (.lst [.byt h, .byt (aX s), item])) = RR) := ⟨hRR⟩
 clear hRR
 obtain ⟨W, hW⟩ : ∃ W, (w.alloc (.cells (dx h c) 237)).alloc (.cells z32 41) = W := ⟨_, rfl⟩
 have bT : Hid (Below w.heap.size w W) := aa (by rw [← hW]; exact aJ (Below.refl _ _))
 have HT0 : Hid (dM W w.heap.size h c) := aa (by rw [← hW]; exact heap_alloc2_old _ _ _)
 have eG : Hid (bH .u8 41 W (w.heap.size + 1) (dz 32)) := aa (by rw [← hW, jd]; exact heap_alloc2_new _ _ _)
 have lu : Hid (W.heap.size = w.heap.size + 2) := aa (by rw [← hW]; simp)
 have HV := aa (hv.out.below bT.out)
 have HW := aa hW
 have hcv := fun w => run_bytes_of_string (P := Tryz.prog) w 9 114 5 s Tryz.underlying9 Tryz.underlying114 Tryz.underlying5
 clear hW hv
 go_in
 go_upto_region 1 with (fail)
 rw [HW.out]
 go_upto_region 2 with (fail)
 clear hcv HW
 obtain ⟨gc, hgc⟩ : ∃ g, grownCap W s.size 0 5 = g := ⟨_, rfl⟩
 rw [hgc]
 obtain ⟨Wc, hWc⟩ : ∃ u, W.alloc (.cells (bytesRow s gc) 5 ((bytesRow s gc).size, (bytesRow s gc).size + 1)) = u := ⟨_, rfl⟩
 rw [hWc]
 have su : Hid (Below W.heap.size W Wc) := aa (by rw [← hWc]; exact af _ _)
 have HSc : Hid (Sk .u8 Wc (some ⟨W.heap.size, 0, none⟩) (aX s)) := aa (by rw [← hWc]; exact mh (heap_alloc_new W _))
 have E_ : Hid (Wc.heap.size = W.heap.size + 1) := aa (by rw [← hWc]; simp)
 obtain ⟨W2, hW2⟩ : ∃ u, (Wc.alloc (.cells #[.int .i64 2, .int .i64 0, .slice (some ⟨w.heap.size, 0, none⟩) 32 32, .slice none 0 0, .int .i64 2, .int .i64 0, .slice (some ⟨W.heap.size, 0, none⟩) s.size gc, .slice none 0 0] 117)).drew = u := ⟨_, rfl⟩
 have uj : Hid (dO W2 Wc.heap.size (.slice (some ⟨W.heap.size + 1, 0, none⟩) 2 2) [aI (some ⟨w.heap.size, 0, none⟩) 32 32, aI (some ⟨W.heap.size, 0, none⟩) s.size gc]) := aa (by
  rw [← hW2]
  have h := (vB Wc (aI (some ⟨w.heap.size, 0, none⟩) 32 32) (aI (some ⟨W.heap.size, 0, none⟩) s.size gc)).keep (Below.refl _ _).drew
  rw [E_.out] at h ⊢
  exact h)
 have HB2 : Hid (Below W.heap.size W W2) := aa (ag su.out (by rw [← hW2]; exact (af _ _).drew))
 have HS2 : Hid (Sk .u8 W2 (some ⟨W.heap.size, 0, none⟩) (aX s)) := aa (HSc.out.below (by rw [← hW2]; exact (af _ _).drew))
 have hzW : Wc.heap.size < W2.heap.size := by rw [← hW2]; simp
 rw [hW2]
 clear hW2 hWc hgc HSc su
 have hrow : W2.ownsRow Wc.heap.size 117 4 (.slice (some ⟨W.heap.size + 1, 0, none⟩) 2 2) 2 ([aI (some ⟨w.heap.size, 0, none⟩) 32 32, aI (some ⟨W.heap.size, 0, none⟩) s.size gc].flatMap aT) := uj.out
 have abK := hs
 have VX : Hid (Four W2 gm 0 cI) := aa ((hF.out.below bT.out).below HB2.out)
 have HI2 : Hid (nV W2 item cI) := aa ((hI.out.kept bT.out).kept HB2.out)
 have vZ : Wc.heap.size ≤ W2.heap.size := by omega
 have b1 : 2 + 1 ≤ maxLen := by unfold maxLen; omega
 have b2 : (2 + 1) * 64 ≤ 140737488355328 := by omega
 have YM : ∀ (j : Nat) (u : Value), (aT cI)[j]? = some u → W2.cell? ((⟨gm, 0, none⟩ : Addr).add j) = some u := Bo VX.out
 go_wp2_with (at_builtin; refine wpList_append_lies rfl _ _ 115 rfl Wc.heap.size 117 i0 (.agg #[.int .i64 0, .int .i64 0, .slice none 0 0, .slice none 0 0]) 4 64 Tryz.underlying115 hi hz0 hz1 hz2 rfl (by decide) _ _ _ rfl hrow ⟨gm, 0, none⟩ 1 cm (aT cI) rfl rfl YM (tT cI) (by decide) b1 b2 vZ _ rfl ?_; intro g3 nU w3 hown3 hgrow3 Us hlt3)
 have HB3 : Hid (Below W.heap.size W w3) := aa (HB2.out.grown hgrow3 (by have := E_.out; omega) (fun j hj => by have := E_.out; have := (World.ownsRow.lt hrow j hj).1; omega))
 have Ou : Hid (Below (W.heap.size + 1) W2 w3) := aa ((Below.refl _ _).grown hgrow3 (by have := E_.out; omega) (fun j hj => by have := E_.out; have := (World.ownsRow.lt hrow j hj).1; omega))
 have pR : Hid (dO w3 Wc.heap.size (.slice (some ⟨g3, 0, none⟩) 3 nU) [aI (some ⟨w.heap.size, 0, none⟩) 32 32, aI (some ⟨W.heap.size, 0, none⟩) s.size gc, cI]) := aa hown3
 have Ol : Hid (∃ g cap, (Value.slice (some ⟨g3, 0, none⟩) 3 nU) = .slice (some ⟨g, 0, none⟩) 3 cap ∧ nV w3 (.lst [.byt h, .byt (aX s), item]) ⟨3, 0, none, 0, 0, some ⟨g, 0, none⟩, 3, cap⟩) := aa (rP pR.out rfl rfl (by decide) (fun k hk => by
  rcases (show k = 0 ∨ k = 1 ∨ k = 2 by omega) with rfl | rfl | rfl
  · exact jo (HT0.out.below HB3.out).sk hl.out
  · exact jo (FK HS2.out Ou.out (by omega)) (bE s)
  · exact ((hI.out.kept bT.out).kept HB3.out)))
 obtain ⟨g, cap, e3, hit⟩ := Ol.out
 simp only [Value.slice.injEq, Option.some.injEq, Addr.mk.injEq] at e3
 obtain ⟨⟨rfl, -⟩, -, rfl⟩ := e3
 have HIT := aa hit
 have jQ : Hid (fits 8 (.lst [.byt h, .byt (aX s), item])) := aa (by
  refine ⟨by simp, fun x hx => ?_⟩
  rcases (by simpa using hx : x = .byt h ∨ x = .byt (aX s) ∨ x = item) with rfl | rfl | rfl
  · exact ⟨⟨by rw [hl.out]; decide, by rw [hl.out]; decide⟩, hb.out⟩
  · exact ⟨⟨by rw [bE]; omega, by rw [bE]; omega⟩, ja s⟩
  · exact hfi.out)
 have HLEN : Hid ((enc (.lst [.byt h, .byt (aX s), item])).length ≤ 16384) := aa (by
  have := hle.out
  rw [fA]
  simp only [fG, iC, List.length_cons, List.length_append, dY, hl.out, bE, List.length_nil]
  omega)
 clear hit Ol hrow pR hown3 hgrow3 Us hlt3 YM VX HI2 Ou
 rw [show (Value.agg #[.int .i64 3, .int .i64 0, .slice none 0 0, .slice (some ⟨g3, 0, none⟩) 3 nU]) = (Ic.mk 3 0 none 0 0 (some ⟨g3, 0, none⟩) 3 nU).val from rfl]
 refine (uE _ _ _ jQ.out HIT.out HLEN.out).mono ?_
 rintro e w4 ⟨v4, rfl, Av, hb4⟩
 obtain ⟨E, hE⟩ : ∃ E, enc (.lst [.byt h, .byt (aX s), item]) = E := ⟨_, rfl⟩
 have Kr : Hid (aC E = true) := aa (by rw [← hE]; exact kz jQ.out)
 have wH : Hid (0 < E.length ∧ E.length ≤ 16384) := aa (by rw [← hE]; exact ⟨oD _, HLEN.out⟩)
 rw [hE] at Av
 obtain ⟨g4, cap4, e4, hg4, -, -, rT⟩ := Av.cells wH.out.1
 obtain ⟨n4, MS⟩ : ∃ n, E.length = n := ⟨_, rfl⟩
 rw [MS] at e4 wH
 subst e4
 have YQ := aa MS
 have yN := aa rT
 have kL := aa (ag HB3.out hb4)
 have Hz : Kp (enc (.lst [.byt h, .byt (aX s), item]) = E) := ⟨hE⟩
 clear hE rT Av hb4 MS HIT HLEN jQ
 obtain ⟨he0, he1⟩ := wH.out
 go_wp2_with fail
 refine (qa tg ht1 ht2 g4 0 cap4 E n4 YQ he0 (by omega) Kr _ yN (aa (HV.out.below kL.out))).mono ?_
 rintro e w5 ⟨rfl, hb5⟩
 have jZ := aa (ag kL.out hb5)
 obtain ⟨R, hR⟩ : ∃ R, tagged (aX tg) E = R := ⟨_, rfl⟩
 have fI : Hid (R.length = 32) := aa (by rw [← hR]; exact dF _ _)
 have hRe : RR = R := by rw [← Og.1, Hz.1, hR]
 subst hRe
 rw [hR, show mq RR = .tuple #[.agg (arr .u8 RR), .int .i64 0] from rfl]
 clear hb5 hR yN kL
 have uH : Hid (bH .u8 41 w5 (w.heap.size + 1) (dz 32)) := aa (eG.out.below jZ.out)
 go_wp2_with ((with_reducible show wpList _ _ _ (⟨none, _, _, _, _, _⟩ :: _) _ _); refine wpList_store_row rfl 41 _ _ rfl (w.heap.size + 1) (arr .u8 RR) rfl rfl _ _ uH.out (ay fI.out) (eB (l := dz 32) rfl fI.out) (dh _) ?_)
 have HRR : Hid (bH .u8 41 (w5.setRow (w.heap.size + 1) (arr .u8 RR)) (w.heap.size + 1) RR) := aa uH.out.setRow
 have fM : Below w.heap.size w (w5.setRow (w.heap.size + 1) (arr .u8 RR)) := ai (ag bT.out jZ.out) (Nat.le_succ _)
 exact bodyPost_ret (v := mq RR) (aQ (p := 8) (q := 9) (ty := 41) rfl _ _ ⟨w.heap.size + 1, 0, none⟩ _ _ rfl rfl (run_loadVar_row _ _ _ _ _ _ _ HRR.out Tryz.underlying41 rfl (ay fI.out))) rfl ⟨rfl, fM⟩
def DL : ByteArray := { data := #[115, 112, 101, 99, 105, 101, 47, 97, 98, 115, 111, 114, 98] }
def EZ (h s : List Int) (i : It) : List Int := tagged (aX DL) (enc (.lst [.byt h, .byt s, i]))
theorem oF (h s : List Int) (i : It) : (EZ h s i).length = 32 := dF _ _
theorem qp {w : World} {b : Nat} {c : Ic} {t : TypeId} (h : w.heap[b]? = some (.cells #[.int .i64 c.kind, .int .i64 c.n, .slice c.B c.nb c.cb, .slice c.L c.nl c.cl] t)) : Four w b 0 c :=
 ⟨au h 0, au h 1, au h 2, au h 3⟩
theorem y9 (h : List Int) (hl : Hid (h.length = 32)) (hb : Hid (aC h = true)) (c : Int) (hc0 : 0 ≤ c) (hc1 : c < 1000) (s : ByteArray) (hs : s.size ≤ 1000) (hr : Hid (gU (aX s) = true)) (item : It) (cI : Ic) (w : World) (hv : Hid (bz w)) (hI : Hid (nV w item cI)) (hfi : Hid (fits 7 item)) (hle : Hid ((enc item).length ≤ 14000)) :
  Calls Tryz.prog 261 #[.agg (dx h c), .string s, .agg #[.int .i64 cI.kind, .int .i64 cI.n, .slice cI.B cI.nb cI.cb, .slice cI.L cI.nl cI.cl]] w (Rt w (yL (EZ h (aX s) item) (c + 1) 0)) := by
 have hs0 : 1 ≤ s.size := by
  have h := hr.out
  rw [gU, bE] at h
  simp at h
  exact h.1.1
 obtain ⟨i0, hi, hz0, hz1, hz2⟩ := info_parts jl
 obtain ⟨W, hW⟩ : ∃ W, ((w.alloc (.cells (dx h c) 237)).alloc (.cells #[.int .i64 cI.kind, .int .i64 cI.n, .slice cI.B cI.nb cI.cb, .slice cI.L cI.nl cI.cl] 117)).alloc (.cells #[.int .u8 0, .int .u8 0, .int .u8 0, .int .u8 0, .int .u8 0, .int .u8 0, .int .u8 0, .int .u8 0, .int .u8 0, .int .u8 0, .int .u8 0, .int .u8 0, .int .u8 0, .int .u8 0, .int .u8 0, .int .u8 0, .int .u8 0, .int .u8 0, .int .u8 0, .int .u8 0, .int .u8 0, .int .u8 0, .int .u8 0, .int .u8 0, .int .u8 0, .int .u8 0, .int .u8 0, .int .u8 0, .int .u8 0, .int .u8 0, .int .u8 0, .int .u8 0, .int .i64 0] 237) = W := ⟨_, rfl⟩
 have bT : Hid (Below w.heap.size w W) := aa (by rw [← hW]; exact ag (aJ (Below.refl _ _)) (af _ _))
 have HT0 : Hid (dM W w.heap.size h c) := aa (by rw [← hW]; exact ((dM.new _ _ _).below (af _ _)).below (af _ _))
 have YZ : Hid (W.heap[w.heap.size + 1]? = some (.cells #[.int .i64 cI.kind, .int .i64 cI.n, .slice cI.B cI.nb cI.cb, .slice cI.L cI.nl cI.cl] 117 (0, 0))) := aa (by rw [← hW, ← (show (w.alloc (.cells (dx h c) 237)).heap.size = w.heap.size + 1 by simp)]; exact heap_alloc2_old _ _ _)
 have eG : Hid (dM W (w.heap.size + 1 + 1) (dz 32) 0) := aa (by rw [← hW, Jf, show w.heap.size + 1 + 1 = (w.alloc (.cells (dx h c) 237)).heap.size + 1 by simp]; exact heap_alloc2_new _ _ _)
 have lu : Hid (W.heap.size = w.heap.size + 3) := aa (by rw [← hW]; simp)
 have HV := aa (hv.out.below bT.out)
 have YV := aa (hI.out.kept bT.out)
 have HW := aa hW
 clear hW hv
 go_in
 go_upto_region 1 with (fail)
 rw [HW.out]
 clear HW
 go_wp2_with ((with_reducible show wpList _ _ _ (⟨some 10, _, _, _, _, _⟩ :: _) _ _); refine wpList_load_row rfl 237 _ rfl w.heap.size rfl _ _ _ _ HT0.out Tryz.underlying237 rfl (aP hl.out) ?_)
 refine (yY h hl c hc0 (by omega) _).mono ?_
 rintro e w1 ⟨rfl, hb1⟩
 have HB1 := aa (ag bT.out hb1)
 have HT1 := aa (HT0.out.below hb1)
 have HI1 := aa (YV.out.kept hb1)
 have qF := aa (HV.out.below hb1)
 have HR1 := aa (eG.out.below hb1)
 have YY : Hid (Four w1 (w.heap.size + 1) 0 cI) := aa (qp ((hb1.block _ (by have := lu.out; omega)).trans YZ.out))
 clear hb1 HT0 YV HV eG YZ bT
 go_wp2_with fail
 refine (p_ s hs true hr _).mono ?_
 rintro e w2 ⟨rfl, hb2⟩
 have HT2 := aa (HT1.out.below hb2)
 have HI2 := aa (HI1.out.kept hb2)
 have yw := aa (qF.out.below hb2)
 have HR2 := aa (HR1.out.below hb2)
 have YX := aa (YY.out.below hb2)
 have HB2 := aa (ag HB1.out hb2)
 clear hb2 HT1 HI1 qF HR1 YY HB1
 obtain ⟨f0, f1, f2, f3⟩ := YX.out
 go_wp2_with ((with_reducible show wpList _ _ _ (⟨some 20, _, _, _, _, _⟩ :: _) _ _); refine wpList_load_row rfl 237 _ rfl w.heap.size rfl _ _ _ _ HT2.out Tryz.underlying237 rfl (aP hl.out) ?_)
 clear f0 f1 f2 f3
 obtain ⟨W3, hW3⟩ : ∃ u, w2.alloc (.cells #[.int .i64 cI.kind, .int .i64 cI.n, .slice cI.B cI.nb cI.cb, .slice cI.L cI.nl cI.cl] 117) = u := ⟨_, rfl⟩
 have Y7 : Hid (Four W3 w2.heap.size 0 cI) := aa (by rw [← hW3]; exact qp (heap_alloc_new _ _))
 have hb3 : Below w2.heap.size w2 W3 := by rw [← hW3]; exact af _ _
 rw [hW3]
 have HI3 := aa (HI2.out.kept hb3)
 have yu := aa (yw.out.below hb3)
 refine (JZ DL (by decide) (by decide) h hl hb c s hs0 hs item cI w2.heap.size 1 W3 yu Y7 HI3 hfi hle).mono ?_
 rintro e w4 ⟨rfl, hb4⟩
 have Kj := aa ((HT2.out.below hb3).below hb4)
 have HR4 := aa ((HR2.out.below hb3).below hb4)
 have kL := aa (ag (ag HB2.out hb3) hb4)
 obtain ⟨R, hR⟩ : ∃ R, tagged (aX DL) (enc (.lst [.byt h, .byt (aX s), item])) = R := ⟨_, rfl⟩
 have hRl : R.length = 32 := by rw [← hR]; exact dF _ _
 have HN : Kp (EZ h (aX s) item = R) := ⟨hR⟩
 have fI := aa hRl
 rw [hR, show mq R = .tuple #[.agg (arr .u8 R), .int .i64 0] from rfl]
 clear hb3 hb4 hW3 Y7 HI3 yu HT2 HI2 yw HR2 HB2 YX hR hRl
 go_upto_region 4 with ((with_reducible show wpList _ _ _ (⟨none, _, _, _, _, _⟩ :: _) _ _); refine wpList_store_row rfl 41 _ _ rfl w4.heap.size (arr .u8 R) rfl rfl _ _ (heap_alloc_new _ _) (ay fI.out) (eB (l := dz 32) rfl fI.out) (dh _) ?_)
 rw [World.setRow_alloc_new]
 try simp only [Act.put]
 have YU : Hid (bH .u8 41 (w4.alloc (.cells (arr .u8 R) 41)) w4.heap.size R) := aa (bH.new _ _)
 have OB := aa (Kj.out.below (af w4 (.cells (arr .u8 R) 41)))
 have uH := aa (HR4.out.below (af w4 (.cells (arr .u8 R) 41)))
 have jZ := aa (ag kL.out (af w4 (.cells (arr .u8 R) 41)))
 obtain ⟨W5, M8⟩ : ∃ u, w4.alloc (.cells (arr .u8 R) 41) = u := ⟨_, rfl⟩
 rw [M8] at YU OB uH jZ ⊢
 clear M8
 have hcnt := OB.out.count hl.out
 have hcn : ¬ (c = 1000) := by omega
 have hwr : IntKind.i64.wrap (c + 1) = c + 1 := IntWalk.i64_in _ (by omega)
 go_wp2_with (first
  | ((with_reducible show wpList _ _ _ (⟨some 40, _, _, _, _, _⟩ :: _) _ _); refine wpList_load_row rfl 41 _ rfl w4.heap.size rfl _ _ _ _ YU.out Tryz.underlying41 rfl (ay fI.out) ?_)
  | ((with_reducible show wpList _ _ _ (⟨some 44, _, _, _, _, _⟩ :: _) _ _); refine mG rfl 237 _ rfl _ (NR R fI.out (c + 1)) ?_)
  | ((with_reducible show wpList _ _ _ (⟨none, _, _, _, _, _⟩ :: _) _ _); refine wpList_store_row rfl 237 _ _ rfl (w.heap.size + 1 + 1) (dx R (c + 1)) rfl rfl _ _ uH.out (aP fI.out) (fJ rfl fI.out) (dX _ _) ?_))
 have HRR : Hid (dM (W5.setRow (w.heap.size + 1 + 1) (dx R (c + 1))) (w.heap.size + 1 + 1) R (c + 1)) := aa uH.out.setRow
 have fM : Below w.heap.size w (W5.setRow (w.heap.size + 1 + 1) (dx R (c + 1))) := ai jZ.out (by omega)
 exact bodyPost_ret (v := yL R (c + 1) 0) (aQ (p := 6) (q := 7) (ty := 237) rfl _ _ ⟨w.heap.size + 1 + 1, 0, none⟩ _ _ rfl rfl (run_loadVar_row _ _ _ _ _ _ _ HRR.out Tryz.underlying237 rfl (aP fI.out))) rfl ⟨by rw [HN.out], fM⟩
theorem KY (h : List Int) (hl : Hid (h.length = 32)) (hb : Hid (aC h = true)) (c : Int) (hc0 : 0 ≤ c) (hc1 : c < 1000) (s : ByteArray) (hs : s.size ≤ 1000) (hr : Hid (gU (aX s) = true)) (A : Option Addr) (l : List Int) (n cA : Nat) (hn : Hid (l.length = n)) (hbig : n ≤ 1000) (w : World) (hv : Hid (bz w)) (hS : Hid (Sl w A l)) (hfi : Hid (fits 7 (.lst (l.map .int)))) (hle : Hid ((enc (.lst (l.map .int))).length ≤ 14000)) :
  Calls Tryz.prog 245 #[.agg (dx h c), .string s, .slice A n cA] w (Rt w (yL (EZ h (aX s) (.lst (l.map .int))) (c + 1) 0)) := by
 obtain ⟨W, hW⟩ : ∃ W, (w.alloc (.cells (dx h c) 237)).alloc (.cells #[.int .u8 0, .int .u8 0, .int .u8 0, .int .u8 0, .int .u8 0, .int .u8 0, .int .u8 0, .int .u8 0, .int .u8 0, .int .u8 0, .int .u8 0, .int .u8 0, .int .u8 0, .int .u8 0, .int .u8 0, .int .u8 0, .int .u8 0, .int .u8 0, .int .u8 0, .int .u8 0, .int .u8 0, .int .u8 0, .int .u8 0, .int .u8 0, .int .u8 0, .int .u8 0, .int .u8 0, .int .u8 0, .int .u8 0, .int .u8 0, .int .u8 0, .int .u8 0, .int .i64 0] 237) = W := ⟨_, rfl⟩
 have bT : Hid (Below w.heap.size w W) := aa (by rw [← hW]; exact aJ (Below.refl _ _))
 have HT0 : Hid (dM W w.heap.size h c) := aa (by rw [← hW]; exact heap_alloc2_old _ _ _)
 have eG : Hid (dM W (w.heap.size + 1) (dz 32) 0) := aa (by rw [← hW, Jf]; exact heap_alloc2_new _ _ _)
 have HV := aa (hv.out.below bT.out)
 have Va := aa (hS.out.below bT.out)
 have HW := aa hW
 clear hW hv
 go_in
 go_upto_region 1 with (fail)
 rw [HW.out]
 clear HW
 have o7 := aa ((Below.refl W.heap.size W).drew)
 have AL := aa (HT0.out.below o7.out)
 have YI := aa (eG.out.below o7.out)
 have HVd := aa (HV.out.below o7.out)
 have Yw := aa (Va.out.below o7.out)
 have HB3 := aa (ag bT.out o7.out)
 obtain ⟨Wd, hWd⟩ : ∃ u, W.drew = u := ⟨_, rfl⟩
 refine bJ (S := fun w' => w'.heap[w.heap.size]? = some (.cells (dx h c) 237 (0, 0))) (E := [7, 8]) (by kernel_rfl) (AL.out) (fun hHeld => ?_)
 refine Ad 0 (.agg (dx h c)) rfl (fZ 237 _ rfl w.heap.size rfl _ _ _ _ (fun _ h => h) Tryz.underlying237 rfl (aP hl.out)) ?_
 refine bQ 1 ?_
 refine bQ 2 ?_
 refine bY 3 fun K hK => ?_
 go_simp
 try rw [hWd]
 rw [hWd] at o7 AL YI HVd Yw HB3
 refine (Mx A l n cA hn (by omega) _ Yw).mono ?_
 rintro e w4 ⟨cI, rfl, Qh, hb4⟩
 refine hK.out _ _ ?_ (fun hHeld => ?_)
 · exact AL.out.below hb4
 clear hK K
 try simp only [qq]
 refine bY 4 fun K hK => ?_
 go_simp
 have uG := aa (HVd.out.below hb4)
 rw [show cI.val = (.agg #[.int .i64 cI.kind, .int .i64 cI.n, .slice cI.B cI.nb cI.cb, .slice cI.L cI.nl cI.cl] : Value) from rfl]
 refine (y9 h hl hb c hc0 hc1 s hs hr _ cI _ uG (aa Qh) hfi hle).mono ?_
 rintro e w5 ⟨rfl, hb5⟩
 have uH := aa ((YI.out.below hb4).below hb5)
 have jZ := aa (ag (ag HB3.out hb4) hb5)
 obtain ⟨R, hR⟩ : ∃ R, EZ h (aX s) (.lst (l.map .int)) = R := ⟨_, rfl⟩
 have hRl : R.length = 32 := by rw [← hR]; exact oF _ _ _
 have HN : Kp (EZ h (aX s) (.lst (l.map .int)) = R) := ⟨hR⟩
 have fI := aa hRl
 rw [hR, show yL R (c + 1) 0 = .tuple #[.agg (dx R (c + 1)), .int .i64 0] from rfl]
 refine hK.out _ _ ?_ (fun hHeld => ?_)
 · exact (AL.out.below hb4).below hb5
 clear hK K
 try simp only [qq]
 refine bQ 5 ?_
 refine bQ 6 ?_
 refine mR 7 fun K hK => ?_
 rw [show (if Region.wanted _ _ = true then _ else _ : Prop) = _ from if_pos rfl]
 refine wp_store_row 237 _ _ rfl (w.heap.size + 1) (dx R (c + 1)) rfl rfl 237 _ uH.out (aP fI.out) (fJ rfl fI.out) (dX _ _) ?_
 refine hK.out _ _ ?_
 clear hK K
 try simp only [qq]
 refine mR 8 fun K hK => ?_
 go_simp
 refine hK.out _ _ ?_
 clear hK K
 try simp only [qq]
 refine gH ?_
 have HRR : Hid (dM (w5.setRow (w.heap.size + 1) (dx R (c + 1))) (w.heap.size + 1) R (c + 1)) := aa uH.out.setRow
 have fM : Below w.heap.size w (w5.setRow (w.heap.size + 1) (dx R (c + 1))) := ai jZ.out (by omega)
 clear hR hRl hb4 hb5 Qh uG jZ uH hWd
 go_wp2
 exact bodyPost_ret (v := yL R (c + 1) 0) (aQ (p := 6) (q := 7) (ty := 237) rfl _ _ ⟨w.heap.size + 1, 0, none⟩ _ _ rfl rfl (run_loadVar_row _ _ _ _ _ _ _ HRR.out Tryz.underlying237 rfl (aP fI.out))) rfl ⟨by rw [HN.out], fM⟩
def DK : ByteArray := { data := #[115, 112, 101, 99, 105, 101, 47, 99, 104, 97, 108, 108, 101, 110, 103, 101] }
def XT (h s : List Int) : List Int := tagged (aX DK) (enc (.lst [.byt h, .byt s]))
def BA (q : Int) (h s : List Int) : Int := Ga q (XT h s)
def RQ (q : Int) (h s : List Int) : List Int := EZ h s (.int (BA q h s))
theorem Kc (h s : List Int) : aC (XT h s) = true := iU _
theorem iB {P : Program} {fn : Func} {p q r : Tmp} {ty : TypeId} (h : fn.results = #[.cell p ty, .tmp q, .tmp r]) (tmps : Array Value) (w : World) (a : Addr) (v u x : Value)
  (hp : tmps.getD p undef = .pointer (some a)) (hq : tmps.getD q undef = u) (hr : tmps.getD r undef = x) (hl : (loadVar ty a).run P w = .ok v w) : (results fn tmps).run P w = .ok (.tuple #[v, u, x]) w := by
 have hp' : tmps[p]?.getD undef = .pointer (some a) := by simpa using hp
 have hq' : tmps[q]?.getD undef = u := by simpa using hq
 have hr' : tmps[r]?.getD undef = x := by simpa using hr
 simp [results, h, hp', hq', hr', asAddr, hl]
def V4 (h : List Int) (c n e : Int) : Value := .tuple #[.agg (dx h c), .int .i64 n, .int .i64 e]
theorem KZ (h : List Int) (hl : Hid (h.length = 32)) (hb : Hid (aC h = true)) (c : Int) (hc0 : 0 ≤ c) (hc1 : c < 1000) (s : ByteArray) (hs : s.size ≤ 1000) (hr : Hid (gU (aX s) = true)) (q : Int) (hq1 : 2 ≤ q) (hq2 : q < 2305843009213693952) (w : World) (hv : Hid (bz w)) :
  Calls Tryz.prog 246 #[.agg (dx h c), .string s, .int .i64 q] w (Rt w (V4 (RQ q h (aX s)) (c + 1) (BA q h (aX s)) 0)) := by
 have hs0 : 1 ≤ s.size := by
  have h := hr.out
  rw [gU, bE] at h
  simp at h
  exact h.1.1
 obtain ⟨W, hW⟩ : ∃ W, (w.alloc (.cells (dx h c) 237)).alloc (.cells #[.int .u8 0, .int .u8 0, .int .u8 0, .int .u8 0, .int .u8 0, .int .u8 0, .int .u8 0, .int .u8 0, .int .u8 0, .int .u8 0, .int .u8 0, .int .u8 0, .int .u8 0, .int .u8 0, .int .u8 0, .int .u8 0, .int .u8 0, .int .u8 0, .int .u8 0, .int .u8 0, .int .u8 0, .int .u8 0, .int .u8 0, .int .u8 0, .int .u8 0, .int .u8 0, .int .u8 0, .int .u8 0, .int .u8 0, .int .u8 0, .int .u8 0, .int .u8 0, .int .i64 0] 237) = W := ⟨_, rfl⟩
 have bT : Hid (Below w.heap.size w W) := aa (by rw [← hW]; exact aJ (Below.refl _ _))
 have HT0 : Hid (dM W w.heap.size h c) := aa (by rw [← hW]; exact heap_alloc2_old _ _ _)
 have eG : Hid (dM W (w.heap.size + 1) (dz 32) 0) := aa (by rw [← hW, Jf]; exact heap_alloc2_new _ _ _)
 have HV := aa (hv.out.below bT.out)
 have HW := aa hW
 have hcn : ¬ (c = 1000) := by omega
 have hqa : ¬ (q < 2) := by omega
 have hqb : ¬ (2305843009213693952 ≤ q) := by omega
 clear hW hv
 go_in
 go_upto_region 1 with (fail)
 rw [HW.out]
 clear HW
 go_wp2_with ((with_reducible show wpList _ _ _ (⟨some 14, _, _, _, _, _⟩ :: _) _ _); refine wpList_load_row rfl 237 _ rfl w.heap.size rfl _ _ _ _ HT0.out Tryz.underlying237 rfl (aP hl.out) ?_)
 refine (yY h hl c hc0 (by omega) _).mono ?_
 rintro e w1 ⟨rfl, hb1⟩
 have HB1 := aa (ag bT.out hb1)
 have HT1 := aa (HT0.out.below hb1)
 have qF := aa (HV.out.below hb1)
 have HR1 := aa (eG.out.below hb1)
 clear hb1 HT0 HV eG bT
 go_wp2_with fail
 refine (p_ s hs true hr _).mono ?_
 rintro e w2 ⟨rfl, hb2⟩
 have HT2 := aa (HT1.out.below hb2)
 have yw := aa (qF.out.below hb2)
 have HR2 := aa (HR1.out.below hb2)
 have HB2 := aa (ag HB1.out hb2)
 clear hb2 HT1 qF HR1 HB1
 have hcnt := HT2.out.count hl.out
 go_wp2_with ((with_reducible show wpList _ _ _ (⟨some 37, _, _, _, _, _⟩ :: _) _ _); refine wpList_load_row rfl 237 _ rfl w.heap.size rfl _ _ _ _ HT2.out Tryz.underlying237 rfl (aP hl.out) ?_)
 clear hcnt
 refine (J2 DK (by decide) (by decide) h hl hb c s hs0 hs _ yw).mono ?_
 rintro e w4 ⟨rfl, hb4⟩
 have Kj := aa (HT2.out.below hb4)
 have HR4 := aa (HR2.out.below hb4)
 have uG := aa (yw.out.below hb4)
 have kL := aa (ag HB2.out hb4)
 obtain ⟨R, hR⟩ : ∃ R, tagged (aX DK) (enc (.lst [.byt h, .byt (aX s)])) = R := ⟨_, rfl⟩
 have hRl : R.length = 32 := by rw [← hR]; exact dF _ _
 have Hq : Hid (aC R = true) := aa (by rw [← hR]; exact Kc _ _)
 have HN : Kp (XT h (aX s) = R) := ⟨hR⟩
 have fI := aa hRl
 rw [hR, show mq R = .tuple #[.agg (arr .u8 R), .int .i64 0] from rfl]
 clear hb4 HT2 yw HR2 HB2 hR hRl
 go_upto_region 8 with ((with_reducible show wpList _ _ _ (⟨none, _, _, _, _, _⟩ :: _) _ _); refine wpList_store_row rfl 41 _ _ rfl w4.heap.size (arr .u8 R) rfl rfl _ _ (heap_alloc_new _ _) (ay fI.out) (eB (l := dz 32) rfl fI.out) (dh _) ?_)
 rw [World.setRow_alloc_new]
 try simp only [Act.put]
 have E9 : Hid (bH .u8 41 (w4.alloc (.cells (arr .u8 R) 41)) w4.heap.size R) := aa (bH.new _ _)
 have OB := aa (Kj.out.below (af w4 (.cells (arr .u8 R) 41)))
 have uH := aa (HR4.out.below (af w4 (.cells (arr .u8 R) 41)))
 have HV5 := aa (uG.out.below (af w4 (.cells (arr .u8 R) 41)))
 have jZ := aa (ag kL.out (af w4 (.cells (arr .u8 R) 41)))
 obtain ⟨W5, M8⟩ : ∃ u, w4.alloc (.cells (arr .u8 R) 41) = u := ⟨_, rfl⟩
 rw [M8] at E9 OB uH jZ HV5 ⊢
 clear M8 Kj HR4 uG kL
 go_wp2_with ((with_reducible show wpList _ _ _ (⟨some 47, _, _, _, _, _⟩ :: _) _ _); refine wpList_load_row rfl 41 _ rfl w4.heap.size rfl _ _ _ _ E9.out Tryz.underlying41 rfl (ay fI.out) ?_)
 refine (Gb R fI Hq q (by omega) hq2 _).mono ?_
 rintro e w6 ⟨rfl, hb6⟩
 have AO := aa (OB.out.below hb6)
 have Oh := aa (uH.out.below hb6)
 have HV6 := aa (HV5.out.below hb6)
 have m_ := aa (ag jZ.out hb6)
 obtain ⟨n, hn⟩ : ∃ n, Ga q R = n := ⟨_, rfl⟩
 have hn0 : 0 ≤ n ∧ n < q := by rw [← hn]; exact yF (by omega) 16
 obtain ⟨hn1, hn2⟩ := hn0
 have OH : Kp (BA q h (aX s) = n) := ⟨by rw [BA, HN.1]; exact hn⟩
 rw [hn]
 clear hb6 hn OB uH HV5 jZ E9
 go_wp2_with ((with_reducible show wpList _ _ _ (⟨some 57, _, _, _, _, _⟩ :: _) _ _); refine wpList_load_row rfl 237 _ rfl w.heap.size rfl _ _ _ _ AO.out Tryz.underlying237 rfl (aP hl.out) ?_)
 refine (y9 h hl hb c hc0 hc1 s hs hr (.int n) ⟨1, n, none, 0, 0, none, 0, 0⟩ _ HV6 (aa (.int n _ rfl rfl rfl rfl)) (aa ⟨by omega, by omega⟩) (aa (by rw [mK, List.length_cons, fV]; decide))).mono ?_
 rintro e w7 ⟨rfl, Dn⟩
 have Vh := aa (Oh.out.below Dn)
 have uo := aa (ag m_.out Dn)
 obtain ⟨G, hG⟩ : ∃ G, EZ h (aX s) (.int n) = G := ⟨_, rfl⟩
 have Ko : Hid (G.length = 32) := aa (by rw [← hG]; exact oF _ _ _)
 have HNG : Kp (RQ q h (aX s) = G) := ⟨by rw [RQ, OH.1]; exact hG⟩
 rw [hG, show yL G (c + 1) 0 = .tuple #[.agg (dx G (c + 1)), .int .i64 0] from rfl]
 clear Dn hG Oh m_ AO HV6
 go_upto_region 14 with ((with_reducible show wpList _ _ _ (⟨none, _, _, _, _, _⟩ :: _) _ _); refine wpList_store_row rfl 237 _ _ rfl w7.heap.size (dx G (c + 1)) rfl rfl _ _ (heap_alloc_new _ _) (aP Ko.out) (fJ (h := dz 32) (c := 0) rfl Ko.out) (dX _ _) ?_)
 rw [World.setRow_alloc_new]
 try simp only [Act.put]
 have YT : Hid (dM (w7.alloc (.cells (dx G (c + 1)) 237)) w7.heap.size G (c + 1)) := aa (dM.new _ _ _)
 have OG := aa (Vh.out.below (af w7 (.cells (dx G (c + 1)) 237)))
 have qP := aa (ag uo.out (af w7 (.cells (dx G (c + 1)) 237)))
 obtain ⟨W8, Rz⟩ : ∃ u, w7.alloc (.cells (dx G (c + 1)) 237) = u := ⟨_, rfl⟩
 rw [Rz] at YT OG qP ⊢
 clear Rz Vh uo
 go_wp2_with (first
  | ((with_reducible show wpList _ _ _ (⟨some 68, _, _, _, _, _⟩ :: _) _ _); refine wpList_load_row rfl 237 _ rfl w7.heap.size rfl _ _ _ _ YT.out Tryz.underlying237 rfl (aP Ko.out) ?_)
  | ((with_reducible show wpList _ _ _ (⟨none, _, _, _, _, _⟩ :: _) _ _); refine wpList_store_row rfl 237 _ _ rfl (w.heap.size + 1) (dx G (c + 1)) rfl rfl _ _ OG.out (aP Ko.out) (fJ rfl Ko.out) (dX _ _) ?_))
 have HRR : Hid (dM (W8.setRow (w.heap.size + 1) (dx G (c + 1))) (w.heap.size + 1) G (c + 1)) := aa OG.out.setRow
 have fM : Below w.heap.size w (W8.setRow (w.heap.size + 1) (dx G (c + 1))) := ai qP.out (by omega)
 exact bodyPost_ret (v := V4 G (c + 1) n 0) (iB (p := 6) (q := 7) (r := 8) (ty := 237) rfl _ _ ⟨w.heap.size + 1, 0, none⟩ _ _ _ rfl rfl rfl (run_loadVar_row _ _ _ _ _ _ _ HRR.out Tryz.underlying237 rfl (aP Ko.out))) rfl ⟨by rw [HNG.out, OH.out], fM⟩
end Go.Proofs.YtchcllcbknfikaaGreatDoor