/- The contract of base.Valid. -/
import Derived.Test.YtohjfnhgibedpaaDoorGops
namespace Go.Proofs.YtohjfnhgibedpaaDoor
open Go.RowKit SpM
set_option linter.unusedVariables false

/-- bases as a value, and in a box. -/
abbrev bv (P Q G A B H : Int) : Value := .agg #[.int .i64 P, .int .i64 Q, .int .i64 G, .int .i64 A, .int .i64 B, .int .i64 H]
abbrev bObj (P Q G A B H : Int) : Obj := .cells #[.int .i64 P, .int .i64 Q, .int .i64 G, .int .i64 A, .int .i64 B, .int .i64 H] 25
def BBox (w : World) (a : Nat) (P Q G A B H : Int) : Prop := (w.cell? ⟨a, 0, none⟩ = some (.int .i64 P) ∧ w.cell? ⟨a, 1, none⟩ = some (.int .i64 Q) ∧ w.cell? ⟨a, 2, none⟩ = some (.int .i64 G)) ∧
  w.cell? ⟨a, 3, none⟩ = some (.int .i64 A) ∧ w.cell? ⟨a, 4, none⟩ = some (.int .i64 B) ∧ w.cell? ⟨a, 5, none⟩ = some (.int .i64 H)
theorem bbox_alloc (w : World) (P Q G A B H : Int) : BBox (w.alloc (bObj P Q G A B H)) w.heap.size P Q G A B H :=
  ⟨⟨World.cell?_alloc_at _ _ _ _ rfl, World.cell?_alloc_at _ _ _ _ rfl, World.cell?_alloc_at _ _ _ _ rfl⟩, World.cell?_alloc_at _ _ _ _ rfl, World.cell?_alloc_at _ _ _ _ rfl, World.cell?_alloc_at _ _ _ _ rfl⟩
theorem BBox.below {w w' : World} {a : Nat} {P Q G A B H : Int} (h : BBox w a P Q G A B H) (hb : Below w.heap.size w w') : BBox w' a P Q G A B H :=
  have f : ∀ {p : Addr} {v : Value}, w.cell? p = some v → w'.cell? p = some v := fun h => (hb.cell (World.block_lt_of_cell? _ _ h)).trans h
  ⟨⟨f h.1.1, f h.1.2.1, f h.1.2.2⟩, f h.2.1, f h.2.2.1, f h.2.2.2⟩

def okB (P Q x : Int) : Bool := x != 1 && memG P Q x
/-- what base.Valid says. -/
def validB (P Q G A B H : Int) : Bool := validG P Q G && [A, B, H].all (okB P Q)

theorem cells3 (w : World) (T : TypeId) (a b c : Int) : Cells (w.alloc (.cells #[.int .i64 a, .int .i64 b, .int .i64 c] T)) w.heap.size [a, b, c] := by
  intro k hk
  rw [World.cell?_alloc_at _ _ _ _ rfl]
  match k, hk with
  | 0, _ => rfl
  | 1, _ => rfl
  | 2, _ => rfl

theorem okB_con {P Q G x : Int} (hv : validG P Q G = true) (hx : (x == 1) = false) : conG P Q G x = okB P Q x := by
  have h1 : (x != 1) = true := by simp at hx ⊢; exact hx
  rw [conG, okB, hv, h1]

set_option maxHeartbeats 1600000 in
theorem bvalid_bad (P Q G A B H : Int) (hv0 : Hid (validG P Q G = false)) (hQ : Q < 9223372036854775808) (w : World) (hv : Hid (Vars w)) :
    Calls Tryd.prog 38 #[bv P Q G A B H] w fun e' w' => e' = .returned (.bool false) ∧ Below w.heap.size w w' := by
  have HV0 := Lib.hid (hv.out.below (below_box0 w (bObj P Q G A B H)))
  go_enter Tryd.func38, Tryd.ntmps38
  go_wp2_with fail
  refine (valid_any P Q G false hv0 hQ _ HV0).mono ?_
  rintro e w1 ⟨rfl, hb0⟩
  have hb1 := below_ext (below_box0 _ _) hb0
  clear hb0
  go_wp2
  go_ret
  exact ⟨rfl, hb1⟩

set_option maxHeartbeats 1600000 in
theorem bvalid_good (P Q G A B H : Int) (r : Bool) (hr : Hid ([A, B, H].all (okB P Q) = r)) (hv0 : Hid (validG P Q G = true)) (hQ : Q < 9223372036854775808) (w : World) (hv : Hid (Vars w)) :
    Calls Tryd.prog 38 #[bv P Q G A B H] w fun e' w' => e' = .returned (.bool r) ∧ Below w.heap.size w w' := by
  have HV0 := Lib.hid (hv.out.below (below_box0 w (bObj P Q G A B H)))
  have HB0 := Lib.hid (bbox_alloc w P Q G A B H)
  go_enter Tryd.func38, Tryd.ntmps38
  go_wp2_with fail
  refine (valid_any P Q G true hv0 hQ _ HV0).mono ?_
  rintro e w1 ⟨rfl, hb0⟩
  have HB1 := Lib.hid (below_ext (below_box0 _ _) hb0)
  have HVV := Lib.hid (HV0.out.below hb0)
  have HX := Lib.hid (HB0.out.below hb0)
  obtain ⟨⟨c0, c1, c2⟩, c3, c4, c5⟩ := HX.out
  clear hb0
  have HC1 := Lib.hid (cells3 w1 3 A B H)
  have HX2 := Lib.hid (HX.out.below (below_box0 w1 (.cells #[.int .i64 A, .int .i64 B, .int .i64 H] 3)))
  have HB2 := Lib.hid (below_ext HB1.out (below_box0 w1 (.cells #[.int .i64 A, .int .i64 B, .int .i64 H] 3)))
  have HV2 := Lib.hid (HVV.out.below (below_box0 w1 (.cells #[.int .i64 A, .int .i64 B, .int .i64 H] 3)))
  go_wp2
  clear c0 c1 c2 c3 c4 c5
  obtain ⟨W, hW⟩ : ∃ W, w1.alloc (.cells #[.int .i64 A, .int .i64 B, .int .i64 H] 3) = W := ⟨_, rfl⟩
  rw [hW] at HC1 HX2 HB2 HV2 ⊢
  go_loopw [17] (fun i wr => ∃ k : Nat, k ≤ 3 ∧ i = .int .i64 k ∧ Hid ([A, B, H].all (okB P Q) = ([A, B, H].drop k).all (okB P Q)) ∧ Hid (Below W.heap.size W wr)) (fun i _ => 3 - (intOf i).toNat)
  case atStart => exact ⟨0, by omega, rfl, Lib.hid rfl, Lib.hid (Below.refl _ _)⟩
  case round =>
    obtain ⟨k, hk, rfl, HR, HBr⟩ := hrel
    by_cases hlt : k < 3
    · have hkl : k < [A, B, H].length := hlt
      have hi := HC1.out.below HBr.out k hkl
      obtain ⟨⟨c0, c1, c2⟩, c3, c4, c5⟩ := HX2.out.below HBr.out
      have HVr := Lib.hid (HV2.out.below HBr.out)
      cases hm : okB P Q ([A, B, H].getD k 0) with
      | true =>
        have HS : Hid ([A, B, H].all (okB P Q) = ([A, B, H].drop (k + 1)).all (okB P Q)) := Lib.hid (HR.out.trans (all_drop_step hkl hm))
        obtain ⟨x, hx⟩ : ∃ x, [A, B, H].getD k 0 = x := ⟨_, rfl⟩
        rw [hx] at hi hm
        have h1 : (x == 1) = false := by simp [okB] at hm; simp [hm.1]
        have HM := Lib.hid ((okB_con hv0.out h1).trans hm)
        clear hx hm HR hkl
        go_wp2_with fail
        refine (contains_any P Q G x true HM hQ _ HVr).mono ?_
        rintro e w2 ⟨rfl, hb0⟩
        have HB3 := Lib.hid (below_ext HBr.out hb0)
        clear hb0
        go_wp2
        go_roundw
        case rel => exact ⟨k + 1, by omega, by go_num, HS, HB3⟩
        case measure => simp [intOf]; omega
      | false =>
        obtain rfl : r = false := by rw [← hr.out, HR.out, all_drop_hit hkl hm]
        obtain ⟨x, hx⟩ : ∃ x, [A, B, H].getD k 0 = x := ⟨_, rfl⟩
        rw [hx] at hi hm
        cases h1 : x == 1 with
        | true =>
          have HB3 := Lib.hid (below_ext HB2.out HBr.out)
          clear hx hm HR hkl
          go_wp2
          go_ret
          exact ⟨rfl, HB3.out⟩
        | false =>
          have HM := Lib.hid ((okB_con hv0.out h1).trans hm)
          clear hx hm HR hkl
          go_wp2_with fail
          refine (contains_any P Q G x false HM hQ _ HVr).mono ?_
          rintro e w2 ⟨rfl, hb0⟩
          have HB3 := Lib.hid (below_ext (below_ext HB2.out HBr.out) hb0)
          clear hb0
          go_wp2
          go_ret
          exact ⟨rfl, HB3.out⟩
    · obtain rfl : k = 3 := by omega
      obtain rfl : r = true := by rw [← hr.out, HR.out]; rfl
      have HB3 := Lib.hid (below_ext HB2.out HBr.out)
      clear HR
      go_wp2
      go_ret
      exact ⟨rfl, HB3.out⟩

/-- THE CONTRACT OF base.Valid. -/
theorem bvalid_any (P Q G A B H : Int) (r : Bool) (hr : Hid (validB P Q G A B H = r)) (hQ : Q < 9223372036854775808) (w : World) (hv : Hid (Vars w)) :
    Calls Tryd.prog 38 #[bv P Q G A B H] w fun e' w' => e' = .returned (.bool r) ∧ Below w.heap.size w w' := by
  cases hval : validG P Q G with
  | false =>
    obtain rfl : r = false := by rw [← hr.out, validB, hval, Bool.false_and]
    exact bvalid_bad P Q G A B H hval hQ w hv
  | true =>
    exact bvalid_good P Q G A B H r (by rw [← hr.out, validB, hval, Bool.true_and]; exact rfl) hval hQ w hv

theorem validB_parts {P Q G A B H : Int} (h : validB P Q G A B H = true) : validG P Q G = true ∧ memG P Q A = true ∧ memG P Q B = true ∧ memG P Q H = true ∧ A ≠ 1 ∧ B ≠ 1 ∧ H ≠ 1 := by
  simp [validB, okB] at h
  exact ⟨h.1, h.2.1.2, h.2.2.1.2, h.2.2.2.2, h.2.1.1, h.2.2.1.1, h.2.2.2.1⟩
end Go.Proofs.YtohjfnhgibedpaaDoor
