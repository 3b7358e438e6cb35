/- The contracts of bitrange.Join and of the reference's Join. -/
import Derived.Test.YtohjfnhgibedpaaDoorJoinA
namespace Go.Proofs.YtohjfnhgibedpaaDoor
open Go.RowKit SpM
set_option linter.unusedVariables false
set_option linter.unusedSimpArgs false
set_option maxRecDepth 20000

/-- the join of elements: what stands from index k on, folded into acc. -/
def joinL (P Q : Int) : Nat → Int → List Int → Int
  | _, acc, [] => acc
  | k, acc, x :: xs => joinL P Q (k + 1) (acc * pw x (2 ^ k % Q) P % P) xs

theorem joinL_step {P Q acc : Int} {k : Nat} {xs : List Int} (hk : k < xs.length) : joinL P Q k acc (xs.drop k) = joinL P Q (k + 1) (acc * pw (xs.getD k 0) (2 ^ k % Q) P % P) (xs.drop (k + 1)) := by
  rw [List.drop_eq_getElem_cons hk, joinL, List.getD_eq_getElem?_getD, List.getElem?_eq_getElem hk]
  rfl
theorem all_get {f : Int → Bool} {xs : List Int} (h : xs.all f = true) {k : Nat} (hk : k < xs.length) : f (xs.getD k 0) = true := by
  rw [List.getD_eq_getElem?_getD, List.getElem?_eq_getElem hk]
  exact List.all_eq_true.1 h _ (List.getElem_mem hk)

theorem says_bj (P Q G A B H : Int) (a : Nat) (hQ : Q < 9223372036854775808) (W : World) (hx : Hid (BBox W a P Q G A B H)) (hv : Hid (Vars W)) :
    Says 40 #[.pointer (some ⟨a, 0, none⟩)] (fun x => !conG P Q G x) W := fun x w1 hb => by
  show Calls Tryd.prog 40 #[.int .i64 x, .pointer (some ⟨a, 0, none⟩)] w1 fun e w' => e = .returned (.bool (!conG P Q G x)) ∧ Below w1.heap.size w1 w'
  obtain ⟨⟨c0, c1, c2⟩, _⟩ := hx.out.below hb
  have HV1 := Lib.hid (hv.out.below hb)
  obtain ⟨r, hr⟩ : ∃ r, conG P Q G x = r := ⟨_, rfl⟩
  have HR := Lib.hid hr
  rw [hr]
  clear hr hb
  go_enter Tryd.func40, Tryd.ntmps40
  go_wp2_with fail
  refine (contains_any P Q G x r HR hQ _ HV1).mono ?_
  rintro e w2 ⟨rfl, hb0⟩
  go_wp2
  go_ret
  exact ⟨rfl, hb0⟩

theorem any_not_con {P Q G : Int} {xs : List Int} (hv : validG P Q G = true) : (xs.any fun x => !conG P Q G x) = !(xs.all (memG P Q)) := by
  induction xs with
  | nil => rfl
  | cons x xs ih =>
    rw [List.any_cons, List.all_cons, ih, conG, hv, Bool.true_and, Bool.not_and]

/-- the error of Join, and the join. -/
def joinE (P Q G A B H : Int) (xs : List Int) : Int := if validB P Q G A B H = true then (if 16 < xs.length then 5 else if xs.all (memG P Q) = true then 0 else 2) else 1
def joinV (P Q : Int) (xs : List Int) : Int := joinL P Q 0 1 xs
theorem i64_small {M : Int} (h1 : 1 ≤ M) (h2 : M ≤ 65536) : IntKind.i64.wrap M = M := IntWalk.i64_in _ (by omega)
theorem wrap_small {M : Int} (h1 : 1 ≤ M) (h2 : M ≤ 65536) : wrap64 M = M := IntWalk.wrap64_in _ (by omega)
theorem joinV_start {P Q V : Int} {xs : List Int} (h : Hid (joinV P Q xs = V)) : Hid (joinL P Q 0 1 (xs.drop 0) = V) := Lib.hid (by
  rw [List.drop_zero]
  exact h.out)
theorem joinL_end {P Q acc V : Int} {k : Nat} {xs : List Int} (hn : xs.length = k) (h : Hid (joinL P Q k acc (xs.drop k) = V)) : acc = V := by
  have h2 := h.out
  rw [← hn, List.drop_length, joinL] at h2
  exact h2

set_option maxHeartbeats 6400000 in
theorem join_1 (P Q G A B H : Int) (S : Option Addr) (xs : List Int) (n c : Nat) (HVL : Hid (validB P Q G A B H = false)) (hn : Hid (xs.length = n)) (hbig : n < 1000) (hQ : Q < 9223372036854775808) (w : World) (hv : Hid (Vars w)) (hs : Hid (Sl w S xs)) :
    Calls Tryd.prog 12 #[bv P Q G A B H, .slice S n c] w fun e' w' => e' = .returned (.tuple #[.int .i64 0, .int .i64 1]) ∧ Below w.heap.size w w' := by
  have HV0 := Lib.hid (hv.out.below (below_box0 w (bObj P Q G A B H)))
  have HX0 := Lib.hid (bbox_alloc w P Q G A B H)
  have HSl0 := Lib.hid (hs.out.below (below_box0 w (bObj P Q G A B H)))
  clear hs
  go_enter Tryd.func12, Tryd.ntmps12
  go_wp2_with fail
  refine (bvalid_any P Q G A B H false HVL hQ _ HV0).mono ?_
  rintro e w1 ⟨rfl, hb0⟩
  have hb1 := below_ext (below_box0 _ _) hb0
  clear hb0
  go_wp2
  go_ret2
  exact ⟨rfl, hb1⟩

set_option maxHeartbeats 6400000 in
theorem join_5 (P Q G A B H : Int) (S : Option Addr) (xs : List Int) (n c : Nat) (HVL : Hid (validB P Q G A B H = true)) (hl : 16 < n) (hn : Hid (xs.length = n)) (hbig : n < 1000) (hQ : Q < 9223372036854775808) (w : World) (hv : Hid (Vars w)) (hs : Hid (Sl w S xs)) :
    Calls Tryd.prog 12 #[bv P Q G A B H, .slice S n c] w fun e' w' => e' = .returned (.tuple #[.int .i64 0, .int .i64 5]) ∧ Below w.heap.size w w' := by
  have HV0 := Lib.hid (hv.out.below (below_box0 w (bObj P Q G A B H)))
  have HX0 := Lib.hid (bbox_alloc w P Q G A B H)
  have HSl0 := Lib.hid (hs.out.below (below_box0 w (bObj P Q G A B H)))
  clear hs
  have d16 : decide ((16 : Int) < (n : Int)) = true := by simp; omega
  go_enter Tryd.func12, Tryd.ntmps12
  go_wp2_with fail
  refine (bvalid_any P Q G A B H true HVL hQ _ HV0).mono ?_
  rintro e w1 ⟨rfl, hb0⟩
  have hb1 := below_ext (below_box0 _ _) hb0
  have HV1 := Lib.hid (HV0.out.below hb0)
  have HX1 := Lib.hid (HX0.out.below hb0)
  have HSl1 := Lib.hid (HSl0.out.below hb0)
  clear hb0
  obtain ⟨⟨c0, c1, c2⟩, c3, c4, c5⟩ := HX1.out
  go_wp2
  go_ret2
  exact ⟨rfl, hb1⟩

set_option maxHeartbeats 6400000 in
theorem join_2 (P Q G A B H : Int) (S : Option Addr) (xs : List Int) (n c : Nat) (HVL : Hid (validB P Q G A B H = true)) (hl : n ≤ 16) (hm : Hid (xs.all (memG P Q) = false)) (hn : Hid (xs.length = n)) (hbig : n < 1000) (hQ : Q < 9223372036854775808) (w : World) (hv : Hid (Vars w)) (hs : Hid (Sl w S xs)) :
    Calls Tryd.prog 12 #[bv P Q G A B H, .slice S n c] w fun e' w' => e' = .returned (.tuple #[.int .i64 0, .int .i64 2]) ∧ Below w.heap.size w w' := by
  have HV0 := Lib.hid (hv.out.below (below_box0 w (bObj P Q G A B H)))
  have HX0 := Lib.hid (bbox_alloc w P Q G A B H)
  have HSl0 := Lib.hid (hs.out.below (below_box0 w (bObj P Q G A B H)))
  clear hs
  have d16 : decide ((16 : Int) < (n : Int)) = false := by simp; omega
  have HP : Hid ((xs.any fun x => !conG P Q G x) = true) := Lib.hid (by rw [any_not_con (validB_parts HVL.out).1, hm.out]; rfl)
  go_enter Tryd.func12, Tryd.ntmps12
  go_wp2_with fail
  refine (bvalid_any P Q G A B H true HVL hQ _ HV0).mono ?_
  rintro e w1 ⟨rfl, hb0⟩
  have hb1 := below_ext (below_box0 _ _) hb0
  have HV1 := Lib.hid (HV0.out.below hb0)
  have HX1 := Lib.hid (HX0.out.below hb0)
  have HSl1 := Lib.hid (HSl0.out.below hb0)
  clear hb0
  obtain ⟨⟨c0, c1, c2⟩, c3, c4, c5⟩ := HX1.out
  have HSy := Lib.hid (says_bj P Q G A B H w.heap.size hQ w1 HX1 HV1)
  go_wp2_with fail
  refine (cf_bj (.pointer (some ⟨w.heap.size, 0, none⟩)) (fun x => !conG P Q G x) true S xs n c HP hn (Lib.hid (by omega)) _ HSl1 HSy).mono ?_
  rintro e w2 ⟨rfl, hb0⟩
  have hb2 := below_ext hb1 hb0
  clear hb0
  go_wp2
  go_ret2
  exact ⟨rfl, hb2⟩

end Go.Proofs.YtohjfnhgibedpaaDoor
