/- The contracts of group.check, Mul, Inverse, Power. -/
import Derived.Test.YtijedphpcocfnaaDoorEl
import Derived.Test.YtijedphpcocfnaaDoorInv
namespace Go.Proofs.YtijedphpcocfnaaDoor
open Go.RowKit SpM
set_option linter.unusedVariables false

/-- a list of integers in memory. -/
def Cells (w : World) (b : Nat) (xs : List Int) : Prop := ∀ k, k < xs.length → w.cell? ⟨b, k, none⟩ = some (.int .i64 (xs.getD k 0))
theorem Cells.below {w w' : World} {b : Nat} {xs : List Int} (h : Cells w b xs) (hb : Below w.heap.size w w') : Cells w' b xs :=
  fun k hk => (hb.cell (World.block_lt_of_cell? _ _ (h k hk))).trans (h k hk)

/-- what check says. -/
def chkG (P Q G : Int) (xs : List Int) : Int := if validG P Q G = true then (if xs.all (memG P Q) = true then 0 else 2) else 1

theorem all_drop_step {f : Int → Bool} {xs : List Int} {k : Nat} (hk : k < xs.length) (h : f (xs.getD k 0) = true) : (xs.drop k).all f = (xs.drop (k + 1)).all f := by
  rw [List.drop_eq_getElem_cons hk, List.all_cons]
  rw [List.getD_eq_getElem?_getD, List.getElem?_eq_getElem hk] at h
  simp at h
  rw [h, Bool.true_and]
theorem all_drop_hit {f : Int → Bool} {xs : List Int} {k : Nat} (hk : k < xs.length) (h : f (xs.getD k 0) = false) : (xs.drop k).all f = false := by
  rw [List.drop_eq_getElem_cons hk, List.all_cons]
  rw [List.getD_eq_getElem?_getD, List.getElem?_eq_getElem hk] at h
  simp at h
  rw [h, Bool.false_and]

set_option maxHeartbeats 1600000 in
theorem check_bad (P Q G : Int) (b : Nat) (n c : Nat) (hv0 : Hid (validG P Q G = false)) (hQ : Q < 9223372036854775808) (w : World) (hv : Hid (Vars w)) :
    Calls Tryd.prog 74 #[gv P Q G, .slice (some ⟨b, 0, none⟩) n c] w fun e' w' => e' = .returned (.int .i64 1) ∧ Below w.heap.size w w' := by
  have HB0 := Lib.hid (gbox_alloc w P Q G)
  have HV0 := Lib.hid (hv.out.below (below_box0 w (gObj P Q G)))
  go_enter Tryd.func74, Tryd.ntmps74
  go_wp2_with fail
  refine (valid_any P Q G false hv0 hQ _ HV0).mono ?_
  rintro e w1 ⟨rfl, hb0⟩
  have hb1 := below_ext (below_box0 _ _) hb0
  clear hb0
  go_wp2
  go_ret
  exact ⟨rfl, hb1⟩

set_option maxHeartbeats 1600000 in
theorem check_good (P Q G : Int) (b : Nat) (xs : List Int) (c : Nat) (hlen : xs.length < 1000) (r : Int) (hr : Hid ((if xs.all (memG P Q) = true then 0 else 2) = r)) (hv0 : Hid (validG P Q G = true)) (hQ : Q < 9223372036854775808) (w : World) (hv : Hid (Vars w)) (hc : Hid (Cells w b xs)) :
    Calls Tryd.prog 74 #[gv P Q G, .slice (some ⟨b, 0, none⟩) xs.length c] w fun e' w' => e' = .returned (.int .i64 r) ∧ Below w.heap.size w w' := by
  obtain ⟨hp2, hp, hq3, hqp⟩ := validG_P hv0.out
  have HB0 := Lib.hid (gbox_alloc w P Q G)
  have HV0 := Lib.hid (hv.out.below (below_box0 w (gObj P Q G)))
  have HC0 := Lib.hid (hc.out.below (below_box0 w (gObj P Q G)))
  obtain ⟨n, hn⟩ : ∃ n, xs.length = n := ⟨_, rfl⟩
  rw [hn] at hlen ⊢
  have HN := Lib.hid hn
  clear hn
  go_enter Tryd.func74, Tryd.ntmps74
  go_wp2_with fail
  refine (valid_any P Q G true hv0 hQ _ HV0).mono ?_
  rintro e w1 ⟨rfl, hb0⟩
  have HB1 := Lib.hid (below_ext (below_box0 _ _) hb0)
  have HG1 := Lib.hid (HB0.out.below hb0)
  have HC1 := Lib.hid (HC0.out.below hb0)
  clear hb0
  go_wp2
  go_loopw [12] (fun i wr => ∃ k : Nat, k ≤ n ∧ i = .int .i64 k ∧ Hid (xs.all (memG P Q) = (xs.drop k).all (memG P Q)) ∧ Hid (Below w1.heap.size w1 wr)) (fun i _ => n - (intOf i).toNat)
  case atStart => exact ⟨0, by omega, rfl, Lib.hid rfl, Lib.hid (Below.refl _ _)⟩
  case round =>
    obtain ⟨k, hk, rfl, HR, HBr⟩ := hrel
    by_cases hlt : k < n
    · have hkl : k < xs.length := by rw [HN.out]; exact hlt
      have hi := HC1.out.below HBr.out k hkl
      obtain ⟨c0, c1, c2⟩ := HG1.out.below HBr.out
      cases hm : memG P Q (xs.getD k 0) with
      | true =>
        have HS : Hid (xs.all (memG P Q) = (xs.drop (k + 1)).all (memG P Q)) := Lib.hid (HR.out.trans (all_drop_step hkl hm))
        obtain ⟨x, hx⟩ : ∃ x, xs.getD k 0 = x := ⟨_, rfl⟩
        rw [hx] at hi hm
        have HM := Lib.hid hm
        clear hx hm HR hkl
        go_wp2_with fail
        refine (element_any P Q G x true HM hp (by omega) hQ _).mono ?_
        rintro e w2 ⟨rfl, hb0⟩
        have HB2 := Lib.hid (below_ext HBr.out hb0)
        clear hb0
        go_wp2
        go_roundw
        case rel => exact ⟨k + 1, by omega, by go_num, HS, HB2⟩
        case measure => simp [intOf]; omega
      | false =>
        obtain rfl : r = 2 := by rw [← hr.out, HR.out, all_drop_hit hkl hm]; rfl
        obtain ⟨x, hx⟩ : ∃ x, xs.getD k 0 = x := ⟨_, rfl⟩
        rw [hx] at hi hm
        have HM := Lib.hid hm
        clear hx hm HR hkl
        go_wp2_with fail
        refine (element_any P Q G x false HM hp (by omega) hQ _).mono ?_
        rintro e w2 ⟨rfl, hb0⟩
        have HB2 := Lib.hid (below_ext (below_ext HB1.out HBr.out) hb0)
        clear hb0
        go_wp2
        go_ret
        exact ⟨rfl, HB2.out⟩
    · obtain rfl : k = n := by omega
      obtain rfl : r = 0 := by rw [← hr.out, HR.out, ← HN.out]; simp
      have HB2 := Lib.hid (below_ext HB1.out HBr.out)
      clear HR
      go_wp2
      go_ret
      exact ⟨rfl, HB2.out⟩

/-- THE CONTRACT OF group.check. -/
theorem gcheck_any (P Q G : Int) (b : Nat) (xs : List Int) (n c : Nat) (hn : Hid (xs.length = n)) (hlen : n < 1000) (r : Int) (hr : Hid (chkG P Q G xs = r)) (hQ : Q < 9223372036854775808) (w : World) (hv : Hid (Vars w)) (hc : Hid (Cells w b xs)) :
    Calls Tryd.prog 74 #[gv P Q G, .slice (some ⟨b, 0, none⟩) n c] w fun e' w' => e' = .returned (.int .i64 r) ∧ Below w.heap.size w w' := by
  cases hval : validG P Q G with
  | false =>
    obtain rfl : r = 1 := by rw [← hr.out, chkG, hval]; rfl
    exact check_bad P Q G b n c hval hQ w hv
  | true =>
    rw [← hn.out]
    refine check_good P Q G b xs c (by rw [hn.out]; exact hlen) r ?_ hval hQ w hv hc
    rw [← hr.out, chkG, if_pos hval]; exact rfl
end Go.Proofs.YtijedphpcocfnaaDoor
