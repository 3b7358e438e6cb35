/- The contracts of specieref11.Valid, of bitrange.Join and of the reference's Members and Join. -/
import Derived.Test.YtohjfnhgibedpaaDoorRBits
import Derived.Test.YtohjfnhgibedpaaDoorRefD
import Derived.Test.YtohjfnhgibedpaaDoorBase
import Derived.Deep.RegionHeld3
namespace Go.Proofs.YtohjfnhgibedpaaDoor
open Go.RowKit SpM
set_option linter.unusedVariables false
set_option linter.unusedSimpArgs false
set_option maxRecDepth 20000

theorem cell_below {w w' : World} {p : Addr} {v : Value} (h : w.cell? p = some v) (hb : Below w.heap.size w w') : w'.cell? p = some v := (hb.cell (World.block_lt_of_cell? _ _ h)).trans h

set_option maxHeartbeats 3200000 in
theorem rbvalid_any (P Q G A B H : Int) (r : Bool) (hr : Hid (validB P Q G A B H = r)) (hQ : Q < 9223372036854775808) (w : World) :
    Calls Tryd.prog 13 #[bv P Q G A B H] w fun e' w' => e' = .returned (.bool r) ∧ Below w.heap.size w w' := by
  have HX0 := Lib.hid ((bbox_alloc w P Q G A B H).below (below_box0 _ (gObj P Q G)))
  have HG0 : Hid (GBox ((w.alloc (bObj P Q G A B H)).alloc (gObj P Q G)) (w.heap.size + 1) P Q G) := Lib.hid (by
    have e : (w.alloc (bObj P Q G A B H)).heap.size = w.heap.size + 1 := by simp
    rw [← e]; exact gbox_alloc _ _ _ _)
  cases hval : validG P Q G with
  | false =>
    obtain rfl : r = false := by rw [← hr.out, validB, hval, Bool.false_and]
    have HVL : Hid (validG P Q G = false) := hval
    clear hr hval
    go_enter Tryd.func13, Tryd.ntmps13
    go_wp2_with fail
    refine (rvalid_any P Q G false HVL hQ _).mono ?_
    rintro e w1 ⟨rfl, hb0⟩
    have hb1 := below_ext (below_two (Below.refl _ _)) hb0
    clear hb0
    go_wp2
    go_ret
    exact ⟨rfl, hb1⟩
  | true =>
    have HVL : Hid (validG P Q G = true) := hval
    obtain ⟨hp2, hp, hq3, hqp⟩ := validG_P hval
    cases nA : A == 1 with
    | true =>
      obtain rfl : r = false := by rw [← hr.out, validB]; simp at nA; simp [okB, nA]
      have nA2 : (A != 1) = false := by simpa using nA
      clear hr hval
      go_enter Tryd.func13, Tryd.ntmps13
      go_wp2_with fail
      refine (rvalid_any P Q G true HVL hQ _).mono ?_
      rintro e w1 ⟨rfl, hb0⟩
      have hb1 := below_ext (below_two (Below.refl _ _)) hb0
      have HX1 := Lib.hid (HX0.out.below hb0)
      have HG1 := Lib.hid (HG0.out.below hb0)
      clear hb0
      obtain ⟨⟨c0, c1, c2⟩, c3, c4, c5⟩ := HX1.out
      obtain ⟨d0, d1, d2⟩ := HG1.out
      go_wp2
      go_ret
      exact ⟨rfl, hb1⟩
    | false =>
      have nA2 : (A != 1) = true := by simp at nA ⊢; exact nA
      cases nB : B == 1 with
      | true =>
        obtain rfl : r = false := by rw [← hr.out, validB]; simp at nB; simp [okB, nB]
        have nB2 : (B != 1) = false := by simpa using nB
        clear hr hval
        go_enter Tryd.func13, Tryd.ntmps13
        go_wp2_with fail
        refine (rvalid_any P Q G true HVL hQ _).mono ?_
        rintro e w1 ⟨rfl, hb0⟩
        have hb1 := below_ext (below_two (Below.refl _ _)) hb0
        have HX1 := Lib.hid (HX0.out.below hb0)
        have HG1 := Lib.hid (HG0.out.below hb0)
        clear hb0
        obtain ⟨⟨c0, c1, c2⟩, c3, c4, c5⟩ := HX1.out
        obtain ⟨d0, d1, d2⟩ := HG1.out
        go_wp2
        go_ret
        exact ⟨rfl, hb1⟩
      | false =>
        have nB2 : (B != 1) = true := by simp at nB ⊢; exact nB
        cases nH : H == 1 with
        | true =>
          obtain rfl : r = false := by rw [← hr.out, validB]; simp at nH; simp [okB, nH]
          have nH2 : (H != 1) = false := by simpa using nH
          clear hr hval
          go_enter Tryd.func13, Tryd.ntmps13
          go_wp2_with fail
          refine (rvalid_any P Q G true HVL hQ _).mono ?_
          rintro e w1 ⟨rfl, hb0⟩
          have hb1 := below_ext (below_two (Below.refl _ _)) hb0
          have HX1 := Lib.hid (HX0.out.below hb0)
          have HG1 := Lib.hid (HG0.out.below hb0)
          clear hb0
          obtain ⟨⟨c0, c1, c2⟩, c3, c4, c5⟩ := HX1.out
          obtain ⟨d0, d1, d2⟩ := HG1.out
          go_wp2
          go_ret
          exact ⟨rfl, hb1⟩
        | false =>
          have nH2 : (H != 1) = true := by simp at nH ⊢; exact nH
          cases mA : memG P Q A with
          | false =>
            obtain rfl : r = false := by rw [← hr.out, validB]; simp [okB, mA]
            have HmA : Hid (memG P Q A = false) := mA
            clear hr hval mA
            go_enter Tryd.func13, Tryd.ntmps13
            go_wp2_with fail
            refine (rvalid_any P Q G true HVL hQ _).mono ?_
            rintro e w1 ⟨rfl, hb0⟩
            have hb1 := below_ext (below_two (Below.refl _ _)) hb0
            have HX1 := Lib.hid (HX0.out.below hb0)
            have HG1 := Lib.hid (HG0.out.below hb0)
            clear hb0
            obtain ⟨⟨c0, c1, c2⟩, c3, c4, c5⟩ := HX1.out
            obtain ⟨d0, d1, d2⟩ := HG1.out
            go_wp2_with fail
            refine (rmember_any P Q G A false HmA hp (by omega) hQ _).mono ?_
            rintro e w2 ⟨rfl, hb0⟩
            have hb2 := below_ext hb1 hb0
            clear hb0
            go_wp2
            go_ret
            exact ⟨rfl, hb2⟩
          | true =>
            have HmA : Hid (memG P Q A = true) := mA
            cases mB : memG P Q B with
            | false =>
              obtain rfl : r = false := by rw [← hr.out, validB]; simp [okB, mB]
              have HmB : Hid (memG P Q B = false) := mB
              clear hr hval mA mB
              go_enter Tryd.func13, Tryd.ntmps13
              go_wp2_with fail
              refine (rvalid_any P Q G true HVL hQ _).mono ?_
              rintro e w1 ⟨rfl, hb0⟩
              have hb1 := below_ext (below_two (Below.refl _ _)) hb0
              have HX1 := Lib.hid (HX0.out.below hb0)
              have HG1 := Lib.hid (HG0.out.below hb0)
              clear hb0
              obtain ⟨⟨c0, c1, c2⟩, c3, c4, c5⟩ := HX1.out
              obtain ⟨d0, d1, d2⟩ := HG1.out
              go_wp2_with fail
              refine (rmember_any P Q G A true HmA hp (by omega) hQ _).mono ?_
              rintro e w2 ⟨rfl, hb0⟩
              have hb2 := below_ext hb1 hb0
              have HX2 := Lib.hid (HX1.out.below hb0)
              have HG2 := Lib.hid (HG1.out.below hb0)
              clear c0 c1 c2 c3 c4 c5 d0 d1 d2 hb0
              obtain ⟨⟨c0, c1, c2⟩, c3, c4, c5⟩ := HX2.out
              obtain ⟨d0, d1, d2⟩ := HG2.out
              go_wp2_with fail
              refine (rmember_any P Q G B false HmB hp (by omega) hQ _).mono ?_
              rintro e w3 ⟨rfl, hb0⟩
              have hb3 := below_ext hb2 hb0
              clear hb0
              go_wp2
              go_ret
              exact ⟨rfl, hb3⟩
            | true =>
              have HmB : Hid (memG P Q B = true) := mB
              cases mH : memG P Q H with
              | false =>
                obtain rfl : r = false := by rw [← hr.out, validB]; simp [okB, mH]
                have HmH : Hid (memG P Q H = false) := mH
                clear hr hval mA mB mH
                go_enter Tryd.func13, Tryd.ntmps13
                go_wp2_with fail
                refine (rvalid_any P Q G true HVL hQ _).mono ?_
                rintro e w1 ⟨rfl, hb0⟩
                have hb1 := below_ext (below_two (Below.refl _ _)) hb0
                have HX1 := Lib.hid (HX0.out.below hb0)
                have HG1 := Lib.hid (HG0.out.below hb0)
                clear hb0
                obtain ⟨⟨c0, c1, c2⟩, c3, c4, c5⟩ := HX1.out
                obtain ⟨d0, d1, d2⟩ := HG1.out
                go_wp2_with fail
                refine (rmember_any P Q G A true HmA hp (by omega) hQ _).mono ?_
                rintro e w2 ⟨rfl, hb0⟩
                have hb2 := below_ext hb1 hb0
                have HX2 := Lib.hid (HX1.out.below hb0)
                have HG2 := Lib.hid (HG1.out.below hb0)
                clear c0 c1 c2 c3 c4 c5 d0 d1 d2 hb0
                obtain ⟨⟨c0, c1, c2⟩, c3, c4, c5⟩ := HX2.out
                obtain ⟨d0, d1, d2⟩ := HG2.out
                go_wp2_with fail
                refine (rmember_any P Q G B true HmB hp (by omega) hQ _).mono ?_
                rintro e w3 ⟨rfl, hb0⟩
                have hb3 := below_ext hb2 hb0
                have HX3 := Lib.hid (HX2.out.below hb0)
                have HG3 := Lib.hid (HG2.out.below hb0)
                clear c0 c1 c2 c3 c4 c5 d0 d1 d2 hb0
                obtain ⟨⟨c0, c1, c2⟩, c3, c4, c5⟩ := HX3.out
                obtain ⟨d0, d1, d2⟩ := HG3.out
                go_wp2_with fail
                refine (rmember_any P Q G H false HmH hp (by omega) hQ _).mono ?_
                rintro e w4 ⟨rfl, hb0⟩
                have hb4 := below_ext hb3 hb0
                clear hb0
                go_wp2
                go_ret
                exact ⟨rfl, hb4⟩
              | true =>
                have HmH : Hid (memG P Q H = true) := mH
                obtain rfl : r = true := by rw [← hr.out, validB, hval]; simp at nA nB nH; simp [okB, nA, nB, nH, mA, mB, mH]
                clear hr hval mA mB mH
                go_enter Tryd.func13, Tryd.ntmps13
                go_wp2_with fail
                refine (rvalid_any P Q G true HVL hQ _).mono ?_
                rintro e w1 ⟨rfl, hb0⟩
                have hb1 := below_ext (below_two (Below.refl _ _)) hb0
                have HX1 := Lib.hid (HX0.out.below hb0)
                have HG1 := Lib.hid (HG0.out.below hb0)
                clear hb0
                obtain ⟨⟨c0, c1, c2⟩, c3, c4, c5⟩ := HX1.out
                obtain ⟨d0, d1, d2⟩ := HG1.out
                go_wp2_with fail
                refine (rmember_any P Q G A true HmA hp (by omega) hQ _).mono ?_
                rintro e w2 ⟨rfl, hb0⟩
                have hb2 := below_ext hb1 hb0
                have HX2 := Lib.hid (HX1.out.below hb0)
                have HG2 := Lib.hid (HG1.out.below hb0)
                clear c0 c1 c2 c3 c4 c5 d0 d1 d2 hb0
                obtain ⟨⟨c0, c1, c2⟩, c3, c4, c5⟩ := HX2.out
                obtain ⟨d0, d1, d2⟩ := HG2.out
                go_wp2_with fail
                refine (rmember_any P Q G B true HmB hp (by omega) hQ _).mono ?_
                rintro e w3 ⟨rfl, hb0⟩
                have hb3 := below_ext hb2 hb0
                have HX3 := Lib.hid (HX2.out.below hb0)
                have HG3 := Lib.hid (HG2.out.below hb0)
                clear c0 c1 c2 c3 c4 c5 d0 d1 d2 hb0
                obtain ⟨⟨c0, c1, c2⟩, c3, c4, c5⟩ := HX3.out
                obtain ⟨d0, d1, d2⟩ := HG3.out
                go_wp2_with fail
                refine (rmember_any P Q G H true HmH hp (by omega) hQ _).mono ?_
                rintro e w4 ⟨rfl, hb0⟩
                have hb4 := below_ext hb3 hb0
                clear hb0
                go_wp2
                go_ret
                exact ⟨rfl, hb4⟩

set_option maxHeartbeats 3200000 in
theorem members_any (P Q G : Int) (A : Option Addr) (xs : List Int) (n c : Nat) (r : Bool) (hr : Hid (xs.all (memG P Q) = r)) (hn : Hid (xs.length = n)) (hbig : n < 1000) (hval : Hid (validG P Q G = true)) (w : World) (hs : Hid (Sl w A xs)) :
    Calls Tryd.prog 14 #[gv P Q G, .slice A n c] w fun e' w' => e' = .returned (.bool r) ∧ Below w.heap.size w w' := by
  obtain ⟨hp2, hp, hq3, hqp⟩ := validG_P hval.out
  have HX0 := Lib.hid (gbox_alloc w P Q G)
  have HS0 := Lib.hid (hs.out.below (below_box0 w (gObj P Q G)))
  have HBX := Lib.hid (below_box0 w (gObj P Q G))
  obtain ⟨W, hW⟩ : ∃ W, w.alloc (gObj P Q G) = W := ⟨_, rfl⟩
  rw [hW] at HX0 HS0 HBX
  have HW := Lib.hid hW
  clear hW hs
  go_enter Tryd.func14, Tryd.ntmps14
  go_wp2
  rw [HW.out]
  go_loopw [5] (fun i wr => ∃ k : Nat, k ≤ n ∧ i = .int .i64 k ∧ Hid (xs.all (memG P Q) = (xs.drop k).all (memG P Q)) ∧ Hid (Below W.heap.size W wr)) (fun i _ => n - (intOf i).toNat)
  case atStart => exact ⟨0, by omega, rfl, Lib.hid rfl, Lib.hid (Below.refl _ _)⟩
  case round =>
    obtain ⟨k, hk, rfl, HR, HBr⟩ := hrel
    by_cases hlt : k < n
    · have hkl : k < xs.length := by rw [hn.out]; exact hlt
      obtain ⟨b, o, hA, hi0⟩ := HS0.out.below HBr.out k hkl
      subst hA
      have HXr := Lib.hid (HX0.out.below HBr.out)
      cases hm : memG P Q (xs.getD k 0) with
      | true =>
        have HN : Hid (xs.all (memG P Q) = (xs.drop (k + 1)).all (memG P Q)) := Lib.hid (HR.out.trans (all_drop_step hkl hm))
        obtain ⟨x, hx⟩ : ∃ x, xs.getD k 0 = x := ⟨_, rfl⟩
        rw [hx] at hi0 hm
        have HI := Lib.hid hi0
        have HM := Lib.hid hm
        clear hi0 hx hkl hm HR
        go_wp2
        have hSa := Lib.hid (show ∀ u1 u2 : World, Hid (Below wr.heap.size wr u1) → Below u1.heap.size u1 u2 → (u2.cell? ⟨w.heap.size, 0, none⟩ = some (.int .i64 P) ∧ u2.cell? ⟨w.heap.size, 1, none⟩ = some (.int .i64 Q) ∧ u2.cell? ⟨w.heap.size, 2, none⟩ = some (.int .i64 G) ∧ u2.cell? ⟨b, o + k, none⟩ = some (.int .i64 x) ∧ Hid (Below wr.heap.size wr u2)) from fun u1 u2 h1 h2 => have h3 := below_ext h1.out h2; ⟨(HXr.out.below h3).1, (HXr.out.below h3).2.1, (HXr.out.below h3).2.2, cell_below HI.out h3, Lib.hid h3⟩)
        have hRa : Hid (Below wr.heap.size wr wr) := Lib.hid (Below.refl _ _)
        go_region_held3 (fun w' => w'.cell? ⟨w.heap.size, 0, none⟩ = some (.int .i64 P) ∧ w'.cell? ⟨w.heap.size, 1, none⟩ = some (.int .i64 Q) ∧ w'.cell? ⟨w.heap.size, 2, none⟩ = some (.int .i64 G) ∧ w'.cell? ⟨b, o + k, none⟩ = some (.int .i64 x) ∧ Hid (Below wr.heap.size wr w'))
          (first | exact hSa.out _ _ hRa ((Below.refl wr.heap.size wr).drew) | (go_split_ands; exact hSa.out _ _ (by assumption) hbA) | go_keep)
          (first
            | (go_at_call 45; (with_reducible refine (rmember_any P Q G x true HM hp (by omega) (by omega) _).mono ?_); rintro e wA ⟨rfl, hbA⟩))
        rename_i hHeld
        obtain ⟨y0, y1, y2, y3, hbQ⟩ := hHeld
        have HB2 := Lib.hid (below_ext HBr.out hbQ.out)
        clear y0 y1 y2 y3
        go_wp2
        go_roundw
        case rel => exact ⟨k + 1, by omega, by go_num, HN, HB2⟩
        case measure => simp [intOf]; omega
      | false =>
        obtain rfl : r = false := by rw [← hr.out, HR.out, all_drop_hit hkl hm]
        obtain ⟨x, hx⟩ : ∃ x, xs.getD k 0 = x := ⟨_, rfl⟩
        rw [hx] at hi0 hm
        have HI := Lib.hid hi0
        have HM := Lib.hid hm
        clear hi0 hx hkl hm HR
        go_wp2
        have hSa := Lib.hid (show ∀ u1 u2 : World, Hid (Below wr.heap.size wr u1) → Below u1.heap.size u1 u2 → (u2.cell? ⟨w.heap.size, 0, none⟩ = some (.int .i64 P) ∧ u2.cell? ⟨w.heap.size, 1, none⟩ = some (.int .i64 Q) ∧ u2.cell? ⟨w.heap.size, 2, none⟩ = some (.int .i64 G) ∧ u2.cell? ⟨b, o + k, none⟩ = some (.int .i64 x) ∧ Hid (Below wr.heap.size wr u2)) from fun u1 u2 h1 h2 => have h3 := below_ext h1.out h2; ⟨(HXr.out.below h3).1, (HXr.out.below h3).2.1, (HXr.out.below h3).2.2, cell_below HI.out h3, Lib.hid h3⟩)
        have hRa : Hid (Below wr.heap.size wr wr) := Lib.hid (Below.refl _ _)
        go_region_held3 (fun w' => w'.cell? ⟨w.heap.size, 0, none⟩ = some (.int .i64 P) ∧ w'.cell? ⟨w.heap.size, 1, none⟩ = some (.int .i64 Q) ∧ w'.cell? ⟨w.heap.size, 2, none⟩ = some (.int .i64 G) ∧ w'.cell? ⟨b, o + k, none⟩ = some (.int .i64 x) ∧ Hid (Below wr.heap.size wr w'))
          (first | exact hSa.out _ _ hRa ((Below.refl wr.heap.size wr).drew) | (go_split_ands; exact hSa.out _ _ (by assumption) hbA) | go_keep)
          (first
            | (go_at_call 45; (with_reducible refine (rmember_any P Q G x false HM hp (by omega) (by omega) _).mono ?_); rintro e wA ⟨rfl, hbA⟩))
        rename_i hHeld
        obtain ⟨y0, y1, y2, y3, hbQ⟩ := hHeld
        have HB2 := Lib.hid (below_ext HBr.out hbQ.out)
        clear y0 y1 y2 y3
        go_wp2
        go_ret
        exact ⟨rfl, below_ext HBX.out HB2.out⟩
    · obtain rfl : k = n := by omega
      obtain rfl : r = true := by rw [← hr.out, HR.out, ← hn.out]; simp
      clear HR hlt
      go_wp2
      go_ret
      exact ⟨rfl, below_ext HBX.out HBr.out⟩
end Go.Proofs.YtohjfnhgibedpaaDoor
