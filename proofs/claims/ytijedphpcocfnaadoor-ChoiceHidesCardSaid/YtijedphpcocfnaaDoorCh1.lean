/- Contracts and lemmas: Alg, ChP, ChQ. -/
import Derived.Test.YtijedphpcocfnaaDoorCk3
namespace Go.Proofs.YtijedphpcocfnaaDoor
open Go.RowKit SpM
set_option linter.unusedVariables false
theorem pw_add (a i j m : Int) (hi : 0 ≤ i) (hj : 0 ≤ j) : pw a (i + j) m = pw a i m * pw a j m % m := by
  rw [pw_def, pw_def, pw_def, show (i + j).toNat = i.toNat + j.toNat by omega, Int.pow_add, Int.mul_emod]
/-- powers of an element go by the exponent's residue. -/
theorem pw_mod {P Q a k : Int} (hP : 2 ≤ P) (hQ : 1 ≤ Q) (hk : 0 ≤ k) (ha : pw a Q P = 1) : pw a k P = pw a (k % Q) P := by
  have h1 : 0 ≤ k % Q := Int.emod_nonneg _ (by omega)
  have h2 : 0 ≤ k / Q := Int.ediv_nonneg hk (by omega)
  have e : k = Q * (k / Q) + k % Q := (Int.mul_ediv_add_emod k Q).symm
  have h3 : 0 ≤ Q * (k / Q) := Int.mul_nonneg (by omega) h2
  have h4 : pw a k P = pw a (Q * (k / Q) + k % Q) P := by rw [← e]
  rw [h4, pw_add _ _ _ _ h3 h1, ← pw_pw _ _ _ _ (by omega) h2, ha, pw_one _ _ hP, Int.one_mul, pw_def a (k % Q), Int.emod_emod_of_dvd _ (Int.dvd_refl P)]
end Go.Proofs.YtijedphpcocfnaaDoor
namespace Go.Proofs.YtijedphpcocfnaaDoor
open Go.RowKit SpM
set_option linter.unusedVariables false
/-- the number that a proof could have been made with. -/
def fitK (Q c x z : Int) : Int := (z - c * x % Q) % Q
theorem fitK_in {Q c x z : Int} (hQ : 1 ≤ Q) : 0 ≤ fitK Q c x z ∧ fitK Q c x z < Q := ⟨Int.emod_nonneg _ (by omega), Int.emod_lt_of_pos _ (by omega)⟩
theorem fit_eq {Q c x z k : Int} (hQ : 1 ≤ Q) (hk0 : 0 ≤ k) (hk1 : k < Q) (hz0 : 0 ≤ z) (hz1 : z < Q) : (z == (k + c * x % Q) % Q) = (k == fitK Q c x z) := by
  have e : (z = (k + c * x % Q) % Q) ↔ (k = fitK Q c x z) := by
    unfold fitK
    generalize c * x % Q = m
    constructor
    · intro h
      have h1 : (z - m) % Q = (k + m - m) % Q := by
        rw [Int.sub_emod z m, h, Int.emod_emod, ← Int.sub_emod]
      rw [h1]
      have : k + m - m = k := by omega
      rw [this, Int.emod_eq_of_lt hk0 hk1]
    · intro h
      have h1 : (k + m) % Q = (z - m + m) % Q := by
        rw [h, Int.add_emod, Int.emod_emod, ← Int.add_emod]
      rw [h1]
      have : z - m + m = z := by omega
      rw [this, Int.emod_eq_of_lt hz0 hz1]
  rw [Bool.eq_iff_iff]
  simpa using e
theorem fit_pow {P Q b c x z : Int} (hP : 2 ≤ P) (hQ : 1 ≤ Q) (hb : memG P Q b = true) (hc0 : 0 ≤ c) (hc1 : c < Q) (hx0 : 0 ≤ x) (hz0 : 0 ≤ z) : pw b (fitK Q c x z) P = comF P Q b (pw b x P) c z := by
  have hbQ : pw b Q P = 1 := memG_pw hb
  have he : 0 ≤ (Q - c) % Q := Int.emod_nonneg _ (by omega)
  have hxe : 0 ≤ x * ((Q - c) % Q) := Int.mul_nonneg hx0 he
  unfold comF
  rw [pw_pw _ _ _ _ hx0 he, ← pw_add _ _ _ _ hz0 hxe, pw_mod (k := z + x * ((Q - c) % Q)) hP hQ (by omega) hbQ]
  congr 1
  unfold fitK
  have h1 : (x * ((Q - c) % Q)) % Q = (x * (Q - c)) % Q := by rw [Int.mul_emod, Int.emod_emod, ← Int.mul_emod]
  have h2 : x * (Q - c) = - (c * x) + Q * x := by rw [Int.mul_sub, Int.mul_comm x Q, Int.mul_comm x c]; omega
  rw [Int.add_emod, h1, h2, Int.add_mul_emod_self_left, ← Int.add_emod, Int.sub_emod, Int.emod_emod, ← Int.sub_emod]
  congr 1
/-- which numbers fit: exactly one. -/
theorem hit_eq {P Q b c x z k : Int} (hP : 2 ≤ P) (hQ : 1 ≤ Q) (hb : memG P Q b = true) (hc0 : 0 ≤ c) (hc1 : c < Q) (hx0 : 0 ≤ x) (hz0 : 0 ≤ z) (hz1 : z < Q) (hk0 : 0 ≤ k) (hk1 : k < Q) :
    ((pw b k P == comF P Q b (pw b x P) c z) && (z == (k + c * x % Q) % Q)) = (k == fitK Q c x z) := by
  rw [fit_eq hQ hk0 hk1 hz0 hz1]
  cases h : k == fitK Q c x z with
  | false => simp
  | true =>
    have e : k = fitK Q c x z := by simpa using h
    rw [e, fit_pow hP hQ hb hc0 hc1 hx0 hz0]
    simp
end Go.Proofs.YtijedphpcocfnaaDoor
namespace Go.Proofs.YtijedphpcocfnaaDoor
open Go.RowKit SpM
set_option linter.unusedVariables false
set_option linter.unusedSimpArgs false
set_option maxRecDepth 100000
/-- the powers of a base. -/
def powL (P b : Int) (xs : List Int) : List Int := xs.map fun x => pw b x P
theorem powL_length (P b : Int) (xs : List Int) : (powL P b xs).length = xs.length := by simp [powL]
theorem powL_take {P b : Int} {xs : List Int} {k : Nat} (hk : k < xs.length) : powL P b (xs.take (k + 1)) = powL P b (xs.take k) ++ [pw b (xs.getD k 0) P] := by
  rw [powL, List.take_add_one, List.map_append, List.getElem?_eq_getElem hk, List.getD_eq_getElem?_getD, List.getElem?_eq_getElem hk]
  rfl
theorem powL_get {P b : Int} {xs : List Int} {k : Nat} (hk : k < xs.length) : (powL P b xs).getD k 0 = pw b (xs.getD k 0) P := by
  rw [List.getD_eq_getElem?_getD, List.getElem?_eq_getElem (by rw [powL_length]; exact hk), List.getD_eq_getElem?_getD, List.getElem?_eq_getElem hk]
  simp [powL]
set_option maxHeartbeats 25600000 in
theorem ch_true (P Q G b : Int) (X : Option Addr) (xs : List Int) (xn xc : Nat) (A : Option Addr) (al : List Int) (na ca : Nat) (C : Option Addr) (cl : List Int) (nc cc : Nat) (Z : Option Addr) (zl : List Int) (nz cz : Nat)
    (hxn : Hid (xs.length = xn)) (han : Hid (al.length = na)) (hcn : Hid (cl.length = nc)) (hzn : Hid (zl.length = nz)) (hQ : Q < 9223372036854775808) (w : World) (hv : Hid (Vars w)) (hX : Hid (Sl w X xs)) (hA : Hid (Sl w A al)) (hC : Hid (Sl w C cl)) (hZ : Hid (Sl w Z zl)) :
    Calls Tryd.prog 7 #[gv P Q G, .int .i64 b, .slice X xn xc, choV A na ca C nc cc Z nz cz] w fun e' w' => e' = .returned (.bool true) ∧ Below w.heap.size w w' := by
  obtain ⟨i0, hi, hz0, hz1, hz2⟩ := info_parts intInfo
  obtain ⟨fb, hfb⟩ : ∃ x, (decide (0 ≤ 40) && !(([⟨A, na, ca, C, nc, cc, Z, nz, cz⟩] : List Cho).any bigC)) = x := ⟨_, rfl⟩
  obtain ⟨vb, hvb⟩ : ∃ x, validG P Q G = x := ⟨_, rfl⟩
  obtain ⟨bb, hbb⟩ : ∃ x, memG P Q b = x := ⟨_, rfl⟩
  obtain ⟨sb, hsb⟩ : ∃ x, xs.all (scB Q) = x := ⟨_, rfl⟩
  obtain ⟨se, hse⟩ : ∃ x, sumE P Q G cl = x := ⟨_, rfl⟩
  obtain ⟨sv, hsv⟩ : ∃ x, sumV P Q G cl = x := ⟨_, rfl⟩
  obtain ⟨r, hr⟩ : ∃ x, checkC P Q G b (powL P b xs) sv al cl zl = x := ⟨_, rfl⟩
  have HFB := Lib.hid hfb
  have HVB := Lib.hid hvb
  have HBB := Lib.hid hbb
  have HSB := Lib.hid hsb
  have HSE := Lib.hid hse
  have HSV := Lib.hid hsv
  have HR := Lib.hid hr
  clear hfb hvb hbb hsb hse hsv hr
  obtain ⟨w0, hW⟩ : ∃ W, ((w.alloc (gObj P Q G)).alloc (choO A na ca C nc cc Z nz cz)) = W := ⟨_, rfl⟩
  have HBw : Hid (Below w.heap.size w w0) := Lib.hid (by rw [← hW]; exact below_two (Below.refl _ _))
  have hc : w0.cell? ⟨w.heap.size, 0, none⟩ = some (.int .i64 P) ∧ w0.cell? ⟨w.heap.size, 1, none⟩ = some (.int .i64 Q) ∧ w0.cell? ⟨w.heap.size, 2, none⟩ = some (.int .i64 G) ∧ w0.cell? ⟨w.heap.size + 1, 0, none⟩ = some (.slice A na ca) ∧ w0.cell? ⟨w.heap.size + 1, 1, none⟩ = some (.slice C nc cc) ∧ w0.cell? ⟨w.heap.size + 1, 2, none⟩ = some (.slice Z nz cz) := by rw [← hW]; exact ⟨cell_below (allocs_cell (by simp) (by rfl)) (below_box0 _ _), cell_below (allocs_cell (by simp) (by rfl)) (below_box0 _ _), cell_below (allocs_cell (by simp) (by rfl)) (below_box0 _ _), allocs_cell (by simp) (by rfl), allocs_cell (by simp) (by rfl), allocs_cell (by simp) (by rfl)⟩
  have kC := Lib.hid (show ∀ u : World, Hid (Below w0.heap.size w0 u) → u.cell? ⟨w.heap.size, 0, none⟩ = some (.int .i64 P) ∧ u.cell? ⟨w.heap.size, 1, none⟩ = some (.int .i64 Q) ∧ u.cell? ⟨w.heap.size, 2, none⟩ = some (.int .i64 G) ∧ u.cell? ⟨w.heap.size + 1, 0, none⟩ = some (.slice A na ca) ∧ u.cell? ⟨w.heap.size + 1, 1, none⟩ = some (.slice C nc cc) ∧ u.cell? ⟨w.heap.size + 1, 2, none⟩ = some (.slice Z nz cz) from fun u h => ⟨cell_below hc.1 h.out, cell_below hc.2.1 h.out, cell_below hc.2.2.1 h.out, cell_below hc.2.2.2.1 h.out, cell_below hc.2.2.2.2.1 h.out, cell_below hc.2.2.2.2.2 h.out⟩)
  have kV := Lib.hid (show ∀ u : World, Hid (Below w0.heap.size w0 u) → Hid (Vars u) from fun u h => Lib.hid ((hv.out.below) (below_ext HBw.out h.out)))
  have kX := Lib.hid (show ∀ u : World, Hid (Below w0.heap.size w0 u) → Hid (Sl u X xs) from fun u h => Lib.hid ((hX.out.below) (below_ext HBw.out h.out)))
  have kA := Lib.hid (show ∀ u : World, Hid (Below w0.heap.size w0 u) → Hid (Sl u A al) from fun u h => Lib.hid ((hA.out.below) (below_ext HBw.out h.out)))
  have kCl := Lib.hid (show ∀ u : World, Hid (Below w0.heap.size w0 u) → Hid (Sl u C cl) from fun u h => Lib.hid ((hC.out.below) (below_ext HBw.out h.out)))
  have kZ := Lib.hid (show ∀ u : World, Hid (Below w0.heap.size w0 u) → Hid (Sl u Z zl) from fun u h => Lib.hid ((hZ.out.below) (below_ext HBw.out h.out)))
  have HB_0 : Hid (Below w0.heap.size w0 w0) := Lib.hid (Below.refl _ _)
  have HW := Lib.hid hW
  clear hW hc hv hX hA hC hZ
  go_enter Tryd.func7, Tryd.ntmps7
  go_wp2_with fail
  rw [HW.out]
  obtain ⟨zc0, zc1, zc2, zc3, zc4, zc5⟩ := kC.out _ HB_0
  go_wp2_with fail
  refine (awake19 _ (kV.out _ HB_0)).mono ?_
  rintro e w1 ⟨rfl, hb0⟩
  have HB_1 := Lib.hid (below_ext HB_0.out hb0)
  clear zc0 zc1 zc2 zc3 zc4 zc5
  clear hb0
  obtain ⟨zc0, zc1, zc2, zc3, zc4, zc5⟩ := kC.out _ HB_1
  by_cases h16 : 16 < xn
  · skip
    have d1 : decide ((16 : Int) < (xn : Int)) = true := by simp; omega
    go_wp2_with fail
    refine (awake19 _ (kV.out _ HB_1)).mono ?_
    rintro e w2 ⟨rfl, hb0⟩
    have HB_2 := Lib.hid (below_ext HB_1.out hb0)
    clear zc0 zc1 zc2 zc3 zc4 zc5
    clear hb0
    obtain ⟨zc0, zc1, zc2, zc3, zc4, zc5⟩ := kC.out _ HB_2
    have hbF := below_ext HBw.out HB_2.out
    go_wp2
    go_ret
    exact ⟨rfl, hbF⟩
  · skip
    have d1 : decide ((16 : Int) < (xn : Int)) = false := by simp; omega
    have HCW := Lib.hid (cws1 w1 53 A na ca C nc cc Z nz cz)
    have hq := below_box0 w1 (.cells #[.slice A na ca, .slice C nc cc, .slice Z nz cz] 53)
    have HB_2 := Lib.hid (below_ext HB_1.out hq)
    clear hq
    go_wp2_with fail
    refine (few19_any none 0 0 w1.heap.size fb [⟨A, na, ca, C, nc, cc, Z, nz, cz⟩] 1 1 HFB (Lib.hid rfl) (by omega) _ HCW).mono ?_
    rintro e w3 ⟨rfl, hb0⟩
    have HB_3 := Lib.hid (below_ext HB_2.out hb0)
    clear zc0 zc1 zc2 zc3 zc4 zc5
    clear hb0
    obtain ⟨zc0, zc1, zc2, zc3, zc4, zc5⟩ := kC.out _ HB_3
    cases fb with
    | false =>
      go_wp2_with fail
      refine (awake19 _ (kV.out _ HB_3)).mono ?_
      rintro e w4 ⟨rfl, hb0⟩
      have HB_4 := Lib.hid (below_ext HB_3.out hb0)
      clear zc0 zc1 zc2 zc3 zc4 zc5
      clear hb0
      obtain ⟨zc0, zc1, zc2, zc3, zc4, zc5⟩ := kC.out _ HB_4
      have hbF := below_ext HBw.out HB_4.out
      go_wp2
      go_ret
      exact ⟨rfl, hbF⟩
    | true =>
      obtain ⟨_, l2, l3, l4⟩ := few1_parts HFB.out
      dsimp only at l2 l3 l4
      go_wp2_with fail
      refine (rvalid_any P Q G vb HVB hQ _).mono ?_
      rintro e w4 ⟨rfl, hb0⟩
      have HB_4 := Lib.hid (below_ext HB_3.out hb0)
      clear zc0 zc1 zc2 zc3 zc4 zc5
      clear hb0
      obtain ⟨zc0, zc1, zc2, zc3, zc4, zc5⟩ := kC.out _ HB_4
      cases vb with
      | false =>
        go_wp2_with fail
        refine (awake19 _ (kV.out _ HB_4)).mono ?_
        rintro e w5 ⟨rfl, hb0⟩
        have HB_5 := Lib.hid (below_ext HB_4.out hb0)
        clear zc0 zc1 zc2 zc3 zc4 zc5
        clear hb0
        obtain ⟨zc0, zc1, zc2, zc3, zc4, zc5⟩ := kC.out _ HB_5
        have hbF := below_ext HBw.out HB_5.out
        go_wp2
        go_ret
        exact ⟨rfl, hbF⟩
      | true =>
        obtain ⟨hp2, hp, hq3, hqp⟩ := validG_P HVB.out
        by_cases hq113 : 113 < Q
        · skip
          have d2 : decide ((113 : Int) < Q) = true := by simp; omega
          go_wp2_with fail
          refine (awake19 _ (kV.out _ HB_4)).mono ?_
          rintro e w5 ⟨rfl, hb0⟩
          have HB_5 := Lib.hid (below_ext HB_4.out hb0)
          clear zc0 zc1 zc2 zc3 zc4 zc5
          clear hb0
          obtain ⟨zc0, zc1, zc2, zc3, zc4, zc5⟩ := kC.out _ HB_5
          have hbF := below_ext HBw.out HB_5.out
          go_wp2
          go_ret
          exact ⟨rfl, hbF⟩
        · skip
          have d2 : decide ((113 : Int) < Q) = false := by simp; omega
          go_wp2_with fail
          refine (rmember_any P Q G b bb HBB hp (by omega) hQ _).mono ?_
          rintro e w5 ⟨rfl, hb0⟩
          have HB_5 := Lib.hid (below_ext HB_4.out hb0)
          clear zc0 zc1 zc2 zc3 zc4 zc5
          clear hb0
          obtain ⟨zc0, zc1, zc2, zc3, zc4, zc5⟩ := kC.out _ HB_5
          cases bb with
          | false =>
            go_wp2_with fail
            refine (awake19 _ (kV.out _ HB_5)).mono ?_
            rintro e w6 ⟨rfl, hb0⟩
            have HB_6 := Lib.hid (below_ext HB_5.out hb0)
            clear zc0 zc1 zc2 zc3 zc4 zc5
            clear hb0
            obtain ⟨zc0, zc1, zc2, zc3, zc4, zc5⟩ := kC.out _ HB_6
            have hbF := below_ext HBw.out HB_6.out
            go_wp2
            go_ret
            exact ⟨rfl, hbF⟩
          | true =>
            cases hb1 : b == 1 with
            | true =>
              go_wp2_with fail
              refine (awake19 _ (kV.out _ HB_5)).mono ?_
              rintro e w6 ⟨rfl, hb0⟩
              have HB_6 := Lib.hid (below_ext HB_5.out hb0)
              clear zc0 zc1 zc2 zc3 zc4 zc5
              clear hb0
              obtain ⟨zc0, zc1, zc2, zc3, zc4, zc5⟩ := kC.out _ HB_6
              have hbF := below_ext HBw.out HB_6.out
              go_wp2
              go_ret
              exact ⟨rfl, hbF⟩
            | false =>
              go_wp2_with fail
              refine (rsc19_any P Q G X xs xn xc sb HSB hxn (by omega) _ (kX.out _ HB_5)).mono ?_
              rintro e w6 ⟨rfl, hb0⟩
              have HB_6 := Lib.hid (below_ext HB_5.out hb0)
              clear zc0 zc1 zc2 zc3 zc4 zc5
              clear hb0
              obtain ⟨zc0, zc1, zc2, zc3, zc4, zc5⟩ := kC.out _ HB_6
              cases sb with
              | false =>
                go_wp2_with fail
                refine (awake19 _ (kV.out _ HB_6)).mono ?_
                rintro e w7 ⟨rfl, hb0⟩
                have HB_7 := Lib.hid (below_ext HB_6.out hb0)
                clear zc0 zc1 zc2 zc3 zc4 zc5
                clear hb0
                obtain ⟨zc0, zc1, zc2, zc3, zc4, zc5⟩ := kC.out _ HB_7
                have hbF := below_ext HBw.out HB_7.out
                go_wp2
                go_ret
                exact ⟨rfl, hbF⟩
              | true =>
                have HCB : Hid (chkG P Q G [b] = 0) := Lib.hid (chkG_ok HVB.out (by simpa using HBB.out))
                go_wp2
                clear zc0 zc1 zc2 zc3 zc4 zc5
                go_loopw [9, 64] (fun v i wr => ∃ k : Nat, k ≤ xn ∧ i = .int .i64 k ∧ Hid (OwnL wr w6.heap.size v (powL P b (xs.take k))) ∧ Hid (Below w6.heap.size w6 wr)) (fun _ i _ => xn - (intOf i).toNat)
                case atStart => exact ⟨0, by omega, rfl, Lib.hid (ownL_nil _ _), Lib.hid (Below.refl _ _)⟩
                case round =>
                  obtain ⟨k, hk, rfl, HO, HBr⟩ := hrel
                  obtain ⟨wo, rfl⟩ : ∃ wo : World, wo = wr := ⟨_, rfl⟩
                  have HB0 := Lib.hid (below_ext HB_6.out HBr.out)
                  by_cases hlt : k < xn
                  · have h0 : k < xs.length := by rw [hxn.out]; exact hlt
                    obtain ⟨b0, o0, e0, hi0⟩ := (kX.out _ HB0).out k h0
                    subst e0
                    obtain ⟨zc0, zc1, zc2, _, _, _⟩ := kC.out _ HB0
                    have hsc := all_get HSB.out h0
                    have hst := powL_take (P := P) (b := b) h0
                    obtain ⟨x, hx⟩ : ∃ x, xs.getD k 0 = x := ⟨_, rfl⟩
                    rw [hx] at hi0 hsc hst
                    have x0 := scB_lo hsc
                    have x1 := scB_hi hsc
                    obtain ⟨V, hV⟩ : ∃ V, pw b x P = V := ⟨_, rfl⟩
                    rw [hV] at hst
                    have HPW : Hid (pw b (x % Q) P = V) := Lib.hid (by rw [Int.emod_eq_of_lt x0 x1]; exact hV)
                    have HST := Lib.hid hst
                    have HTL : Hid ((powL P b (xs.take k)).length = k) := Lib.hid (by rw [powL_length, List.length_take]; omega)
                    clear hx hsc hst hV h0
                    go_wp2_with fail
                    refine (gpow_ok P Q G b x V HCB HPW (by omega) (by omega) _ (kV.out _ HB0)).mono ?_
                    rintro e w2 ⟨rfl, hb0⟩
                    have HO1 := Lib.hid (HO.out.keep hb0)
                    have HB1 := Lib.hid (below_ext HBr.out hb0)
                    have hown : w2.ownsRow w6.heap.size 3 1 u9 k ((powL P b (xs.take k)).map (Value.int .i64)) := by
                      have h3 := HO1.out
                      unfold OwnL at h3
                      rwa [HTL.out] at h3
                    have hbs := HB1.out.size
                    clear hb0 zc0 zc1 zc2 hi0 HO
                    go_wp2_with (at_builtin; refine wpList_append_own _ rfl _ _ 24 rfl w6.heap.size 3 i0 (.int .i64 0) 1 8 Tryd.underlying24 hi hz0 hz1 hz2 rfl (by decide) _ _ _ rfl (hown.alloc _) ⟨w2.heap.size, 0, none⟩ 1 1 [.int .i64 V] rfl rfl (cell_one_new _ _ _) (ints_oneCell .i64 [V]) (by unfold maxLen; omega) (by omega) (by simp; omega) ?_; intro v' w3 hown1 hgrow1 _)
                    have HO2 : Hid (OwnL w3 w6.heap.size v' (powL P b (xs.take (k + 1)))) := Lib.hid (by
                      rw [HST.out]
                      exact OwnL.app HTL.out.symm hown1)
                    have HB2 : Hid (Below w6.heap.size w6 w3) := Lib.hid (HO1.out.below HB1.out hbs hgrow1)
                    clear hown hown1 hgrow1
                    go_roundw
                    case rel => exact ⟨k + 1, by omega, by go_num, HO2, HB2⟩
                    case measure => simp [intOf]; omega
                  · obtain rfl : xn = k := by omega
                    have hO := HO.out
                    rw [List.take_of_length_le (by rw [hxn.out]; exact Nat.le_refl _)] at hO
                    obtain ⟨Y3, c3, hv3, hy3, _⟩ := OwnL.sl hO
                    rw [powL_length, hxn.out] at hv3
                    subst hv3
                    have HY3 := Lib.hid hy3
                    have HPL : Hid ((powL P b xs).length = xn) := Lib.hid (by rw [powL_length]; exact hxn.out)
                    clear hO hy3 HO hlt
                    have HB_wo_50 : Hid (Below wo.heap.size wo wo) := Lib.hid (Below.refl _ _)
                    have kY := Lib.hid (show ∀ u : World, Hid (Below wo.heap.size wo u) → Hid (Sl u Y3 (powL P b xs)) from fun u h => Lib.hid (HY3.out.below h.out))
                    obtain ⟨zc0, zc1, zc2, zc3, zc4, zc5⟩ := kC.out _ HB0
                    go_wp2_with fail
                    refine (csumf_any P Q G A al na ca C cl nc cc Z zl nz cz se sv HSE HSV hcn (by omega) hQ _ (kV.out _ HB0) (kCl.out _ HB0)).mono ?_
                    rintro e w51 ⟨rfl, hb0⟩
                    have HB_51 := Lib.hid (below_ext HB0.out hb0)
                    have HB_wo_51 := Lib.hid (below_ext HB_wo_50.out hb0)
                    clear zc0 zc1 zc2 zc3 zc4 zc5
                    clear hb0
                    obtain ⟨zc0, zc1, zc2, zc3, zc4, zc5⟩ := kC.out _ HB_51
                    cases hse0 : se == 0 with
                    | false =>
                      have hsn : ((se : Int) != 0) = true := by rw [bne, hse0]; rfl
                      have hbF := below_ext HBw.out HB_51.out
                      go_wp2
                      go_ret
                      exact ⟨rfl, hbF⟩
                    | true =>
                      obtain rfl : se = 0 := by simpa using hse0
                      clear hse0
                      by_cases hx0 : xn = 0
                      · skip
                        have e1 : ((xn : Int) == 0) = true := by simp; omega
                        have hbF := below_ext HBw.out HB_51.out
                        go_wp2
                        go_ret
                        exact ⟨rfl, hbF⟩
                      · skip
                        have e1 : ((xn : Int) == 0) = false := by simp; omega
                        go_wp2_with fail
                        refine (cccheck_any P Q G b Y3 (powL P b xs) xn c3 sv A al na ca C cl nc cc Z zl nz cz r HR HPL (by omega) han hcn hzn (by omega) (by omega) (by omega) hQ _ (kV.out _ HB_51) (kY.out _ HB_wo_51) (kA.out _ HB_51) (kCl.out _ HB_51) (kZ.out _ HB_51)).mono ?_
                        rintro e w52 ⟨rfl, hb0⟩
                        have HB_52 := Lib.hid (below_ext HB_51.out hb0)
                        have HB_wo_52 := Lib.hid (below_ext HB_wo_51.out hb0)
                        clear zc0 zc1 zc2 zc3 zc4 zc5
                        clear hb0
                        obtain ⟨zc0, zc1, zc2, zc3, zc4, zc5⟩ := kC.out _ HB_52
                        cases r with
                        | false =>
                          have hbF := below_ext HBw.out HB_52.out
                          go_wp2
                          go_ret
                          exact ⟨rfl, hbF⟩
                        | true =>
                          have hck := HR.out
                          rw [checkC_ref, powL_length, hxn.out] at hck
                          simp only [Bool.and_eq_true] at hck
                          obtain ⟨_, hf, _, hac⟩ := hck
                          obtain ⟨f1, f2, f3, _, f5, f6⟩ := formB_parts hf
                          have HCS := Lib.hid f5
                          have HZS := Lib.hid f6
                          have HAC := Lib.hid hac
                          obtain rfl : xn = na := f1.symm.trans han.out
                          obtain rfl : xn = nc := f2.symm.trans hcn.out
                          obtain rfl : xn = nz := f3.symm.trans hzn.out
                          have enn : ((xn : Int) != (xn : Int)) = false := by simp
                          clear hf hac f1 f2 f3 f5 f6
                          go_wp2
                          clear zc0 zc1 zc2 zc3 zc4 zc5
                          go_loopw [128] (fun i wr => ∃ k : Nat, k ≤ xn ∧ i = .int .i64 k ∧ Hid (Below w0.heap.size w0 wr)) (fun i _ => xn - (intOf i).toNat)
                          case atStart => exact ⟨0, by omega, rfl, HB_52⟩
                          case round =>
                            obtain ⟨k, hk2, rfl, HB2⟩ := hrel
                            obtain ⟨wp, rfl⟩ : ∃ wp : World, wp = wr := ⟨_, rfl⟩
                            obtain ⟨zc0, zc1, zc2, zc3, zc4, zc5⟩ := kC.out _ HB2
                            by_cases hlt : k < xn
                            · have h0 : k < xs.length := by rw [hxn.out]; exact hlt
                              have h1 : k < al.length := by rw [han.out]; exact hlt
                              have h2 : k < cl.length := by rw [hcn.out]; exact hlt
                              have h3 : k < zl.length := by rw [hzn.out]; exact hlt
                              obtain ⟨b0, o0, e0, hi0⟩ := (kX.out _ HB2).out k h0
                              obtain ⟨b1, o1, e1, hi1⟩ := (kA.out _ HB2).out k h1
                              obtain ⟨b2, o2, e2, hi2⟩ := (kCl.out _ HB2).out k h2
                              obtain ⟨b3, o3, e3, hi3⟩ := (kZ.out _ HB2).out k h3
                              subst e0
                              subst e1
                              subst e2
                              subst e3
                              have hsx := all_get HSB.out h0
                              have hsc := all_get HCS.out h2
                              have hsz := all_get HZS.out h3
                              have hfit : comF P Q b ((powL P b xs).getD k 0) (cl.getD k 0) (zl.getD k 0) = al.getD k 0 := by
                                have h9 := HAC.out
                                unfold accL at h9
                                rw [List.drop_zero, List.all_eq_true] at h9
                                simpa using h9 k (by simpa using hlt)
                              rw [powL_get h0] at hfit
                              obtain ⟨x, hx⟩ : ∃ v, xs.getD k 0 = v := ⟨_, rfl⟩
                              obtain ⟨a, ha⟩ : ∃ v, al.getD k 0 = v := ⟨_, rfl⟩
                              obtain ⟨c, hc⟩ : ∃ v, cl.getD k 0 = v := ⟨_, rfl⟩
                              obtain ⟨z, hz⟩ : ∃ v, zl.getD k 0 = v := ⟨_, rfl⟩
                              rw [hx, hc, hz, ha] at hfit
                              rw [hx] at hi0 hsx
                              rw [ha] at hi1
                              rw [hc] at hi2 hsc
                              rw [hz] at hi3 hsz
                              have x0 := scB_lo hsx
                              have x1 := scB_hi hsx
                              have c0 := scB_lo hsc
                              have c1 := scB_hi hsc
                              have z0 := scB_lo hsz
                              have z1 := scB_hi hsz
                              obtain ⟨F, hF⟩ : ∃ F, fitK Q c x z = F := ⟨_, rfl⟩
                              obtain ⟨F0, F1⟩ : 0 ≤ F ∧ F < Q := by rw [← hF]; exact fitK_in (by omega)
                              obtain ⟨m, hm⟩ : ∃ m, c * x % Q = m := ⟨_, rfl⟩
                              have m0 : 0 ≤ m := by rw [← hm]; exact Int.emod_nonneg _ (by omega)
                              have m1 : m < Q := by rw [← hm]; exact Int.emod_lt_of_pos _ (by omega)
                              have HHIT := Lib.hid (show ∀ K : Int, 0 ≤ K → K < Q → ((pw b K P == a) && (z == (K + m) % Q)) = (K == F) from fun K k0 k1 => by
                                rw [← hfit, ← hm, ← hF]
                                exact hit_eq hp2 (by omega) HBB.out c0 c1 x0 z0 z1 k0 k1)
                              have HMM := Lib.hid hm
                              have HJ0 := Lib.hid hi0
                              have HJ1 := Lib.hid hi1
                              have HJ2 := Lib.hid hi2
                              have HJ3 := Lib.hid hi3
                              clear hx ha hc hz hfit hsx hsc hsz hF hm h0 h1 h2 h3 hi1 hi2 hi3
                              go_wp2
                              clear hi0 zc0 zc1 zc2 zc3 zc4 zc5
                              go_loopw [18, 135] (fun o j wr => ∃ J N : Int, 0 ≤ J ∧ J ≤ Q ∧ 0 ≤ N ∧ N ≤ 1 ∧ j = .int .i64 J ∧ o = .int .i64 N ∧ Hid (N = if F < J then 1 else 0) ∧ Hid (Below wp.heap.size wp wr)) (fun _ j _ => (Q - intOf j).toNat)
                              case atStart => exact ⟨0, 0, by omega, by omega, by omega, by omega, rfl, rfl, Lib.hid (by rw [if_neg (by omega)]), Lib.hid (Below.refl _ _)⟩
                              case round =>
                                obtain ⟨J, N, K0, K1, N0, N1, rfl, rfl, HN, HBj⟩ := hrel
                                obtain ⟨wj, rfl⟩ : ∃ wj : World, wj = wr := ⟨_, rfl⟩
                                have HB3 := Lib.hid (below_ext HB2.out HBj.out)
                                obtain ⟨zc0, zc1, zc2, zc3, zc4, zc5⟩ := kC.out _ HB3
                                by_cases hKQ : J < Q
                                · obtain ⟨V, hV⟩ : ∃ V, pw b J P = V := ⟨_, rfl⟩
                                  have HPW : Hid (pw b (J % Q) P = V) := Lib.hid (by rw [Int.emod_eq_of_lt K0 hKQ]; exact hV)
                                  have hh := HHIT.out J K0 hKQ
                                  rw [hV] at hh
                                  obtain ⟨t, ht⟩ : ∃ t, (J + m) % Q = t := ⟨_, rfl⟩
                                  rw [ht] at hh
                                  have hsum : IntKind.i64.wrap (J + m) = J + m := IntWalk.i64_in _ (by omega)
                                  have HT := Lib.hid ht
                                  have HHK := Lib.hid hh
                                  clear hh ht hV
                                  go_wp2_with fail
                                  refine (gpow_ok P Q G b J V HCB HPW (by omega) (by omega) _ (kV.out _ HB3)).mono ?_
                                  rintro e wg ⟨rfl, hb0⟩
                                  have HBg := Lib.hid (below_ext HBj.out hb0)
                                  clear hb0 zc0 zc1 zc2 zc3 zc4 zc5 HB3
                                  have HB4 := Lib.hid (below_ext HB2.out HBg.out)
                                  obtain ⟨zc0, zc1, zc2, zc3, zc4, zc5⟩ := kC.out _ HB4
                                  have hS := Lib.hid (show wg.cell? ⟨w.heap.size, 0, none⟩ = some (.int .i64 P) ∧ wg.cell? ⟨w.heap.size, 1, none⟩ = some (.int .i64 Q) ∧ wg.cell? ⟨w.heap.size, 2, none⟩ = some (.int .i64 G) ∧ wg.cell? ⟨w.heap.size + 1, 0, none⟩ = some (.slice (some ⟨b1, o1, none⟩) xn ca) ∧ wg.cell? ⟨w.heap.size + 1, 1, none⟩ = some (.slice (some ⟨b2, o2, none⟩) xn cc) ∧ wg.cell? ⟨w.heap.size + 1, 2, none⟩ = some (.slice (some ⟨b3, o3, none⟩) xn cz) ∧ wg.cell? ⟨b1, o1 + k, none⟩ = some (.int .i64 a) ∧ wg.cell? ⟨b2, o2 + k, none⟩ = some (.int .i64 c) ∧ wg.cell? ⟨b3, o3 + k, none⟩ = some (.int .i64 z) from ⟨zc0, zc1, zc2, zc3, zc4, zc5, cell_below HJ1.out HBg.out, cell_below HJ2.out HBg.out, cell_below HJ3.out HBg.out⟩)
                                  have HBg2 : Hid (Below wp.heap.size wp wg.drew) := Lib.hid HBg.out.drew
                                  clear zc0 zc1 zc2 zc3 zc4 zc5
                                  cases hva : V == a with
                                  | false =>
                                    have hKF : ¬ J = F := by
                                      have h9 := HHK.out
                                      rw [hva, Bool.false_and] at h9
                                      intro h
                                      rw [h] at h9
                                      simp at h9
                                    have HN2 : Hid (N = if F < J + 1 then 1 else 0) := Lib.hid (by
                                      rw [HN.out]
                                      by_cases h : F < J
                                      · rw [if_pos h, if_pos (by omega)]
                                      · rw [if_neg h, if_neg (by omega)])
                                    clear hKF
                                    go_wp2
                                    refine wp_region_T (S := fun w' => w'.cell? ⟨w.heap.size, 0, none⟩ = some (.int .i64 P) ∧ w'.cell? ⟨w.heap.size, 1, none⟩ = some (.int .i64 Q) ∧ w'.cell? ⟨w.heap.size, 2, none⟩ = some (.int .i64 G) ∧ w'.cell? ⟨w.heap.size + 1, 0, none⟩ = some (.slice (some ⟨b1, o1, none⟩) xn ca) ∧ w'.cell? ⟨w.heap.size + 1, 1, none⟩ = some (.slice (some ⟨b2, o2, none⟩) xn cc) ∧ w'.cell? ⟨w.heap.size + 1, 2, none⟩ = some (.slice (some ⟨b3, o3, none⟩) xn cz) ∧ w'.cell? ⟨b1, o1 + k, none⟩ = some (.int .i64 a) ∧ w'.cell? ⟨b2, o2 + k, none⟩ = some (.int .i64 c) ∧ w'.cell? ⟨b3, o3 + k, none⟩ = some (.int .i64 z)) (E := []) (by kernel_rfl) (hS.out) (fun hHeld => ?_)
                                    refine wpT_take (i := 0) (oi := _) (v := ?_) rfl (by kernel_rfl) (by kernel_rfl) (by kernel_rfl) (by kernel_rfl) (fun _ _ _ h => h) (Or.inl ⟨by rfl, ?_⟩) (by assumption) ?_
                                    rotate_left; (intro wS hSw; (try dsimp only at hSw); go_simp <;> with_reducible rfl)
                                    try simp only [List.getElem_toArray, List.getElem_cons_zero, List.getElem_cons_succ, Act.put, List.setIfInBounds_toArray, List.set_cons_zero, List.set_cons_succ]
                                    refine wpT_take (i := 1) (oi := _) (v := ?_) rfl (by kernel_rfl) (by kernel_rfl) (by kernel_rfl) (by kernel_rfl) (fun _ _ _ h => h) (Or.inl ⟨by rfl, ?_⟩) (by assumption) ?_
                                    rotate_left; (intro wS hSw; (try dsimp only at hSw); go_simp <;> with_reducible rfl)
                                    try simp only [List.getElem_toArray, List.getElem_cons_zero, List.getElem_cons_succ, Act.put, List.setIfInBounds_toArray, List.set_cons_zero, List.set_cons_succ]
                                    refine wpT_take (i := 2) (oi := _) (v := ?_) rfl (by kernel_rfl) (by kernel_rfl) (by kernel_rfl) (by kernel_rfl) (fun _ _ _ h => h) (Or.inl ⟨by rfl, ?_⟩) (by assumption) ?_
                                    rotate_left; (intro wS hSw; (try dsimp only at hSw); go_simp <;> with_reducible rfl)
                                    try simp only [List.getElem_toArray, List.getElem_cons_zero, List.getElem_cons_succ, Act.put, List.setIfInBounds_toArray, List.set_cons_zero, List.set_cons_succ]
                                    refine wpT_take (i := 3) (oi := _) (v := ?_) rfl (by kernel_rfl) (by kernel_rfl) (by kernel_rfl) (by kernel_rfl) (fun _ _ _ h => h) (Or.inl ⟨by rfl, ?_⟩) (by assumption) ?_
                                    rotate_left; (intro wS hSw; (try dsimp only at hSw); go_simp <;> with_reducible rfl)
                                    try simp only [List.getElem_toArray, List.getElem_cons_zero, List.getElem_cons_succ, Act.put, List.setIfInBounds_toArray, List.set_cons_zero, List.set_cons_succ]
                                    refine wpT_take (i := 4) (oi := _) (v := ?_) rfl (by kernel_rfl) (by kernel_rfl) (by kernel_rfl) (by kernel_rfl) (fun _ _ _ h => h) (Or.inl ⟨by rfl, ?_⟩) (by assumption) ?_
                                    rotate_left; (intro wS hSw; (try dsimp only at hSw); go_simp <;> with_reducible rfl)
                                    try simp only [List.getElem_toArray, List.getElem_cons_zero, List.getElem_cons_succ, Act.put, List.setIfInBounds_toArray, List.set_cons_zero, List.set_cons_succ]
                                    refine wpT_take (i := 5) (oi := _) (v := ?_) rfl (by kernel_rfl) (by kernel_rfl) (by kernel_rfl) (by kernel_rfl) (fun _ _ _ h => h) (Or.inl ⟨by rfl, ?_⟩) (by assumption) ?_
                                    rotate_left; (intro wS hSw; (try dsimp only at hSw); go_simp <;> with_reducible rfl)
                                    try simp only [List.getElem_toArray, List.getElem_cons_zero, List.getElem_cons_succ, Act.put, List.setIfInBounds_toArray, List.set_cons_zero, List.set_cons_succ]
                                    refine wpT_take (i := 6) (oi := _) (v := ?_) rfl (by kernel_rfl) (by kernel_rfl) (by kernel_rfl) (by kernel_rfl) (fun _ _ _ h => h) (Or.inl ⟨by rfl, ?_⟩) (by assumption) ?_
                                    rotate_left; (intro wS hSw; (try dsimp only at hSw); go_simp <;> with_reducible rfl)
                                    try simp only [List.getElem_toArray, List.getElem_cons_zero, List.getElem_cons_succ, Act.put, List.setIfInBounds_toArray, List.set_cons_zero, List.set_cons_succ]
                                    refine wpT_take (i := 7) (oi := _) (v := ?_) rfl (by kernel_rfl) (by kernel_rfl) (by kernel_rfl) (by kernel_rfl) (fun _ _ _ h => h) (Or.inl ⟨by rfl, ?_⟩) (by assumption) ?_
                                    rotate_left; (intro wS hSw; (try dsimp only at hSw); go_simp <;> with_reducible rfl)
                                    try simp only [List.getElem_toArray, List.getElem_cons_zero, List.getElem_cons_succ, Act.put, List.setIfInBounds_toArray, List.set_cons_zero, List.set_cons_succ]
                                    refine wpT_take (i := 8) (oi := _) (v := undef) rfl (by kernel_rfl) (by kernel_rfl) (by kernel_rfl) (by kernel_rfl) (fun _ _ _ h => h) (Or.inr ⟨by rfl, rfl⟩) (by assumption) ?_
                                    try simp only [List.getElem_toArray, List.getElem_cons_zero, List.getElem_cons_succ, Act.put, List.setIfInBounds_toArray, List.set_cons_zero, List.set_cons_succ]
                                    refine wpT_take (i := 9) (oi := _) (v := undef) rfl (by kernel_rfl) (by kernel_rfl) (by kernel_rfl) (by kernel_rfl) (fun _ _ _ h => h) (Or.inr ⟨by rfl, rfl⟩) (by assumption) ?_
                                    try simp only [List.getElem_toArray, List.getElem_cons_zero, List.getElem_cons_succ, Act.put, List.setIfInBounds_toArray, List.set_cons_zero, List.set_cons_succ]
                                    refine wpT_take (i := 10) (oi := _) (v := undef) rfl (by kernel_rfl) (by kernel_rfl) (by kernel_rfl) (by kernel_rfl) (fun _ _ _ h => h) (Or.inr ⟨by rfl, rfl⟩) (by assumption) ?_
                                    try simp only [List.getElem_toArray, List.getElem_cons_zero, List.getElem_cons_succ, Act.put, List.setIfInBounds_toArray, List.set_cons_zero, List.set_cons_succ]
                                    refine wpT_take (i := 11) (oi := _) (v := undef) rfl (by kernel_rfl) (by kernel_rfl) (by kernel_rfl) (by kernel_rfl) (fun _ _ _ h => h) (Or.inr ⟨by rfl, rfl⟩) (by assumption) ?_
                                    try simp only [List.getElem_toArray, List.getElem_cons_zero, List.getElem_cons_succ, Act.put, List.setIfInBounds_toArray, List.set_cons_zero, List.set_cons_succ]
                                    refine wpT_take (i := 12) (oi := _) (v := undef) rfl (by kernel_rfl) (by kernel_rfl) (by kernel_rfl) (by kernel_rfl) (fun _ _ _ h => h) (Or.inr ⟨by rfl, rfl⟩) (by assumption) ?_
                                    try simp only [List.getElem_toArray, List.getElem_cons_zero, List.getElem_cons_succ, Act.put, List.setIfInBounds_toArray, List.set_cons_zero, List.set_cons_succ]
                                    refine wpT_take (i := 13) (oi := _) (v := undef) rfl (by kernel_rfl) (by kernel_rfl) (by kernel_rfl) (by kernel_rfl) (fun _ _ _ h => h) (Or.inr ⟨by rfl, rfl⟩) (by assumption) ?_
                                    try simp only [List.getElem_toArray, List.getElem_cons_zero, List.getElem_cons_succ, Act.put, List.setIfInBounds_toArray, List.set_cons_zero, List.set_cons_succ]
                                    refine wpT_take (i := 14) (oi := _) (v := undef) rfl (by kernel_rfl) (by kernel_rfl) (by kernel_rfl) (by kernel_rfl) (fun _ _ _ h => h) (Or.inr ⟨by rfl, rfl⟩) (by assumption) ?_
                                    try simp only [List.getElem_toArray, List.getElem_cons_zero, List.getElem_cons_succ, Act.put, List.setIfInBounds_toArray, List.set_cons_zero, List.set_cons_succ]
                                    refine wpT_take (i := 15) (oi := _) (v := undef) rfl (by kernel_rfl) (by kernel_rfl) (by kernel_rfl) (by kernel_rfl) (fun _ _ _ h => h) (Or.inr ⟨by rfl, rfl⟩) (by assumption) ?_
                                    try simp only [List.getElem_toArray, List.getElem_cons_zero, List.getElem_cons_succ, Act.put, List.setIfInBounds_toArray, List.set_cons_zero, List.set_cons_succ]
                                    refine wpT_take (i := 16) (oi := _) (v := undef) rfl (by kernel_rfl) (by kernel_rfl) (by kernel_rfl) (by kernel_rfl) (fun _ _ _ h => h) (Or.inr ⟨by rfl, rfl⟩) (by assumption) ?_
                                    try simp only [List.getElem_toArray, List.getElem_cons_zero, List.getElem_cons_succ, Act.put, List.setIfInBounds_toArray, List.set_cons_zero, List.set_cons_succ]
                                    refine wpT_take (i := 17) (oi := _) (v := undef) rfl (by kernel_rfl) (by kernel_rfl) (by kernel_rfl) (by kernel_rfl) (fun _ _ _ h => h) (Or.inr ⟨by rfl, rfl⟩) (by assumption) ?_
                                    try simp only [List.getElem_toArray, List.getElem_cons_zero, List.getElem_cons_succ, Act.put, List.setIfInBounds_toArray, List.set_cons_zero, List.set_cons_succ]
                                    refine wpT_take (i := 18) (oi := _) (v := undef) rfl (by kernel_rfl) (by kernel_rfl) (by kernel_rfl) (by kernel_rfl) (fun _ _ _ h => h) (Or.inr ⟨by rfl, rfl⟩) (by assumption) ?_
                                    try simp only [List.getElem_toArray, List.getElem_cons_zero, List.getElem_cons_succ, Act.put, List.setIfInBounds_toArray, List.set_cons_zero, List.set_cons_succ]
                                    refine wpT_take (i := 19) (oi := _) (v := undef) rfl (by kernel_rfl) (by kernel_rfl) (by kernel_rfl) (by kernel_rfl) (fun _ _ _ h => h) (Or.inr ⟨by rfl, rfl⟩) (by assumption) ?_
                                    try simp only [List.getElem_toArray, List.getElem_cons_zero, List.getElem_cons_succ, Act.put, List.setIfInBounds_toArray, List.set_cons_zero, List.set_cons_succ]
                                    refine wpT_take (i := 20) (oi := _) (v := undef) rfl (by kernel_rfl) (by kernel_rfl) (by kernel_rfl) (by kernel_rfl) (fun _ _ _ h => h) (Or.inr ⟨by rfl, rfl⟩) (by assumption) ?_
                                    try simp only [List.getElem_toArray, List.getElem_cons_zero, List.getElem_cons_succ, Act.put, List.setIfInBounds_toArray, List.set_cons_zero, List.set_cons_succ]
                                    refine wpT_take (i := 21) (oi := _) (v := undef) rfl (by kernel_rfl) (by kernel_rfl) (by kernel_rfl) (by kernel_rfl) (fun _ _ _ h => h) (Or.inr ⟨by rfl, rfl⟩) (by assumption) ?_
                                    try simp only [List.getElem_toArray, List.getElem_cons_zero, List.getElem_cons_succ, Act.put, List.setIfInBounds_toArray, List.set_cons_zero, List.set_cons_succ]
                                    refine wpT_take (i := 22) (oi := _) (v := undef) rfl (by kernel_rfl) (by kernel_rfl) (by kernel_rfl) (by kernel_rfl) (fun _ _ _ h => h) (Or.inr ⟨by rfl, rfl⟩) (by assumption) ?_
                                    try simp only [List.getElem_toArray, List.getElem_cons_zero, List.getElem_cons_succ, Act.put, List.setIfInBounds_toArray, List.set_cons_zero, List.set_cons_succ]
                                    refine wpT_take (i := 23) (oi := _) (v := undef) rfl (by kernel_rfl) (by kernel_rfl) (by kernel_rfl) (by kernel_rfl) (fun _ _ _ h => h) (Or.inr ⟨by rfl, rfl⟩) (by assumption) ?_
                                    try simp only [List.getElem_toArray, List.getElem_cons_zero, List.getElem_cons_succ, Act.put, List.setIfInBounds_toArray, List.set_cons_zero, List.set_cons_succ]
                                    refine wpT_take (i := 24) (oi := _) (v := undef) rfl (by kernel_rfl) (by kernel_rfl) (by kernel_rfl) (by kernel_rfl) (fun _ _ _ h => h) (Or.inr ⟨by rfl, rfl⟩) (by assumption) ?_
                                    try simp only [List.getElem_toArray, List.getElem_cons_zero, List.getElem_cons_succ, Act.put, List.setIfInBounds_toArray, List.set_cons_zero, List.set_cons_succ]
                                    refine wpT_take (i := 25) (oi := _) (v := undef) rfl (by kernel_rfl) (by kernel_rfl) (by kernel_rfl) (by kernel_rfl) (fun _ _ _ h => h) (Or.inr ⟨by rfl, rfl⟩) (by assumption) ?_
                                    try simp only [List.getElem_toArray, List.getElem_cons_zero, List.getElem_cons_succ, Act.put, List.setIfInBounds_toArray, List.set_cons_zero, List.set_cons_succ]
                                    refine wpT_take (i := 26) (oi := _) (v := undef) rfl (by kernel_rfl) (by kernel_rfl) (by kernel_rfl) (by kernel_rfl) (fun _ _ _ h => h) (Or.inr ⟨by rfl, rfl⟩) (by assumption) ?_
                                    try simp only [List.getElem_toArray, List.getElem_cons_zero, List.getElem_cons_succ, Act.put, List.setIfInBounds_toArray, List.set_cons_zero, List.set_cons_succ]
                                    refine wpT_take (i := 27) (oi := _) (v := undef) rfl (by kernel_rfl) (by kernel_rfl) (by kernel_rfl) (by kernel_rfl) (fun _ _ _ h => h) (Or.inr ⟨by rfl, rfl⟩) (by assumption) ?_
                                    try simp only [List.getElem_toArray, List.getElem_cons_zero, List.getElem_cons_succ, Act.put, List.setIfInBounds_toArray, List.set_cons_zero, List.set_cons_succ]
                                    refine wpT_take (i := 28) (oi := _) (v := ?_) rfl (by kernel_rfl) (by kernel_rfl) (by kernel_rfl) (by kernel_rfl) (fun _ _ _ h => h) (Or.inl ⟨by rfl, ?_⟩) (by assumption) ?_
                                    rotate_left; (intro wS hSw; (try dsimp only at hSw); go_simp <;> with_reducible rfl)
                                    try simp only [List.getElem_toArray, List.getElem_cons_zero, List.getElem_cons_succ, Act.put, List.setIfInBounds_toArray, List.set_cons_zero, List.set_cons_succ]
                                    refine wpT_done (by kernel_rfl) ?_ _
                                    go_wp2
                                    go_roundw
                                    case rel => exact ⟨J + 1, N, by omega, by omega, N0, N1, rfl, rfl, HN2, HBg2⟩
                                    case measure => simp [intOf]; omega
                                  | true =>
                                    obtain ⟨tb, htb⟩ : ∃ x, (z == t) = x := ⟨_, rfl⟩
                                    have HK2 : Hid (tb = (J == F)) := Lib.hid (by have h9 := HHK.out; rw [hva, Bool.true_and, htb] at h9; exact h9)
                                    go_wp2
                                    refine wp_region_T (S := fun w' => w'.cell? ⟨w.heap.size, 0, none⟩ = some (.int .i64 P) ∧ w'.cell? ⟨w.heap.size, 1, none⟩ = some (.int .i64 Q) ∧ w'.cell? ⟨w.heap.size, 2, none⟩ = some (.int .i64 G) ∧ w'.cell? ⟨w.heap.size + 1, 0, none⟩ = some (.slice (some ⟨b1, o1, none⟩) xn ca) ∧ w'.cell? ⟨w.heap.size + 1, 1, none⟩ = some (.slice (some ⟨b2, o2, none⟩) xn cc) ∧ w'.cell? ⟨w.heap.size + 1, 2, none⟩ = some (.slice (some ⟨b3, o3, none⟩) xn cz) ∧ w'.cell? ⟨b1, o1 + k, none⟩ = some (.int .i64 a) ∧ w'.cell? ⟨b2, o2 + k, none⟩ = some (.int .i64 c) ∧ w'.cell? ⟨b3, o3 + k, none⟩ = some (.int .i64 z)) (E := []) (by kernel_rfl) (hS.out) (fun hHeld => ?_)
                                    refine wpT_take (i := 0) (oi := _) (v := ?_) rfl (by kernel_rfl) (by kernel_rfl) (by kernel_rfl) (by kernel_rfl) (fun _ _ _ h => h) (Or.inl ⟨by rfl, ?_⟩) (by assumption) ?_
                                    rotate_left; (intro wS hSw; (try dsimp only at hSw); go_simp <;> with_reducible rfl)
                                    try simp only [List.getElem_toArray, List.getElem_cons_zero, List.getElem_cons_succ, Act.put, List.setIfInBounds_toArray, List.set_cons_zero, List.set_cons_succ]
                                    refine wpT_take (i := 1) (oi := _) (v := ?_) rfl (by kernel_rfl) (by kernel_rfl) (by kernel_rfl) (by kernel_rfl) (fun _ _ _ h => h) (Or.inl ⟨by rfl, ?_⟩) (by assumption) ?_
                                    rotate_left; (intro wS hSw; (try dsimp only at hSw); go_simp <;> with_reducible rfl)
                                    try simp only [List.getElem_toArray, List.getElem_cons_zero, List.getElem_cons_succ, Act.put, List.setIfInBounds_toArray, List.set_cons_zero, List.set_cons_succ]
                                    refine wpT_take (i := 2) (oi := _) (v := ?_) rfl (by kernel_rfl) (by kernel_rfl) (by kernel_rfl) (by kernel_rfl) (fun _ _ _ h => h) (Or.inl ⟨by rfl, ?_⟩) (by assumption) ?_
                                    rotate_left; (intro wS hSw; (try dsimp only at hSw); go_simp <;> with_reducible rfl)
                                    try simp only [List.getElem_toArray, List.getElem_cons_zero, List.getElem_cons_succ, Act.put, List.setIfInBounds_toArray, List.set_cons_zero, List.set_cons_succ]
                                    refine wpT_take (i := 3) (oi := _) (v := ?_) rfl (by kernel_rfl) (by kernel_rfl) (by kernel_rfl) (by kernel_rfl) (fun _ _ _ h => h) (Or.inl ⟨by rfl, ?_⟩) (by assumption) ?_
                                    rotate_left; (intro wS hSw; (try dsimp only at hSw); go_simp <;> with_reducible rfl)
                                    try simp only [List.getElem_toArray, List.getElem_cons_zero, List.getElem_cons_succ, Act.put, List.setIfInBounds_toArray, List.set_cons_zero, List.set_cons_succ]
                                    refine wpT_take (i := 4) (oi := _) (v := ?_) rfl (by kernel_rfl) (by kernel_rfl) (by kernel_rfl) (by kernel_rfl) (fun _ _ _ h => h) (Or.inl ⟨by rfl, ?_⟩) (by assumption) ?_
                                    rotate_left; (intro wS hSw; (try dsimp only at hSw); go_simp <;> with_reducible rfl)
                                    try simp only [List.getElem_toArray, List.getElem_cons_zero, List.getElem_cons_succ, Act.put, List.setIfInBounds_toArray, List.set_cons_zero, List.set_cons_succ]
                                    refine wpT_take (i := 5) (oi := _) (v := ?_) rfl (by kernel_rfl) (by kernel_rfl) (by kernel_rfl) (by kernel_rfl) (fun _ _ _ h => h) (Or.inl ⟨by rfl, ?_⟩) (by assumption) ?_
                                    rotate_left; (intro wS hSw; (try dsimp only at hSw); go_simp <;> with_reducible rfl)
                                    try simp only [List.getElem_toArray, List.getElem_cons_zero, List.getElem_cons_succ, Act.put, List.setIfInBounds_toArray, List.set_cons_zero, List.set_cons_succ]
                                    refine wpT_take (i := 6) (oi := _) (v := ?_) rfl (by kernel_rfl) (by kernel_rfl) (by kernel_rfl) (by kernel_rfl) (fun _ _ _ h => h) (Or.inl ⟨by rfl, ?_⟩) (by assumption) ?_
                                    rotate_left; (intro wS hSw; (try dsimp only at hSw); go_simp <;> with_reducible rfl)
                                    try simp only [List.getElem_toArray, List.getElem_cons_zero, List.getElem_cons_succ, Act.put, List.setIfInBounds_toArray, List.set_cons_zero, List.set_cons_succ]
                                    refine wpT_take (i := 7) (oi := _) (v := ?_) rfl (by kernel_rfl) (by kernel_rfl) (by kernel_rfl) (by kernel_rfl) (fun _ _ _ h => h) (Or.inl ⟨by rfl, ?_⟩) (by assumption) ?_
                                    rotate_left; (intro wS hSw; (try dsimp only at hSw); go_simp <;> with_reducible rfl)
                                    try simp only [List.getElem_toArray, List.getElem_cons_zero, List.getElem_cons_succ, Act.put, List.setIfInBounds_toArray, List.set_cons_zero, List.set_cons_succ]
                                    refine wpT_take (i := 8) (oi := _) (v := ?_) rfl (by kernel_rfl) (by kernel_rfl) (by kernel_rfl) (by kernel_rfl) (fun _ _ _ h => h) (Or.inl ⟨by rfl, ?_⟩) (by assumption) ?_
                                    rotate_left; (intro wS hSw; (try dsimp only at hSw); go_simp <;> with_reducible rfl)
                                    try simp only [List.getElem_toArray, List.getElem_cons_zero, List.getElem_cons_succ, Act.put, List.setIfInBounds_toArray, List.set_cons_zero, List.set_cons_succ]
                                    refine wpT_take (i := 9) (oi := _) (v := ?_) rfl (by kernel_rfl) (by kernel_rfl) (by kernel_rfl) (by kernel_rfl) (fun _ _ _ h => h) (Or.inl ⟨by rfl, ?_⟩) (by assumption) ?_
                                    rotate_left; (intro wS hSw; (try dsimp only at hSw); go_simp <;> with_reducible rfl)
                                    try simp only [List.getElem_toArray, List.getElem_cons_zero, List.getElem_cons_succ, Act.put, List.setIfInBounds_toArray, List.set_cons_zero, List.set_cons_succ]
                                    refine wpT_take (i := 10) (oi := _) (v := ?_) rfl (by kernel_rfl) (by kernel_rfl) (by kernel_rfl) (by kernel_rfl) (fun _ _ _ h => h) (Or.inl ⟨by rfl, ?_⟩) (by assumption) ?_
                                    rotate_left; (intro wS hSw; (try dsimp only at hSw); go_simp <;> with_reducible rfl)
                                    try simp only [List.getElem_toArray, List.getElem_cons_zero, List.getElem_cons_succ, Act.put, List.setIfInBounds_toArray, List.set_cons_zero, List.set_cons_succ]
                                    refine wpT_take (i := 11) (oi := _) (v := ?_) rfl (by kernel_rfl) (by kernel_rfl) (by kernel_rfl) (by kernel_rfl) (fun _ _ _ h => h) (Or.inl ⟨by rfl, ?_⟩) (by assumption) ?_
                                    rotate_left; (intro wS hSw; (try dsimp only at hSw); go_simp <;> with_reducible rfl)
                                    try simp only [List.getElem_toArray, List.getElem_cons_zero, List.getElem_cons_succ, Act.put, List.setIfInBounds_toArray, List.set_cons_zero, List.set_cons_succ]
                                    refine wpT_take (i := 12) (oi := _) (v := ?_) rfl (by kernel_rfl) (by kernel_rfl) (by kernel_rfl) (by kernel_rfl) (fun _ _ _ h => h) (Or.inl ⟨by rfl, ?_⟩) (by assumption) ?_
                                    rotate_left; (intro wS hSw; (try dsimp only at hSw); go_simp <;> with_reducible rfl)
                                    try simp only [List.getElem_toArray, List.getElem_cons_zero, List.getElem_cons_succ, Act.put, List.setIfInBounds_toArray, List.set_cons_zero, List.set_cons_succ]
                                    refine wpT_take (i := 13) (oi := _) (v := ?_) rfl (by kernel_rfl) (by kernel_rfl) (by kernel_rfl) (by kernel_rfl) (fun _ _ _ h => h) (Or.inl ⟨by rfl, ?_⟩) (by assumption) ?_
                                    rotate_left; (intro wS hSw; (try dsimp only at hSw); go_simp <;> with_reducible rfl)
                                    try simp only [List.getElem_toArray, List.getElem_cons_zero, List.getElem_cons_succ, Act.put, List.setIfInBounds_toArray, List.set_cons_zero, List.set_cons_succ]
                                    refine wpT_take (i := 14) (oi := _) (v := ?_) rfl (by kernel_rfl) (by kernel_rfl) (by kernel_rfl) (by kernel_rfl) (fun _ _ _ h => h) (Or.inl ⟨by rfl, ?_⟩) (by assumption) ?_
                                    rotate_left; (intro wS hSw; (try dsimp only at hSw); go_simp <;> with_reducible rfl)
                                    try simp only [List.getElem_toArray, List.getElem_cons_zero, List.getElem_cons_succ, Act.put, List.setIfInBounds_toArray, List.set_cons_zero, List.set_cons_succ]
                                    refine wpT_take (i := 15) (oi := _) (v := ?_) rfl (by kernel_rfl) (by kernel_rfl) (by kernel_rfl) (by kernel_rfl) (fun _ _ _ h => h) (Or.inl ⟨by rfl, ?_⟩) (by assumption) ?_
                                    rotate_left; (intro wS hSw; (try dsimp only at hSw); go_simp <;> with_reducible rfl)
                                    try simp only [List.getElem_toArray, List.getElem_cons_zero, List.getElem_cons_succ, Act.put, List.setIfInBounds_toArray, List.set_cons_zero, List.set_cons_succ]
                                    refine wpT_take (i := 16) (oi := _) (v := ?_) rfl (by kernel_rfl) (by kernel_rfl) (by kernel_rfl) (by kernel_rfl) (fun _ _ _ h => h) (Or.inl ⟨by rfl, ?_⟩) (by assumption) ?_
                                    rotate_left; (intro wS hSw; (try dsimp only at hSw); go_simp <;> with_reducible rfl)
                                    try simp only [List.getElem_toArray, List.getElem_cons_zero, List.getElem_cons_succ, Act.put, List.setIfInBounds_toArray, List.set_cons_zero, List.set_cons_succ]
                                    refine wpT_take (i := 17) (oi := _) (v := ?_) rfl (by kernel_rfl) (by kernel_rfl) (by kernel_rfl) (by kernel_rfl) (fun _ _ _ h => h) (Or.inl ⟨by rfl, ?_⟩) (by assumption) ?_
                                    rotate_left; (intro wS hSw; (try dsimp only at hSw); go_simp <;> with_reducible rfl)
                                    try simp only [List.getElem_toArray, List.getElem_cons_zero, List.getElem_cons_succ, Act.put, List.setIfInBounds_toArray, List.set_cons_zero, List.set_cons_succ]
                                    refine wpT_take (i := 18) (oi := _) (v := ?_) rfl (by kernel_rfl) (by kernel_rfl) (by kernel_rfl) (by kernel_rfl) (fun _ _ _ h => h) (Or.inl ⟨by rfl, ?_⟩) (by assumption) ?_
                                    rotate_left; (intro wS hSw; (try dsimp only at hSw); go_simp <;> with_reducible rfl)
                                    try simp only [List.getElem_toArray, List.getElem_cons_zero, List.getElem_cons_succ, Act.put, List.setIfInBounds_toArray, List.set_cons_zero, List.set_cons_succ]
                                    refine wpT_take (i := 19) (oi := _) (v := ?_) rfl (by kernel_rfl) (by kernel_rfl) (by kernel_rfl) (by kernel_rfl) (fun _ _ _ h => h) (Or.inl ⟨by rfl, ?_⟩) (by assumption) ?_
                                    rotate_left; (intro wS hSw; (try dsimp only at hSw); go_simp <;> with_reducible rfl)
                                    try simp only [List.getElem_toArray, List.getElem_cons_zero, List.getElem_cons_succ, Act.put, List.setIfInBounds_toArray, List.set_cons_zero, List.set_cons_succ]
                                    refine wpT_take (i := 20) (oi := _) (v := ?_) rfl (by kernel_rfl) (by kernel_rfl) (by kernel_rfl) (by kernel_rfl) (fun _ _ _ h => h) (Or.inl ⟨by rfl, ?_⟩) (by assumption) ?_
                                    rotate_left; (intro wS hSw; (try dsimp only at hSw); go_simp <;> with_reducible rfl)
                                    try simp only [List.getElem_toArray, List.getElem_cons_zero, List.getElem_cons_succ, Act.put, List.setIfInBounds_toArray, List.set_cons_zero, List.set_cons_succ]
                                    refine wpT_take (i := 21) (oi := _) (v := ?_) rfl (by kernel_rfl) (by kernel_rfl) (by kernel_rfl) (by kernel_rfl) (fun _ _ _ h => h) (Or.inl ⟨by rfl, ?_⟩) (by assumption) ?_
                                    rotate_left; (intro wS hSw; (try dsimp only at hSw); go_simp <;> with_reducible rfl)
                                    try simp only [List.getElem_toArray, List.getElem_cons_zero, List.getElem_cons_succ, Act.put, List.setIfInBounds_toArray, List.set_cons_zero, List.set_cons_succ]
                                    refine wpT_take (i := 24) (oi := _) (v := ?_) rfl (by kernel_rfl) (by kernel_rfl) (by kernel_rfl) (by kernel_rfl) (fun _ _ _ h => h) (Or.inl ⟨by rfl, ?_⟩) (by assumption) ?_
                                    rotate_left; (intro wS hSw; (try dsimp only at hSw); go_simp <;> with_reducible rfl)
                                    try simp only [List.getElem_toArray, List.getElem_cons_zero, List.getElem_cons_succ, Act.put, List.setIfInBounds_toArray, List.set_cons_zero, List.set_cons_succ]
                                    refine wpT_take (i := 25) (oi := _) (v := ?_) rfl (by kernel_rfl) (by kernel_rfl) (by kernel_rfl) (by kernel_rfl) (fun _ _ _ h => h) (Or.inl ⟨by rfl, ?_⟩) (by assumption) ?_
                                    rotate_left; (intro wS hSw; (try dsimp only at hSw); go_simp <;> with_reducible rfl)
                                    try simp only [List.getElem_toArray, List.getElem_cons_zero, List.getElem_cons_succ, Act.put, List.setIfInBounds_toArray, List.set_cons_zero, List.set_cons_succ]
                                    refine wpT_one (i := 22) (by kernel_rfl) rfl (fun K hK => ?_)
                                    go_simp
                                    (with_reducible refine (rmul_any c x Q m HMM (by omega) c0 c1 x0 x1 _).mono ?_); rintro e9 wB ⟨rfl, rfl⟩
                                    refine hK.out _ _ ?_ (fun hHeld => ?_)
                                    · assumption
                                    clear hK K
                                    try simp only [List.getElem_toArray, List.getElem_cons_zero, List.getElem_cons_succ, Act.put, List.setIfInBounds_toArray, List.set_cons_zero, List.set_cons_succ]
                                    refine wpT_take (i := 23) (oi := _) (v := ?_) rfl (by kernel_rfl) (by kernel_rfl) (by kernel_rfl) (by kernel_rfl) (fun _ _ _ h => h) (Or.inl ⟨by rfl, ?_⟩) (by assumption) ?_
                                    rotate_left; (intro wS hSw; (try dsimp only at hSw); go_simp <;> with_reducible rfl)
                                    try simp only [List.getElem_toArray, List.getElem_cons_zero, List.getElem_cons_succ, Act.put, List.setIfInBounds_toArray, List.set_cons_zero, List.set_cons_succ]
                                    refine wpT_one (i := 26) (by kernel_rfl) rfl (fun K hK => ?_)
                                    go_simp
                                    (with_reducible refine (rreduce_any (J + m) Q t HT (by omega) (by omega) (by omega) (by omega) _).mono ?_); rintro e9 wB ⟨rfl, rfl⟩
                                    refine hK.out _ _ ?_ (fun hHeld => ?_)
                                    · assumption
                                    clear hK K
                                    try simp only [List.getElem_toArray, List.getElem_cons_zero, List.getElem_cons_succ, Act.put, List.setIfInBounds_toArray, List.set_cons_zero, List.set_cons_succ]
                                    refine wpT_take (i := 27) (oi := _) (v := ?_) rfl (by kernel_rfl) (by kernel_rfl) (by kernel_rfl) (by kernel_rfl) (fun _ _ _ h => h) (Or.inl ⟨by rfl, ?_⟩) (by assumption) ?_
                                    rotate_left; (intro wS hSw; (try dsimp only at hSw); go_simp <;> with_reducible rfl)
                                    try simp only [List.getElem_toArray, List.getElem_cons_zero, List.getElem_cons_succ, Act.put, List.setIfInBounds_toArray, List.set_cons_zero, List.set_cons_succ]
                                    refine wpT_take (i := 28) (oi := _) (v := ?_) rfl (by kernel_rfl) (by kernel_rfl) (by kernel_rfl) (by kernel_rfl) (fun _ _ _ h => h) (Or.inl ⟨by rfl, ?_⟩) (by assumption) ?_
                                    rotate_left; (intro wS hSw; (try dsimp only at hSw); go_simp <;> with_reducible rfl)
                                    try simp only [List.getElem_toArray, List.getElem_cons_zero, List.getElem_cons_succ, Act.put, List.setIfInBounds_toArray, List.set_cons_zero, List.set_cons_succ]
                                    refine wpT_done (by kernel_rfl) ?_ _
                                    cases tb with
                                    | false =>
                                      have hKF : ¬ J = F := by have h9 := HK2.out; simpa using h9.symm
                                      have HN2 : Hid (N = if F < J + 1 then 1 else 0) := Lib.hid (by
                                        rw [HN.out]
                                        by_cases h : F < J
                                        · rw [if_pos h, if_pos (by omega)]
                                        · rw [if_neg h, if_neg (by omega)])
                                      clear hKF
                                      go_wp2
                                      go_roundw
                                      case rel => exact ⟨J + 1, N, by omega, by omega, N0, N1, rfl, rfl, HN2, HBg2⟩
                                      case measure => simp [intOf]; omega
                                    | true =>
                                      have hKF : J = F := by have h9 := HK2.out; simpa using h9.symm
                                      have hN0 : N = 0 := by rw [HN.out, if_neg (by omega)]
                                      subst hN0
                                      have HN2 : Hid ((1 : Int) = if F < J + 1 then 1 else 0) := Lib.hid (by rw [if_pos (by omega)])
                                      clear hKF
                                      go_wp2
                                      go_roundw
                                      case rel => exact ⟨J + 1, 1, by omega, by omega, by omega, by omega, rfl, rfl, HN2, HBg2⟩
                                      case measure => simp [intOf]; omega
                                · obtain rfl : J = Q := by omega
                                  obtain rfl : N = 1 := by rw [HN.out, if_pos (by omega)]
                                  clear hKQ
                                  go_wp2
                                  go_roundw
                                  case rel => exact ⟨k + 1, by omega, by go_num, HB3⟩
                                  case measure => simp [intOf]; omega
                            · obtain rfl : xn = k := by omega
                              have hbF := below_ext HBw.out HB2.out
                              clear hlt
                              go_wp2
                              go_ret
                              exact ⟨rfl, hbF⟩
end Go.Proofs.YtijedphpcocfnaaDoor
