/- Respond of layer 17: the errors; the reference. -/
import Derived.Test.YtijedphpcocfnaaDoorLinT
namespace Go.Proofs.YtijedphpcocfnaaDoor
open Go.RowKit SpM
set_option linter.unusedVariables false
set_option linter.unusedSimpArgs false
set_option maxRecDepth 100000

/-- the error of Respond. -/
def rspE (P Q G : Int) (ks : List Int) (c : Int) (xs : List Int) : Int :=
  if validG P Q G = true then (if 1 ≤ ks.length ∧ ks.length ≤ 12 ∧ xs.length = ks.length then (if ks.all (scB Q) = true then (if xs.all (scB Q) = true then (if scB Q c = true then 0 else 2) else 2) else 2) else 1) else 1
theorem rspE_0 {P Q G : Int} {ks : List Int} {c : Int} {xs : List Int} (h : rspE P Q G ks c xs = 0) : validG P Q G = true ∧ 1 ≤ ks.length ∧ ks.length ≤ 12 ∧ xs.length = ks.length ∧ ks.all (scB Q) = true ∧ xs.all (scB Q) = true ∧ scB Q c = true := by
  unfold rspE at h
  split at h
  · rename_i h1
    split at h
    · rename_i h2
      split at h
      · rename_i h3
        split at h
        · rename_i h4
          split at h
          · rename_i h5
            exact ⟨h1, h2.1, h2.2.1, h2.2.2, h3, h4, h5⟩
          · exact absurd h (by omega)
        · exact absurd h (by omega)
      · exact absurd h (by omega)
    · exact absurd h (by omega)
  · exact absurd h (by omega)
theorem all_single {Q c : Int} : [c].all (scB Q) = scB Q c := by simp

set_option maxHeartbeats 12800000 in
theorem lrespond_bad (P Q G : Int) (K : Option Addr) (ks : List Int) (kn kc : Nat) (c : Int) (X : Option Addr) (xs : List Int) (xn xc : Nat) (r : Int) (hr : Hid (rspE P Q G ks c xs = r)) (hne : (r != 0) = true) (hkn : Hid (ks.length = kn)) (hxn : Hid (xs.length = xn)) (hkb : kn < 1000000) (hxb : xn < 1000000)
    (hQ : Q < 9223372036854775808) (w : World) (hv : Hid (Vars w)) (hK : Hid (Sl w K ks)) (hX : Hid (Sl w X xs)) :
    Calls Tryd.prog 23 #[gv P Q G, .slice K kn kc, .int .i64 c, .slice X xn xc] w fun e' w' => e' = .returned (.tuple #[.slice none 0 0, .int .i64 r]) ∧ Below w.heap.size w w' := by
  obtain ⟨vb, hvb⟩ : ∃ b, validG P Q G = b := ⟨_, rfl⟩
  obtain ⟨kb, hkb'⟩ : ∃ b, ks.all (scB Q) = b := ⟨_, rfl⟩
  obtain ⟨xb, hxb'⟩ : ∃ b, xs.all (scB Q) = b := ⟨_, rfl⟩
  obtain ⟨cb, hcb'⟩ : ∃ b, scB Q c = b := ⟨_, rfl⟩
  have HVB := Lib.hid hvb
  have HKB := Lib.hid hkb'
  have HXB := Lib.hid hxb'
  have HCB := Lib.hid hcb'
  clear hvb hkb' hxb' hcb'
  obtain ⟨w0, hW⟩ : ∃ W, (w.alloc (gObj P Q G)) = W := ⟨_, rfl⟩
  have HBw : Hid (Below w.heap.size w w0) := Lib.hid (by rw [← hW]; exact below_box0 _ _)
  have hc : w0.cell? ⟨w.heap.size, 0, none⟩ = some (.int .i64 P) ∧ w0.cell? ⟨w.heap.size, 1, none⟩ = some (.int .i64 Q) ∧ w0.cell? ⟨w.heap.size, 2, none⟩ = some (.int .i64 G) := by rw [← hW]; exact ⟨allocs_cell (by simp) (by rfl), allocs_cell (by simp) (by rfl), allocs_cell (by simp) (by rfl)⟩
  have kC := Lib.hid (show ∀ u : World, Hid (Below w0.heap.size w0 u) → u.cell? ⟨w.heap.size, 0, none⟩ = some (.int .i64 P) ∧ u.cell? ⟨w.heap.size, 1, none⟩ = some (.int .i64 Q) ∧ u.cell? ⟨w.heap.size, 2, none⟩ = some (.int .i64 G) from fun u h => ⟨cell_below hc.1 h.out, cell_below hc.2.1 h.out, cell_below hc.2.2 h.out⟩)
  have kV := Lib.hid (show ∀ u : World, Hid (Below w0.heap.size w0 u) → Hid (Vars u) from fun u h => Lib.hid ((hv.out.below) (below_ext HBw.out h.out)))
  have kK := Lib.hid (show ∀ u : World, Hid (Below w0.heap.size w0 u) → Hid (Sl u K ks) from fun u h => Lib.hid ((hK.out.below) (below_ext HBw.out h.out)))
  have kX := Lib.hid (show ∀ u : World, Hid (Below w0.heap.size w0 u) → Hid (Sl u X xs) from fun u h => Lib.hid ((hX.out.below) (below_ext HBw.out h.out)))
  have HB_0 : Hid (Below w0.heap.size w0 w0) := Lib.hid (Below.refl _ _)
  have HW := Lib.hid hW
  clear hW hc hv hK hX
  go_enter Tryd.func23, Tryd.ntmps23
  go_wp2_with fail
  rw [HW.out]
  obtain ⟨zc0, zc1, zc2⟩ := kC.out _ HB_0
  go_wp2_with fail
  refine (valid_any P Q G vb HVB hQ _ (kV.out _ HB_0)).mono ?_
  rintro e w1 ⟨rfl, hb0⟩
  have HB_1 := Lib.hid (below_ext HB_0.out hb0)
  clear zc0 zc1 zc2
  clear hb0
  obtain ⟨zc0, zc1, zc2⟩ := kC.out _ HB_1
  cases vb with
  | false =>
    obtain rfl : r = 1 := hr.out.symm.trans (by unfold rspE; simp only [HVB.out, Bool.false_eq_true, if_false])
    have hbF := below_ext HBw.out HB_1.out
    go_wp2
    go_ret2
    exact ⟨rfl, hbF⟩
  | true =>
    by_cases h1 : kn < 1
    · skip
      have d1 : decide ((kn : Int) < 1) = true := by simp; omega
      obtain rfl : r = 1 := hr.out.symm.trans (by unfold rspE; simp only [HVB.out, hkn.out, hxn.out, HKB.out, HXB.out, HCB.out, Bool.false_eq_true, if_true, if_false]; rw [if_neg (by omega)])
      have hbF := below_ext HBw.out HB_1.out
      go_wp2
      go_ret2
      exact ⟨rfl, hbF⟩
    · skip
      have d1 : decide ((kn : Int) < 1) = false := by simp; omega
      by_cases h2 : 12 < kn
      · skip
        have d2 : decide ((12 : Int) < (kn : Int)) = true := by simp; omega
        obtain rfl : r = 1 := hr.out.symm.trans (by unfold rspE; simp only [HVB.out, hkn.out, hxn.out, HKB.out, HXB.out, HCB.out, Bool.false_eq_true, if_true, if_false]; rw [if_neg (by omega)])
        have hbF := below_ext HBw.out HB_1.out
        go_wp2
        go_ret2
        exact ⟨rfl, hbF⟩
      · skip
        have d2 : decide ((12 : Int) < (kn : Int)) = false := by simp; omega
        by_cases h3 : xn = kn
        · skip
          have d3 : ((xn : Int) != (kn : Int)) = false := by simp; omega
          have hlen : 1 ≤ kn ∧ kn ≤ 12 ∧ xn = kn := ⟨by omega, by omega, by omega⟩
          clear h3
          have HLN := Lib.hid hlen
          clear hlen
          go_wp2_with fail
          refine (scalars_any P Q G K ks kn kc kb HKB hkn (Lib.hid hkb) _ (kK.out _ HB_1)).mono ?_
          rintro e w2 ⟨rfl, hb0⟩
          have HB_2 := Lib.hid (below_ext HB_1.out hb0)
          clear zc0 zc1 zc2
          clear hb0
          obtain ⟨zc0, zc1, zc2⟩ := kC.out _ HB_2
          cases kb with
          | false =>
            obtain rfl : r = 2 := hr.out.symm.trans (by unfold rspE; simp only [HVB.out, hkn.out, hxn.out, HKB.out, HXB.out, HCB.out, Bool.false_eq_true, if_true, if_false]; rw [if_pos HLN.out])
            have hbF := below_ext HBw.out HB_2.out
            go_wp2
            go_ret2
            exact ⟨rfl, hbF⟩
          | true =>
            go_wp2_with fail
            refine (scalars_any P Q G X xs xn xc xb HXB hxn (Lib.hid hxb) _ (kX.out _ HB_2)).mono ?_
            rintro e w3 ⟨rfl, hb0⟩
            have HB_3 := Lib.hid (below_ext HB_2.out hb0)
            clear zc0 zc1 zc2
            clear hb0
            obtain ⟨zc0, zc1, zc2⟩ := kC.out _ HB_3
            cases xb with
            | false =>
              obtain rfl : r = 2 := hr.out.symm.trans (by unfold rspE; simp only [HVB.out, hkn.out, hxn.out, HKB.out, HXB.out, HCB.out, Bool.false_eq_true, if_true, if_false]; rw [if_pos HLN.out])
              have hbF := below_ext HBw.out HB_3.out
              go_wp2
              go_ret2
              exact ⟨rfl, hbF⟩
            | true =>
              have hq := below_box0 w3 (.cells #[.int .i64 c] 3)
              have HO := Lib.hid (sl_of_cells (cells1 w3 3 c))
              have HBa := Lib.hid (below_ext HB_3.out hq)
              clear hq
              go_wp2_with fail
              refine (scalars_any P Q G (some ⟨w3.heap.size, 0, none⟩) [c] 1 1 cb (Lib.hid (all_single.trans HCB.out)) (Lib.hid rfl) (Lib.hid (by omega)) _ HO).mono ?_
              rintro e w4 ⟨rfl, hb0⟩
              have HB_4 := Lib.hid (below_ext HBa.out hb0)
              clear zc0 zc1 zc2
              clear hb0
              obtain ⟨zc0, zc1, zc2⟩ := kC.out _ HB_4
              cases cb with
              | false =>
                obtain rfl : r = 2 := hr.out.symm.trans (by unfold rspE; simp only [HVB.out, hkn.out, hxn.out, HKB.out, HXB.out, HCB.out, Bool.false_eq_true, if_true, if_false]; rw [if_pos HLN.out])
                have hbF := below_ext HBw.out HB_4.out
                go_wp2
                go_ret2
                exact ⟨rfl, hbF⟩
              | true =>
                have e0 : r = 0 := hr.out.symm.trans (by unfold rspE; simp only [HVB.out, hkn.out, hxn.out, HKB.out, HXB.out, HCB.out, Bool.false_eq_true, if_true, if_false]; rw [if_pos HLN.out])
                exact absurd hne (by rw [e0]; decide)
        · skip
          have d3 : ((xn : Int) != (kn : Int)) = true := by simp; omega
          obtain rfl : r = 1 := hr.out.symm.trans (by unfold rspE; simp only [HVB.out, hkn.out, hxn.out, HKB.out, HXB.out, HCB.out, Bool.false_eq_true, if_true, if_false]; rw [if_neg (by omega)])
          have hbF := below_ext HBw.out HB_1.out
          go_wp2
          go_ret2
          exact ⟨rfl, hbF⟩

set_option maxHeartbeats 12800000 in
theorem rrespond17_ok (P Q G : Int) (K : Option Addr) (ks : List Int) (kn kc : Nat) (c : Int) (X : Option Addr) (xs : List Int) (xc : Nat) (hkn : Hid (ks.length = kn)) (hxn : Hid (xs.length = kn)) (h2 : kn ≤ 12)
    (hk : Hid (ks.all (scB Q) = true)) (hx : Hid (xs.all (scB Q) = true)) (hc0 : 0 ≤ c) (hc1 : c < Q) (hQ : Q < 2305843009213693952) (w : World) (hK : Hid (Sl w K ks)) (hX : Hid (Sl w X xs)) :
    Calls Tryd.prog 25 #[gv P Q G, .slice K kn kc, .int .i64 c, .slice X kn xc] w (ListOut (rspL Q c ks xs kn) w) := by
  obtain ⟨i0, hi, hz0, hz1, hz2⟩ := info_parts intInfo
  obtain ⟨w0, hW⟩ : ∃ W, (w.alloc (gObj P Q G)) = W := ⟨_, rfl⟩
  have HBw : Hid (Below w.heap.size w w0) := Lib.hid (by rw [← hW]; exact below_box0 _ _)
  have hc : w0.cell? ⟨w.heap.size, 0, none⟩ = some (.int .i64 P) ∧ w0.cell? ⟨w.heap.size, 1, none⟩ = some (.int .i64 Q) ∧ w0.cell? ⟨w.heap.size, 2, none⟩ = some (.int .i64 G) := by rw [← hW]; exact ⟨allocs_cell (by simp) (by rfl), allocs_cell (by simp) (by rfl), allocs_cell (by simp) (by rfl)⟩
  have kC := Lib.hid (show ∀ u : World, Hid (Below w0.heap.size w0 u) → u.cell? ⟨w.heap.size, 0, none⟩ = some (.int .i64 P) ∧ u.cell? ⟨w.heap.size, 1, none⟩ = some (.int .i64 Q) ∧ u.cell? ⟨w.heap.size, 2, none⟩ = some (.int .i64 G) from fun u h => ⟨cell_below hc.1 h.out, cell_below hc.2.1 h.out, cell_below hc.2.2 h.out⟩)
  have kK := Lib.hid (show ∀ u : World, Hid (Below w0.heap.size w0 u) → Hid (Sl u K ks) from fun u h => Lib.hid ((hK.out.below) (below_ext HBw.out h.out)))
  have kX := Lib.hid (show ∀ u : World, Hid (Below w0.heap.size w0 u) → Hid (Sl u X xs) from fun u h => Lib.hid ((hX.out.below) (below_ext HBw.out h.out)))
  have HB_0 : Hid (Below w0.heap.size w0 w0) := Lib.hid (Below.refl _ _)
  have HW := Lib.hid hW
  clear hW hc hK hX
  go_enter Tryd.func25, Tryd.ntmps25
  go_wp2
  rw [HW.out]
  go_loopw [9, 10] (fun v i wr => ∃ k : Nat, k ≤ kn ∧ i = .int .i64 k ∧ Hid (OwnL wr w0.heap.size v (rspL Q c ks xs k)) ∧ Hid (Below w0.heap.size w0 wr)) (fun _ i _ => kn - (intOf i).toNat)
  case atStart => exact ⟨0, by omega, rfl, Lib.hid (ownL_nil _ _), Lib.hid (Below.refl _ _)⟩
  case round =>
    obtain ⟨k, hkk, rfl, HOr, HBr⟩ := hrel
    obtain ⟨wo, rfl⟩ : ∃ wo : World, wo = wr := ⟨_, rfl⟩
    by_cases hlt : k < kn
    · have hkl : k < ks.length := by rw [hkn.out]; exact hlt
      have hxl : k < xs.length := by rw [hxn.out]; exact hlt
      obtain ⟨b1, o1, hA1, hi0⟩ := (kK.out _ HBr).out k hkl
      obtain ⟨b2, o2, hA2, hi1⟩ := (kX.out _ HBr).out k hxl
      subst hA1
      subst hA2
      obtain ⟨c0, c1, c2⟩ := kC.out _ HBr
      have hm1 := all_get hk.out hkl
      have hm2 := all_get hx.out hxl
      have hst := rspL_succ Q c ks xs k
      obtain ⟨x, hxx⟩ : ∃ x, ks.getD k 0 = x := ⟨_, rfl⟩
      obtain ⟨y, hyy⟩ : ∃ x, xs.getD k 0 = x := ⟨_, rfl⟩
      rw [hxx] at hi0 hm1 hst
      rw [hyy] at hi1 hm2 hst
      have x0 := scB_lo hm1
      have x1 := scB_hi hm1
      have y0 := scB_lo hm2
      have y1 := scB_hi hm2
      obtain ⟨p, hp1⟩ : ∃ p, c * y % Q = p := ⟨_, rfl⟩
      have p0 : 0 ≤ p := by rw [← hp1]; exact Int.emod_nonneg _ (by omega)
      have p1 : p < Q := by rw [← hp1]; exact Int.emod_lt_of_pos _ (by omega)
      rw [hp1] at hst
      obtain ⟨t, ht⟩ : ∃ t, (x + p) % Q = t := ⟨_, rfl⟩
      rw [ht] at hst
      have htm : (x + p).tmod Q = t := by rw [Int.tmod_eq_emod_of_nonneg (by omega), ht]
      have t0 : 0 ≤ t := by rw [← ht]; exact Int.emod_nonneg _ (by omega)
      have t1 : t < Q := by rw [← ht]; exact Int.emod_lt_of_pos _ (by omega)
      have hwt : IntKind.i64.wrap t = t := IntWalk.i64_in _ (by omega)
      have hQn : ¬ (Q = 0) := by omega
      have hsum : IntKind.i64.wrap (x + p) = x + p := IntWalk.i64_in _ (by omega)
      have HST := Lib.hid hst
      have HP1 := Lib.hid hp1
      have HTL := Lib.hid (rspL_length Q c ks xs k)
      have hown : wo.ownsRow w0.heap.size 3 1 u9 k ((rspL Q c ks xs k).map (Value.int .i64)) := by
        have h3 := HOr.out
        unfold OwnL at h3
        rwa [HTL.out] at h3
      have hsz := HBr.out.size
      have hS := Lib.hid (show ∀ u1 : World, Hid (Below wo.drew.heap.size wo.drew u1) → (u1.cell? ⟨b1, o1 + k, none⟩ = some (.int .i64 x) ∧ u1.cell? ⟨b2, o2 + k, none⟩ = some (.int .i64 y) ∧ u1.cell? ⟨w.heap.size, 1, none⟩ = some (.int .i64 Q) ∧ Hid (Below wo.drew.heap.size wo.drew u1)) from fun u1 h1 => ⟨cell_below (w := wo.drew) hi0 h1.out, cell_below (w := wo.drew) hi1 h1.out, cell_below (w := wo.drew) c1 h1.out, h1⟩)
      have HOWN := Lib.hid hown
      clear hm1 hm2 hst hxx hyy hp1 hkl hxl hown c0 c1 c2 hi0 hi1 ht
      go_wp2
      refine wp_region_T (S := fun w' => w'.cell? ⟨b1, o1 + k, none⟩ = some (.int .i64 x) ∧ w'.cell? ⟨b2, o2 + k, none⟩ = some (.int .i64 y) ∧ w'.cell? ⟨w.heap.size, 1, none⟩ = some (.int .i64 Q) ∧ Hid (Below wo.drew.heap.size wo.drew w')) (E := [18, 19]) (by kernel_rfl) (hS.out _ (Lib.hid (Below.refl _ _))) (fun hHeld => ?_)
      refine wpT_take (i := 0) (oi := _) (v := ?_) rfl (by kernel_rfl) (by kernel_rfl) (by kernel_rfl) (by kernel_rfl) (fun _ _ _ h => h) (Or.inl ⟨by rfl, ?_⟩) (by assumption) ?_
      rotate_left; (intro wS hSw; (try dsimp only at hSw); go_simp <;> with_reducible rfl)
      try simp only [List.getElem_toArray, List.getElem_cons_zero, List.getElem_cons_succ, Act.put, List.setIfInBounds_toArray, List.set_cons_zero, List.set_cons_succ]
      refine wpT_take (i := 1) (oi := _) (v := ?_) rfl (by kernel_rfl) (by kernel_rfl) (by kernel_rfl) (by kernel_rfl) (fun _ _ _ h => h) (Or.inl ⟨by rfl, ?_⟩) (by assumption) ?_
      rotate_left; (intro wS hSw; (try dsimp only at hSw); go_simp <;> with_reducible rfl)
      try simp only [List.getElem_toArray, List.getElem_cons_zero, List.getElem_cons_succ, Act.put, List.setIfInBounds_toArray, List.set_cons_zero, List.set_cons_succ]
      refine wpT_take (i := 2) (oi := _) (v := ?_) rfl (by kernel_rfl) (by kernel_rfl) (by kernel_rfl) (by kernel_rfl) (fun _ _ _ h => h) (Or.inl ⟨by rfl, ?_⟩) (by assumption) ?_
      rotate_left; (intro wS hSw; (try dsimp only at hSw); go_simp <;> with_reducible rfl)
      try simp only [List.getElem_toArray, List.getElem_cons_zero, List.getElem_cons_succ, Act.put, List.setIfInBounds_toArray, List.set_cons_zero, List.set_cons_succ]
      refine wpT_take (i := 3) (oi := _) (v := ?_) rfl (by kernel_rfl) (by kernel_rfl) (by kernel_rfl) (by kernel_rfl) (fun _ _ _ h => h) (Or.inl ⟨by rfl, ?_⟩) (by assumption) ?_
      rotate_left; (intro wS hSw; (try dsimp only at hSw); go_simp <;> with_reducible rfl)
      try simp only [List.getElem_toArray, List.getElem_cons_zero, List.getElem_cons_succ, Act.put, List.setIfInBounds_toArray, List.set_cons_zero, List.set_cons_succ]
      refine wpT_take (i := 4) (oi := _) (v := ?_) rfl (by kernel_rfl) (by kernel_rfl) (by kernel_rfl) (by kernel_rfl) (fun _ _ _ h => h) (Or.inl ⟨by rfl, ?_⟩) (by assumption) ?_
      rotate_left; (intro wS hSw; (try dsimp only at hSw); go_simp <;> with_reducible rfl)
      try simp only [List.getElem_toArray, List.getElem_cons_zero, List.getElem_cons_succ, Act.put, List.setIfInBounds_toArray, List.set_cons_zero, List.set_cons_succ]
      refine wpT_take (i := 5) (oi := _) (v := ?_) rfl (by kernel_rfl) (by kernel_rfl) (by kernel_rfl) (by kernel_rfl) (fun _ _ _ h => h) (Or.inl ⟨by rfl, ?_⟩) (by assumption) ?_
      rotate_left; (intro wS hSw; (try dsimp only at hSw); go_simp <;> with_reducible rfl)
      try simp only [List.getElem_toArray, List.getElem_cons_zero, List.getElem_cons_succ, Act.put, List.setIfInBounds_toArray, List.set_cons_zero, List.set_cons_succ]
      refine wpT_take (i := 6) (oi := _) (v := ?_) rfl (by kernel_rfl) (by kernel_rfl) (by kernel_rfl) (by kernel_rfl) (fun _ _ _ h => h) (Or.inl ⟨by rfl, ?_⟩) (by assumption) ?_
      rotate_left; (intro wS hSw; (try dsimp only at hSw); go_simp <;> with_reducible rfl)
      try simp only [List.getElem_toArray, List.getElem_cons_zero, List.getElem_cons_succ, Act.put, List.setIfInBounds_toArray, List.set_cons_zero, List.set_cons_succ]
      refine wpT_take (i := 7) (oi := _) (v := ?_) rfl (by kernel_rfl) (by kernel_rfl) (by kernel_rfl) (by kernel_rfl) (fun _ _ _ h => h) (Or.inl ⟨by rfl, ?_⟩) (by assumption) ?_
      rotate_left; (intro wS hSw; (try dsimp only at hSw); go_simp <;> with_reducible rfl)
      try simp only [List.getElem_toArray, List.getElem_cons_zero, List.getElem_cons_succ, Act.put, List.setIfInBounds_toArray, List.set_cons_zero, List.set_cons_succ]
      refine wpT_take (i := 8) (oi := _) (v := ?_) rfl (by kernel_rfl) (by kernel_rfl) (by kernel_rfl) (by kernel_rfl) (fun _ _ _ h => h) (Or.inl ⟨by rfl, ?_⟩) (by assumption) ?_
      rotate_left; (intro wS hSw; (try dsimp only at hSw); go_simp <;> with_reducible rfl)
      try simp only [List.getElem_toArray, List.getElem_cons_zero, List.getElem_cons_succ, Act.put, List.setIfInBounds_toArray, List.set_cons_zero, List.set_cons_succ]
      refine wpT_take (i := 9) (oi := _) (v := ?_) rfl (by kernel_rfl) (by kernel_rfl) (by kernel_rfl) (by kernel_rfl) (fun _ _ _ h => h) (Or.inl ⟨by rfl, ?_⟩) (by assumption) ?_
      rotate_left; (intro wS hSw; (try dsimp only at hSw); go_simp <;> with_reducible rfl)
      try simp only [List.getElem_toArray, List.getElem_cons_zero, List.getElem_cons_succ, Act.put, List.setIfInBounds_toArray, List.set_cons_zero, List.set_cons_succ]
      refine wpT_take (i := 10) (oi := _) (v := ?_) rfl (by kernel_rfl) (by kernel_rfl) (by kernel_rfl) (by kernel_rfl) (fun _ _ _ h => h) (Or.inl ⟨by rfl, ?_⟩) (by assumption) ?_
      rotate_left; (intro wS hSw; (try dsimp only at hSw); go_simp <;> with_reducible rfl)
      try simp only [List.getElem_toArray, List.getElem_cons_zero, List.getElem_cons_succ, Act.put, List.setIfInBounds_toArray, List.set_cons_zero, List.set_cons_succ]
      refine wpT_take (i := 11) (oi := _) (v := ?_) rfl (by kernel_rfl) (by kernel_rfl) (by kernel_rfl) (by kernel_rfl) (fun _ _ _ h => h) (Or.inl ⟨by rfl, ?_⟩) (by assumption) ?_
      rotate_left; (intro wS hSw; (try dsimp only at hSw); go_simp <;> with_reducible rfl)
      try simp only [List.getElem_toArray, List.getElem_cons_zero, List.getElem_cons_succ, Act.put, List.setIfInBounds_toArray, List.set_cons_zero, List.set_cons_succ]
      refine wpT_take (i := 14) (oi := _) (v := ?_) rfl (by kernel_rfl) (by kernel_rfl) (by kernel_rfl) (by kernel_rfl) (fun _ _ _ h => h) (Or.inl ⟨by rfl, ?_⟩) (by assumption) ?_
      rotate_left; (intro wS hSw; (try dsimp only at hSw); go_simp <;> with_reducible rfl)
      try simp only [List.getElem_toArray, List.getElem_cons_zero, List.getElem_cons_succ, Act.put, List.setIfInBounds_toArray, List.set_cons_zero, List.set_cons_succ]
      refine wpT_take (i := 15) (oi := _) (v := ?_) rfl (by kernel_rfl) (by kernel_rfl) (by kernel_rfl) (by kernel_rfl) (fun _ _ _ h => h) (Or.inl ⟨by rfl, ?_⟩) (by assumption) ?_
      rotate_left; (intro wS hSw; (try dsimp only at hSw); go_simp <;> with_reducible rfl)
      try simp only [List.getElem_toArray, List.getElem_cons_zero, List.getElem_cons_succ, Act.put, List.setIfInBounds_toArray, List.set_cons_zero, List.set_cons_succ]
      refine wpT_one (i := 12) (by kernel_rfl) rfl (fun K hK => ?_)
      go_simp
      (with_reducible refine (rmul_any c y Q p HP1 hQ hc0 hc1 y0 y1 _).mono ?_); rintro e wB ⟨rfl, rfl⟩
      refine hK.out _ _ ?_ (fun hHeld => ?_)
      · assumption
      clear hK K
      try simp only [List.getElem_toArray, List.getElem_cons_zero, List.getElem_cons_succ, Act.put, List.setIfInBounds_toArray, List.set_cons_zero, List.set_cons_succ]
      refine wpT_take (i := 13) (oi := _) (v := ?_) rfl (by kernel_rfl) (by kernel_rfl) (by kernel_rfl) (by kernel_rfl) (fun _ _ _ h => h) (Or.inl ⟨by rfl, ?_⟩) (by assumption) ?_
      rotate_left; (intro wS hSw; (try dsimp only at hSw); go_simp <;> with_reducible rfl)
      try simp only [List.getElem_toArray, List.getElem_cons_zero, List.getElem_cons_succ, Act.put, List.setIfInBounds_toArray, List.set_cons_zero, List.set_cons_succ]
      refine wpT_take (i := 16) (oi := _) (v := ?_) rfl (by kernel_rfl) (by kernel_rfl) (by kernel_rfl) (by kernel_rfl) (fun _ _ _ h => h) (Or.inl ⟨by rfl, ?_⟩) (by assumption) ?_
      rotate_left; (intro wS hSw; (try dsimp only at hSw); go_simp <;> with_reducible rfl)
      try simp only [List.getElem_toArray, List.getElem_cons_zero, List.getElem_cons_succ, Act.put, List.setIfInBounds_toArray, List.set_cons_zero, List.set_cons_succ]
      refine wpT_one (i := 17) (by kernel_rfl) rfl (fun K hK => ?_)
      go_simp
      refine hK.out _ _ ?_ (fun hHeld => ?_)
      · exact hS.out _ (Lib.hid (below_box0 _ _))
      clear hK K
      try simp only [List.getElem_toArray, List.getElem_cons_zero, List.getElem_cons_succ, Act.put, List.setIfInBounds_toArray, List.set_cons_zero, List.set_cons_succ]
      refine wpT_pass (i := 18) (by kernel_rfl) (by simp) rfl (fun K hK => ?_)
      refine step_append_lies _ (by rfl) _ _ _ (by rfl) w0.heap.size 3 i0 _ 1 8 Tryd.underlying24 hi hz0 hz1 hz2 rfl (by omega) u9 k ((rspL Q c ks xs k).map (Value.int .i64)) (by rfl) ((HOWN.out.alloc _).drew)
        ⟨wo.heap.size, 0, none⟩ 1 1 [.int .i64 t] (by rfl) (by rfl) (World.news_of_block (cs := #[.int .i64 t]) (t := 3) (fr := (0, 0)) (heap_alloc_new wo _)) (by simp [Value.oneCell'])
        (by omega) (by unfold maxLen; omega) (by omega) (by simp; omega) (wo.heap.size + 1) (by simp) ?_; intro gg cap wz hown1 hgrow hat hlt2
      refine hK.out _ _ ?_
      clear hK K
      try simp only [List.getElem_toArray, List.getElem_cons_zero, List.getElem_cons_succ, Act.put, List.setIfInBounds_toArray, List.set_cons_zero, List.set_cons_succ]
      refine wpT_pass (i := 19) (by kernel_rfl) (by simp) rfl (fun K hK => ?_)
      go_simp
      refine hK.out _ _ ?_
      clear hK K
      try simp only [List.getElem_toArray, List.getElem_cons_zero, List.getElem_cons_succ, Act.put, List.setIfInBounds_toArray, List.set_cons_zero, List.set_cons_succ]
      refine wpT_done (by kernel_rfl) ?_ _
      have HO3 : Hid (OwnL wz w0.heap.size (.slice (some ⟨gg, 0, none⟩) (k + 1) cap) (rspL Q c ks xs (k + 1))) := Lib.hid (by
        rw [HST.out]
        exact OwnL.app HTL.out.symm hown1)
      have HB3 : Hid (Below w0.heap.size w0 wz) := Lib.hid (OwnL.below (o := .cells #[.int .i64 t] 3) HOr.out HBr.out hsz (by first | exact hgrow | exact ⟨hgrow.os, hgrow.tape, hgrow.output, hgrow.size, hgrow.block⟩))
      clear hown1 hgrow
      go_wp2
      go_roundw
      case rel => exact ⟨k + 1, by omega, by go_num, HO3, HB3⟩
      case measure => simp [intOf]; omega
    · obtain rfl : k = kn := by omega
      have HF := Lib.hid (HOr.out.mono HBw.out.size)
      have hbF := below_ext HBw.out HBr.out
      clear HOr hlt
      go_wp2
      go_ret
      exact ⟨_, rfl, HF.out, hbF⟩
end Go.Proofs.YtijedphpcocfnaaDoor
