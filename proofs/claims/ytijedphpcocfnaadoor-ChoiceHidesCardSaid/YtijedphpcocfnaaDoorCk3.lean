/- Contracts and lemmas: ChG, ChH, LinP, LinQ, LinS, LinT, ChI, ChJ, ChK, ChL. -/
import Derived.Deep.AppendLies
import Derived.Test.YtijedphpcocfnaaDoorCk2
namespace Go.Proofs.YtijedphpcocfnaaDoor
open Go.RowKit SpM
set_option linter.unusedVariables false
set_option linter.unusedSimpArgs false
set_option maxRecDepth 100000
set_option maxHeartbeats 3200000 in
theorem rsc19_any (P Q G : Int) (A : Option Addr) (xs : List Int) (n c : Nat) (r : Bool) (hr : Hid (xs.all (scB Q) = r)) (hn : Hid (xs.length = n)) (hbig : n < 1000000) (w : World) (hs : Hid (Sl w A xs)) :
    Calls Tryd.prog 34 #[gv P Q G, .slice A n c] w fun e' w' => e' = .returned (.bool r) ∧ Below w.heap.size w w' := by
  have HBX := Lib.hid (below_box0 w (gObj P Q G))
  have HX0 := Lib.hid (gbox_alloc w P Q G)
  have HS0 := Lib.hid (hs.out.below HBX.out)
  obtain ⟨W, hW⟩ : ∃ W, w.alloc (gObj P Q G) = W := ⟨_, rfl⟩
  rw [hW] at HX0 HS0 HBX
  have HW := Lib.hid hW
  clear hW hs
  go_enter Tryd.func34, Tryd.ntmps34
  go_wp2
  rw [HW.out]
  go_loopw [5] (fun i wr => ∃ k : Nat, k ≤ n ∧ i = .int .i64 k ∧ Hid ((xs.drop k).all (scB Q) = r) ∧ Hid (Below W.heap.size W wr)) (fun i _ => n - (intOf i).toNat)
  case atStart => exact ⟨0, by omega, rfl, Lib.hid (by rw [List.drop_zero]; exact hr.out), Lib.hid (Below.refl _ _)⟩
  case round =>
    obtain ⟨k, hk, rfl, HR, HBr⟩ := hrel
    by_cases hlt : k < n
    · have hkl : k < xs.length := by rw [hn.out]; exact hlt
      obtain ⟨b, o, hA, hi⟩ := HS0.out.below HBr.out k hkl
      subst hA
      obtain ⟨c0, c1, c2⟩ := HX0.out.below HBr.out
      by_cases h0 : xs.getD k 0 < 0
      · have hf : scB Q (xs.getD k 0) = false := scB_neg h0
        obtain rfl : r = false := HR.out.symm.trans (all_hit hkl hf)
        obtain ⟨x, hx⟩ : ∃ x, xs.getD k 0 = x := ⟨_, rfl⟩
        rw [hx] at hi h0
        have d0 : decide (x < 0) = true := by simp; omega
        have hbF := fun q => below_drawN (below_ext HBX.out HBr.out) q
        clear hx hf hkl HR
        go_wp2
        go_quiet (fail)
        go_wp2
        go_ret
        exact ⟨rfl, hbF _⟩
      · by_cases h1 : Q ≤ xs.getD k 0
        · have hf : scB Q (xs.getD k 0) = false := scB_big h1
          obtain rfl : r = false := HR.out.symm.trans (all_hit hkl hf)
          obtain ⟨x, hx⟩ : ∃ x, xs.getD k 0 = x := ⟨_, rfl⟩
          rw [hx] at hi h0 h1
          have d0 : decide (x < 0) = false := by simp; omega
          have d1 : decide (Q ≤ x) = true := by simp; omega
          have hbF := fun q => below_drawN (below_ext HBX.out HBr.out) q
          clear hx hf hkl HR
          go_wp2
          go_quiet (fail)
          go_wp2
          go_ret
          exact ⟨rfl, hbF _⟩
        · have hf : scB Q (xs.getD k 0) = true := scB_in h0 h1
          have HR2 : Hid ((xs.drop (k + 1)).all (scB Q) = r) := Lib.hid ((all_step hkl hf).symm.trans HR.out)
          obtain ⟨x, hx⟩ : ∃ x, xs.getD k 0 = x := ⟨_, rfl⟩
          rw [hx] at hi h0 h1
          have d0 : decide (x < 0) = false := by simp; omega
          have d1 : decide (Q ≤ x) = false := by simp; omega
          have HB2 := Lib.hid (fun q => below_drawN HBr.out q)
          clear hx hf hkl HR
          go_wp2
          go_quiet (fail)
          go_wp2
          go_roundw
          case rel => exact ⟨k + 1, by omega, by go_num, HR2, Lib.hid (HB2.out _)⟩
          case measure => simp [intOf]; omega
    · obtain rfl : k = n := by omega
      obtain rfl : r = true := by rw [← HR.out, ← hn.out, List.drop_length]; rfl
      have hbF := below_ext HBX.out HBr.out
      clear HR hlt
      go_wp2
      go_ret
      exact ⟨rfl, hbF⟩
set_option maxHeartbeats 3200000 in
theorem rmem19_any (P Q G : Int) (A : Option Addr) (xs : List Int) (n c : Nat) (r : Bool) (hr : Hid (xs.all (memG P Q) = r)) (hn : Hid (xs.length = n)) (hbig : n < 1000) (hval : Hid (validG P Q G = true)) (w : World) (hs : Hid (Sl w A xs)) :
    Calls Tryd.prog 79 #[gv P Q G, .slice A n c] w fun e' w' => e' = .returned (.bool r) ∧ Below w.heap.size w w' := by
  obtain ⟨hp2, hp, hq3, hqp⟩ := validG_P hval.out
  have HX0 := Lib.hid (gbox_alloc w P Q G)
  have HS0 := Lib.hid (hs.out.below (below_box0 w (gObj P Q G)))
  have HBX := Lib.hid (below_box0 w (gObj P Q G))
  obtain ⟨W, hW⟩ : ∃ W, w.alloc (gObj P Q G) = W := ⟨_, rfl⟩
  rw [hW] at HX0 HS0 HBX
  have HW := Lib.hid hW
  clear hW hs
  go_enter Tryd.func79, Tryd.ntmps79
  go_wp2
  rw [HW.out]
  go_loopw [5] (fun i wr => ∃ k : Nat, k ≤ n ∧ i = .int .i64 k ∧ Hid (xs.all (memG P Q) = (xs.drop k).all (memG P Q)) ∧ Hid (Below W.heap.size W wr)) (fun i _ => n - (intOf i).toNat)
  case atStart => exact ⟨0, by omega, rfl, Lib.hid rfl, Lib.hid (Below.refl _ _)⟩
  case round =>
    obtain ⟨k, hk, rfl, HR, HBr⟩ := hrel
    by_cases hlt : k < n
    · have hkl : k < xs.length := by rw [hn.out]; exact hlt
      obtain ⟨b, o, hA, hi0⟩ := HS0.out.below HBr.out k hkl
      subst hA
      have HXr := Lib.hid (HX0.out.below HBr.out)
      cases hm : memG P Q (xs.getD k 0) with
      | true =>
        have HN : Hid (xs.all (memG P Q) = (xs.drop (k + 1)).all (memG P Q)) := Lib.hid (HR.out.trans (all_drop_step hkl hm))
        obtain ⟨x, hx⟩ : ∃ x, xs.getD k 0 = x := ⟨_, rfl⟩
        rw [hx] at hi0 hm
        have HI := Lib.hid hi0
        have HM := Lib.hid hm
        clear hi0 hx hkl hm HR
        go_wp2
        have hSa := Lib.hid (show ∀ u1 u2 : World, Hid (Below wr.heap.size wr u1) → Below u1.heap.size u1 u2 → (u2.cell? ⟨w.heap.size, 0, none⟩ = some (.int .i64 P) ∧ u2.cell? ⟨w.heap.size, 1, none⟩ = some (.int .i64 Q) ∧ u2.cell? ⟨w.heap.size, 2, none⟩ = some (.int .i64 G) ∧ u2.cell? ⟨b, o + k, none⟩ = some (.int .i64 x) ∧ Hid (Below wr.heap.size wr u2)) from fun u1 u2 h1 h2 => have h3 := below_ext h1.out h2; ⟨(HXr.out.below h3).1, (HXr.out.below h3).2.1, (HXr.out.below h3).2.2, cell_below HI.out h3, Lib.hid h3⟩)
        have hRa : Hid (Below wr.heap.size wr wr) := Lib.hid (Below.refl _ _)
        go_region_held3 (fun w' => w'.cell? ⟨w.heap.size, 0, none⟩ = some (.int .i64 P) ∧ w'.cell? ⟨w.heap.size, 1, none⟩ = some (.int .i64 Q) ∧ w'.cell? ⟨w.heap.size, 2, none⟩ = some (.int .i64 G) ∧ w'.cell? ⟨b, o + k, none⟩ = some (.int .i64 x) ∧ Hid (Below wr.heap.size wr w'))
          (first | exact hSa.out _ _ hRa ((Below.refl wr.heap.size wr).drew) | (go_split_ands; exact hSa.out _ _ (by assumption) hbA) | go_keep)
          (first
            | (go_at_call 36; (with_reducible refine (rmember_any P Q G x true HM hp (by omega) (by omega) _).mono ?_); rintro e wA ⟨rfl, hbA⟩))
        rename_i hHeld
        obtain ⟨y0, y1, y2, y3, hbQ⟩ := hHeld
        have HB2 := Lib.hid (below_ext HBr.out hbQ.out)
        clear y0 y1 y2 y3
        go_wp2
        go_roundw
        case rel => exact ⟨k + 1, by omega, by go_num, HN, HB2⟩
        case measure => simp [intOf]; omega
      | false =>
        obtain rfl : r = false := by rw [← hr.out, HR.out, all_drop_hit hkl hm]
        obtain ⟨x, hx⟩ : ∃ x, xs.getD k 0 = x := ⟨_, rfl⟩
        rw [hx] at hi0 hm
        have HI := Lib.hid hi0
        have HM := Lib.hid hm
        clear hi0 hx hkl hm HR
        go_wp2
        have hSa := Lib.hid (show ∀ u1 u2 : World, Hid (Below wr.heap.size wr u1) → Below u1.heap.size u1 u2 → (u2.cell? ⟨w.heap.size, 0, none⟩ = some (.int .i64 P) ∧ u2.cell? ⟨w.heap.size, 1, none⟩ = some (.int .i64 Q) ∧ u2.cell? ⟨w.heap.size, 2, none⟩ = some (.int .i64 G) ∧ u2.cell? ⟨b, o + k, none⟩ = some (.int .i64 x) ∧ Hid (Below wr.heap.size wr u2)) from fun u1 u2 h1 h2 => have h3 := below_ext h1.out h2; ⟨(HXr.out.below h3).1, (HXr.out.below h3).2.1, (HXr.out.below h3).2.2, cell_below HI.out h3, Lib.hid h3⟩)
        have hRa : Hid (Below wr.heap.size wr wr) := Lib.hid (Below.refl _ _)
        go_region_held3 (fun w' => w'.cell? ⟨w.heap.size, 0, none⟩ = some (.int .i64 P) ∧ w'.cell? ⟨w.heap.size, 1, none⟩ = some (.int .i64 Q) ∧ w'.cell? ⟨w.heap.size, 2, none⟩ = some (.int .i64 G) ∧ w'.cell? ⟨b, o + k, none⟩ = some (.int .i64 x) ∧ Hid (Below wr.heap.size wr w'))
          (first | exact hSa.out _ _ hRa ((Below.refl wr.heap.size wr).drew) | (go_split_ands; exact hSa.out _ _ (by assumption) hbA) | go_keep)
          (first
            | (go_at_call 36; (with_reducible refine (rmember_any P Q G x false HM hp (by omega) (by omega) _).mono ?_); rintro e wA ⟨rfl, hbA⟩))
        rename_i hHeld
        obtain ⟨y0, y1, y2, y3, hbQ⟩ := hHeld
        have HB2 := Lib.hid (below_ext HBr.out hbQ.out)
        clear y0 y1 y2 y3
        go_wp2
        go_ret
        exact ⟨rfl, below_ext HBX.out HB2.out⟩
    · obtain rfl : k = n := by omega
      obtain rfl : r = true := by rw [← hr.out, HR.out, ← hn.out]; simp
      clear HR hlt
      go_wp2
      go_ret
      exact ⟨rfl, below_ext HBX.out HBr.out⟩
set_option maxHeartbeats 6400000 in
theorem rfirst_any (P Q G b : Int) (Y : Option Addr) (ys : List Int) (yn yc : Nat) (r : Int) (hr : Hid (givC P Q G b ys = r)) (hyn : Hid (ys.length = yn)) (hyb : yn < 1000000) (hQ : Q < 9223372036854775808) (w : World) (hY : Hid (Sl w Y ys)) :
    Calls Tryd.prog 41 #[gv P Q G, .int .i64 b, .slice Y yn yc] w fun e' w' => e' = .returned (.int .i64 r) ∧ Below w.heap.size w w' := by
  obtain ⟨vb, hvb⟩ : ∃ b, validG P Q G = b := ⟨_, rfl⟩
  obtain ⟨bb, hbb⟩ : ∃ x, memG P Q b = x := ⟨_, rfl⟩
  obtain ⟨yb, hyb'⟩ : ∃ b, ys.all (memG P Q) = b := ⟨_, rfl⟩
  have HVB := Lib.hid hvb
  have HBB := Lib.hid hbb
  have HYB := Lib.hid hyb'
  clear hvb hbb hyb'
  obtain ⟨w0, hW⟩ : ∃ W, (w.alloc (gObj P Q G)) = W := ⟨_, rfl⟩
  have HBw : Hid (Below w.heap.size w w0) := Lib.hid (by rw [← hW]; exact below_box0 _ _)
  have hc : w0.cell? ⟨w.heap.size, 0, none⟩ = some (.int .i64 P) ∧ w0.cell? ⟨w.heap.size, 1, none⟩ = some (.int .i64 Q) ∧ w0.cell? ⟨w.heap.size, 2, none⟩ = some (.int .i64 G) := by rw [← hW]; exact ⟨allocs_cell (by simp) (by rfl), allocs_cell (by simp) (by rfl), allocs_cell (by simp) (by rfl)⟩
  have kC := Lib.hid (show ∀ u : World, Hid (Below w0.heap.size w0 u) → u.cell? ⟨w.heap.size, 0, none⟩ = some (.int .i64 P) ∧ u.cell? ⟨w.heap.size, 1, none⟩ = some (.int .i64 Q) ∧ u.cell? ⟨w.heap.size, 2, none⟩ = some (.int .i64 G) from fun u h => ⟨cell_below hc.1 h.out, cell_below hc.2.1 h.out, cell_below hc.2.2 h.out⟩)
  have kY := Lib.hid (show ∀ u : World, Hid (Below w0.heap.size w0 u) → Hid (Sl u Y ys) from fun u h => Lib.hid ((hY.out.below) (below_ext HBw.out h.out)))
  have HB_0 : Hid (Below w0.heap.size w0 w0) := Lib.hid (Below.refl _ _)
  have HW := Lib.hid hW
  clear hW hc hY
  go_enter Tryd.func41, Tryd.ntmps41
  go_wp2_with fail
  rw [HW.out]
  obtain ⟨zc0, zc1, zc2⟩ := kC.out _ HB_0
  go_wp2_with fail
  refine (rvalid_any P Q G vb HVB hQ _).mono ?_
  rintro e w1 ⟨rfl, hb0⟩
  have HB_1 := Lib.hid (below_ext HB_0.out hb0)
  clear zc0 zc1 zc2
  clear hb0
  obtain ⟨zc0, zc1, zc2⟩ := kC.out _ HB_1
  cases vb with
  | false =>
    obtain rfl : r = 1 := hr.out.symm.trans (by unfold givC; simp only [HVB.out, Bool.false_eq_true, if_false])
    have hbF := below_ext HBw.out HB_1.out
    go_wp2
    go_ret
    exact ⟨rfl, hbF⟩
  | true =>
    by_cases h1 : yn < 1
    · skip
      have d1 : decide ((yn : Int) < 1) = true := by simp; omega
      obtain rfl : r = 1 := hr.out.symm.trans (by unfold givC; simp only [HVB.out, hyn.out, HBB.out, HYB.out, Bool.false_eq_true, if_true, if_false]; rw [if_neg (by omega)])
      have hbF := below_ext HBw.out HB_1.out
      go_wp2
      go_ret
      exact ⟨rfl, hbF⟩
    · skip
      have d1 : decide ((yn : Int) < 1) = false := by simp; omega
      by_cases h2 : 16 < yn
      · skip
        have d2 : decide ((16 : Int) < (yn : Int)) = true := by simp; omega
        obtain rfl : r = 1 := hr.out.symm.trans (by unfold givC; simp only [HVB.out, hyn.out, HBB.out, HYB.out, Bool.false_eq_true, if_true, if_false]; rw [if_neg (by omega)])
        have hbF := below_ext HBw.out HB_1.out
        go_wp2
        go_ret
        exact ⟨rfl, hbF⟩
      · skip
        have d2 : decide ((16 : Int) < (yn : Int)) = false := by simp; omega
        have hlen : 1 ≤ yn ∧ yn ≤ 16 := ⟨by omega, by omega⟩
        have HLN := Lib.hid hlen
        clear hlen
        obtain ⟨hp2, hp, hq3, hqp⟩ := validG_P HVB.out
        go_wp2_with fail
        refine (rmember_any P Q G b bb HBB hp (by omega) hQ _).mono ?_
        rintro e w2 ⟨rfl, hb0⟩
        have HB_2 := Lib.hid (below_ext HB_1.out hb0)
        clear zc0 zc1 zc2
        clear hb0
        obtain ⟨zc0, zc1, zc2⟩ := kC.out _ HB_2
        cases bb with
        | false =>
          obtain rfl : r = 2 := hr.out.symm.trans (by unfold givC; simp only [HVB.out, hyn.out, HBB.out, HYB.out, Bool.false_eq_true, if_true, if_false]; rw [if_pos HLN.out])
          have hbF := below_ext HBw.out HB_2.out
          go_wp2
          go_ret
          exact ⟨rfl, hbF⟩
        | true =>
          go_wp2_with fail
          refine (rmem19_any P Q G Y ys yn yc yb HYB hyn (by have := HLN.out; omega) HVB _ (kY.out _ HB_2)).mono ?_
          rintro e w3 ⟨rfl, hb0⟩
          have HB_3 := Lib.hid (below_ext HB_2.out hb0)
          clear zc0 zc1 zc2
          clear hb0
          obtain ⟨zc0, zc1, zc2⟩ := kC.out _ HB_3
          cases yb with
          | false =>
            obtain rfl : r = 2 := hr.out.symm.trans (by unfold givC; simp only [HVB.out, hyn.out, HBB.out, HYB.out, Bool.false_eq_true, if_true, if_false]; rw [if_pos HLN.out])
            have hbF := below_ext HBw.out HB_3.out
            go_wp2
            go_ret
            exact ⟨rfl, hbF⟩
          | true =>
            obtain rfl : r = 0 := hr.out.symm.trans (by unfold givC; simp only [HVB.out, hyn.out, HBB.out, HYB.out, Bool.false_eq_true, if_true, if_false]; rw [if_pos HLN.out])
            have hbF := below_ext HBw.out HB_3.out
            go_wp2
            go_ret
            exact ⟨rfl, hbF⟩
set_option maxHeartbeats 12800000 in
theorem rformed_any (P Q G : Int) (n : Nat) (A : Option Addr) (al : List Int) (na ca : Nat) (C : Option Addr) (cl : List Int) (nc cc : Nat) (Z : Option Addr) (zl : List Int) (nz cz : Nat) (r : Bool) (hr : Hid (formB P Q n al cl zl = r)) (hg : Hid (validG P Q G = true)) (han : Hid (al.length = na)) (hcn : Hid (cl.length = nc)) (hzn : Hid (zl.length = nz)) (hna : na < 1000000) (hnc : nc < 1000000) (hnz : nz < 1000000) (hn : n < 1000)
    (w : World) (hA : Hid (Sl w A al)) (hC : Hid (Sl w C cl)) (hZ : Hid (Sl w Z zl)) :
    Calls Tryd.prog 71 #[gv P Q G, .int .i64 n, choV A na ca C nc cc Z nz cz] w fun e' w' => e' = .returned (.bool r) ∧ Below w.heap.size w w' := by
  obtain ⟨xa, hxa⟩ : ∃ b, al.all (memG P Q) = b := ⟨_, rfl⟩
  obtain ⟨xc, hxc⟩ : ∃ b, cl.all (scB Q) = b := ⟨_, rfl⟩
  obtain ⟨xz, hxz⟩ : ∃ b, zl.all (scB Q) = b := ⟨_, rfl⟩
  have HXA := Lib.hid hxa
  have HXC := Lib.hid hxc
  have HXZ := Lib.hid hxz
  have HRR : Hid ((decide (na = n) && (decide (nc = n) && (decide (nz = n) && (xa && (xc && xz))))) = r) := Lib.hid (by rw [← hr.out, formB, formL, List.drop_zero, List.drop_zero, List.drop_zero, hxa, hxc, hxz, han.out, hcn.out, hzn.out])
  clear hxa hxc hxz
  obtain ⟨w0, hW⟩ : ∃ W, ((w.alloc (gObj P Q G)).alloc (choO A na ca C nc cc Z nz cz)) = W := ⟨_, rfl⟩
  have HBw : Hid (Below w.heap.size w w0) := Lib.hid (by rw [← hW]; exact below_two (Below.refl _ _))
  have hc : w0.cell? ⟨w.heap.size, 0, none⟩ = some (.int .i64 P) ∧ w0.cell? ⟨w.heap.size, 1, none⟩ = some (.int .i64 Q) ∧ w0.cell? ⟨w.heap.size, 2, none⟩ = some (.int .i64 G) ∧ w0.cell? ⟨w.heap.size + 1, 0, none⟩ = some (.slice A na ca) ∧ w0.cell? ⟨w.heap.size + 1, 1, none⟩ = some (.slice C nc cc) ∧ w0.cell? ⟨w.heap.size + 1, 2, none⟩ = some (.slice Z nz cz) := by rw [← hW]; exact ⟨cell_below (allocs_cell (by simp) (by rfl)) (below_box0 _ _), cell_below (allocs_cell (by simp) (by rfl)) (below_box0 _ _), cell_below (allocs_cell (by simp) (by rfl)) (below_box0 _ _), allocs_cell (by simp) (by rfl), allocs_cell (by simp) (by rfl), allocs_cell (by simp) (by rfl)⟩
  have kC := Lib.hid (show ∀ u : World, Hid (Below w0.heap.size w0 u) → u.cell? ⟨w.heap.size, 0, none⟩ = some (.int .i64 P) ∧ u.cell? ⟨w.heap.size, 1, none⟩ = some (.int .i64 Q) ∧ u.cell? ⟨w.heap.size, 2, none⟩ = some (.int .i64 G) ∧ u.cell? ⟨w.heap.size + 1, 0, none⟩ = some (.slice A na ca) ∧ u.cell? ⟨w.heap.size + 1, 1, none⟩ = some (.slice C nc cc) ∧ u.cell? ⟨w.heap.size + 1, 2, none⟩ = some (.slice Z nz cz) from fun u h => ⟨cell_below hc.1 h.out, cell_below hc.2.1 h.out, cell_below hc.2.2.1 h.out, cell_below hc.2.2.2.1 h.out, cell_below hc.2.2.2.2.1 h.out, cell_below hc.2.2.2.2.2 h.out⟩)
  have kA := Lib.hid (show ∀ u : World, Hid (Below w0.heap.size w0 u) → Hid (Sl u A al) from fun u h => Lib.hid ((hA.out.below) (below_ext HBw.out h.out)))
  have kCl := Lib.hid (show ∀ u : World, Hid (Below w0.heap.size w0 u) → Hid (Sl u C cl) from fun u h => Lib.hid ((hC.out.below) (below_ext HBw.out h.out)))
  have kZ := Lib.hid (show ∀ u : World, Hid (Below w0.heap.size w0 u) → Hid (Sl u Z zl) from fun u h => Lib.hid ((hZ.out.below) (below_ext HBw.out h.out)))
  have HB_0 : Hid (Below w0.heap.size w0 w0) := Lib.hid (Below.refl _ _)
  have HW := Lib.hid hW
  clear hW hc hA hC hZ
  go_enter Tryd.func71, Tryd.ntmps71
  by_cases h1 : na = n
  · skip
    have e1 : ((na : Int) == (n : Int)) = true := by simp; omega
    by_cases h2 : nc = n
    · skip
      have e2 : ((nc : Int) == (n : Int)) = true := by simp; omega
      by_cases h3 : nz = n
      · skip
        have e3 : ((nz : Int) == (n : Int)) = true := by simp; omega
        have HR2 : Hid ((xa && (xc && xz)) = r) := Lib.hid (by rw [← HRR.out, decide_eq_true h1, decide_eq_true h2, decide_eq_true h3]; simp)
        have hna2 : na < 1000 := by omega
        have hnc2 : nc < 1000000 := by omega
        clear h1 h2 h3 HRR
        go_wp2_with fail
        rw [HW.out]
        obtain ⟨zc0, zc1, zc2, zc3, zc4, zc5⟩ := kC.out _ HB_0
        go_wp2_with fail
        refine (rmem19_any P Q G A al na ca xa HXA han hna2 hg _ (kA.out _ HB_0)).mono ?_
        rintro e w1 ⟨rfl, hb0⟩
        have HB_1 := Lib.hid (below_ext HB_0.out hb0)
        clear zc0 zc1 zc2 zc3 zc4 zc5
        clear hb0
        obtain ⟨zc0, zc1, zc2, zc3, zc4, zc5⟩ := kC.out _ HB_1
        cases xa with
        | false =>
          obtain rfl : r = false := HR2.out.symm.trans (by simp)
          have hbF := below_ext HBw.out HB_1.out
          go_wp2
          go_ret
          exact ⟨rfl, hbF⟩
        | true =>
          go_wp2_with fail
          refine (rsc19_any P Q G C cl nc cc xc HXC hcn hnc _ (kCl.out _ HB_1)).mono ?_
          rintro e w2 ⟨rfl, hb0⟩
          have HB_2 := Lib.hid (below_ext HB_1.out hb0)
          clear zc0 zc1 zc2 zc3 zc4 zc5
          clear hb0
          obtain ⟨zc0, zc1, zc2, zc3, zc4, zc5⟩ := kC.out _ HB_2
          cases xc with
          | false =>
            obtain rfl : r = false := HR2.out.symm.trans (by simp)
            have hbF := below_ext HBw.out HB_2.out
            go_wp2
            go_ret
            exact ⟨rfl, hbF⟩
          | true =>
            go_wp2_with fail
            refine (rsc19_any P Q G Z zl nz cz xz HXZ hzn hnz _ (kZ.out _ HB_2)).mono ?_
            rintro e w3 ⟨rfl, hb0⟩
            have HB_3 := Lib.hid (below_ext HB_2.out hb0)
            clear zc0 zc1 zc2 zc3 zc4 zc5
            clear hb0
            obtain ⟨zc0, zc1, zc2, zc3, zc4, zc5⟩ := kC.out _ HB_3
            obtain rfl : r = xz := HR2.out.symm.trans (by simp)
            have hbF := below_ext HBw.out HB_3.out
            go_wp2
            go_ret
            exact ⟨rfl, hbF⟩
      · skip
        have e3 : ((nz : Int) == (n : Int)) = false := by simp; omega
        obtain rfl : r = false := HRR.out.symm.trans (by rw [decide_eq_false h3, Bool.false_and, Bool.and_false, Bool.and_false])
        clear h1 h2 h3
        have hbF := HBw.out
        rw [← HW.out] at hbF
        go_wp2
        go_ret
        exact ⟨rfl, hbF⟩
    · skip
      have e2 : ((nc : Int) == (n : Int)) = false := by simp; omega
      obtain rfl : r = false := HRR.out.symm.trans (by rw [decide_eq_false h2, Bool.false_and, Bool.and_false])
      clear h1 h2
      have hbF := HBw.out
      rw [← HW.out] at hbF
      go_wp2
      go_ret
      exact ⟨rfl, hbF⟩
  · skip
    have e1 : ((na : Int) == (n : Int)) = false := by simp; omega
    obtain rfl : r = false := HRR.out.symm.trans (by rw [decide_eq_false h1, Bool.false_and])
    clear h1
    have hbF := HBw.out
    rw [← HW.out] at hbF
    go_wp2
    go_ret
    exact ⟨rfl, hbF⟩
end Go.Proofs.YtijedphpcocfnaaDoor
namespace Go.Proofs.YtijedphpcocfnaaDoor
open Go.RowKit SpM
set_option linter.unusedVariables false
set_option linter.unusedSimpArgs false
set_option maxRecDepth 100000
set_option maxHeartbeats 6400000 in
theorem rsum19_ok (P Q G : Int) (A : Option Addr) (xs : List Int) (n c : Nat) (V : Int) (hV : Hid (sumL Q 0 xs = V)) (hn : Hid (xs.length = n)) (hbig : n < 1000000) (hx : Hid (xs.all (scB Q) = true)) (hQ0 : 1 ≤ Q) (hQ : Q < 2305843009213693952) (w : World) (hA : Hid (Sl w A xs)) :
    Calls Tryd.prog 35 #[gv P Q G, .slice A n c] w fun e' w' => e' = .returned (.int .i64 V) ∧ Below w.heap.size w w' := by
  obtain ⟨w0, hW⟩ : ∃ W, (w.alloc (gObj P Q G)) = W := ⟨_, rfl⟩
  have HBw : Hid (Below w.heap.size w w0) := Lib.hid (by rw [← hW]; exact below_box0 _ _)
  have hc : w0.cell? ⟨w.heap.size, 0, none⟩ = some (.int .i64 P) ∧ w0.cell? ⟨w.heap.size, 1, none⟩ = some (.int .i64 Q) ∧ w0.cell? ⟨w.heap.size, 2, none⟩ = some (.int .i64 G) := by rw [← hW]; exact ⟨allocs_cell (by simp) (by rfl), allocs_cell (by simp) (by rfl), allocs_cell (by simp) (by rfl)⟩
  have kC := Lib.hid (show ∀ u : World, Hid (Below w0.heap.size w0 u) → u.cell? ⟨w.heap.size, 0, none⟩ = some (.int .i64 P) ∧ u.cell? ⟨w.heap.size, 1, none⟩ = some (.int .i64 Q) ∧ u.cell? ⟨w.heap.size, 2, none⟩ = some (.int .i64 G) from fun u h => ⟨cell_below hc.1 h.out, cell_below hc.2.1 h.out, cell_below hc.2.2 h.out⟩)
  have kA := Lib.hid (show ∀ u : World, Hid (Below w0.heap.size w0 u) → Hid (Sl u A xs) from fun u h => Lib.hid ((hA.out.below) (below_ext HBw.out h.out)))
  have HB_0 : Hid (Below w0.heap.size w0 w0) := Lib.hid (Below.refl _ _)
  have HW := Lib.hid hW
  clear hW hc hA
  go_enter Tryd.func35, Tryd.ntmps35
  go_wp2
  rw [HW.out]
  go_loopw [5, 6] (fun o i wr => ∃ (k : Nat) (acc : Int), k ≤ n ∧ i = .int .i64 k ∧ o = .int .i64 acc ∧ 0 ≤ acc ∧ acc < Q ∧ Hid (sumL Q acc (xs.drop k) = V) ∧ Hid (Below w0.heap.size w0 wr)) (fun _ i _ => n - (intOf i).toNat)
  case atStart => exact ⟨0, 0, by omega, rfl, rfl, by omega, by omega, Lib.hid (by rw [List.drop_zero]; exact hV.out), Lib.hid (Below.refl _ _)⟩
  case round =>
    obtain ⟨k, acc, hk, rfl, rfl, ha0, ha1, HPF, HBr⟩ := hrel
    by_cases hlt : k < n
    · have hkl : k < xs.length := by rw [hn.out]; exact hlt
      obtain ⟨b1, o1, hA1, hi0⟩ := (kA.out _ HBr).out k hkl
      subst hA1
      obtain ⟨c0, c1, c2⟩ := kC.out _ HBr
      have hm1 := all_get hx.out hkl
      have hst := sumL_step (Q := Q) (acc := acc) hkl
      obtain ⟨x, hxx⟩ : ∃ x, xs.getD k 0 = x := ⟨_, rfl⟩
      rw [hxx] at hi0 hm1 hst
      have x0 := scB_lo hm1
      have x1 := scB_hi hm1
      obtain ⟨t, ht⟩ : ∃ t, (acc + x) % Q = t := ⟨_, rfl⟩
      have t0 : 0 ≤ t := by rw [← ht]; exact Int.emod_nonneg _ (by omega)
      have t1 : t < Q := by rw [← ht]; exact Int.emod_lt_of_pos _ (by omega)
      have HPF2 : Hid (sumL Q t (xs.drop (k + 1)) = V) := Lib.hid (by rw [← HPF.out, hst, ht])
      have htm : (acc + x).tmod Q = t := by rw [Int.tmod_eq_emod_of_nonneg (by omega), ht]
      have hsum : IntKind.i64.wrap (acc + x) = acc + x := IntWalk.i64_in _ (by omega)
      have hwt : IntKind.i64.wrap t = t := IntWalk.i64_in _ (by omega)
      have hQn : ¬ (Q = 0) := by omega
      have HB2 := Lib.hid (fun q => below_drawN HBr.out q)
      clear hm1 hst hxx hkl ht
      go_wp2
      go_quiet (fail)
      clear hsum htm
      go_wp2
      go_roundw
      case rel => exact ⟨k + 1, t, by omega, by go_num, rfl, t0, t1, HPF2, Lib.hid (HB2.out _)⟩
      case measure => simp [intOf]; omega
    · obtain rfl : k = n := by omega
      have hacc := sumL_end hn.out HPF
      have hbF := below_ext HBw.out HBr.out
      clear HPF hlt
      subst hacc
      go_wp2
      go_ret
      exact ⟨rfl, hbF⟩
set_option maxHeartbeats 12800000 in
theorem rcom19_ok (P Q G b y c z V : Int) (hV : Hid (comF P Q b y c z = V)) (hg : Hid (validG P Q G = true)) (hb : Hid (memG P Q b = true)) (hy : Hid (memG P Q y = true)) (hc : Hid (scB Q c = true)) (hz : Hid (scB Q z = true)) (w : World) :
    Calls Tryd.prog 43 #[gv P Q G, .int .i64 b, .int .i64 y, .int .i64 c, .int .i64 z] w fun e' w' => e' = .returned (.int .i64 V) ∧ Below w.heap.size w w' := by
  obtain ⟨hp2, hp, hq3, hqp⟩ := validG_P hg.out
  have hc0 := scB_lo hc.out
  have hc1 := scB_hi hc.out
  have hz0 := scB_lo hz.out
  have hz1 := scB_hi hz.out
  have hb0 := memG_lo hb.out
  have hb1 := memG_hi hb.out
  have hy0 := memG_lo hy.out
  have hy1 := memG_hi hy.out
  obtain ⟨m, hm⟩ : ∃ m, (0 : Int) - c = m := ⟨_, rfl⟩
  obtain ⟨p, hpw⟩ : ∃ p, pw b z P = p := ⟨_, rfl⟩
  obtain ⟨q, hqw⟩ : ∃ p, pw y ((Q - c) % Q) P = p := ⟨_, rfl⟩
  obtain ⟨p0, p1⟩ : 0 ≤ p ∧ p < P := by rw [← hpw]; exact pw_lt _ _ _ (by omega)
  obtain ⟨q0, q1⟩ : 0 ≤ q ∧ q < P := by rw [← hqw]; exact pw_lt _ _ _ (by omega)
  have HP1 : Hid (pw b (z % Q) P = p) := Lib.hid (by rw [Int.emod_eq_of_lt hz0 hz1]; exact hpw)
  have HP2 : Hid (pw y (m % Q) P = q) := Lib.hid (by
    have e : m % Q = (Q - c) % Q := by rw [← hm, ← Int.add_emod_right]; congr 1; omega
    rw [e]; exact hqw)
  have HMU : Hid (p * q % P = V) := Lib.hid (by rw [← hV.out, comF, hpw, hqw])
  have hsub : IntKind.i64.wrap (0 - c) = m := by rw [IntWalk.i64_in _ (by omega), hm]
  have hsub2 : IntKind.i64.wrap (-c) = m := by rw [← hm, Int.zero_sub]; exact IntWalk.i64_in _ (by omega)
  have m0 : -9223372036854775808 ≤ m := by omega
  have m1 : m < 9223372036854775808 := by omega
  clear hm hpw hqw
  obtain ⟨w0, hW⟩ : ∃ W, (w.alloc (gObj P Q G)) = W := ⟨_, rfl⟩
  have HBw : Hid (Below w.heap.size w w0) := Lib.hid (by rw [← hW]; exact below_box0 _ _)
  have hc : w0.cell? ⟨w.heap.size, 0, none⟩ = some (.int .i64 P) ∧ w0.cell? ⟨w.heap.size, 1, none⟩ = some (.int .i64 Q) ∧ w0.cell? ⟨w.heap.size, 2, none⟩ = some (.int .i64 G) := by rw [← hW]; exact ⟨allocs_cell (by simp) (by rfl), allocs_cell (by simp) (by rfl), allocs_cell (by simp) (by rfl)⟩
  have kC := Lib.hid (show ∀ u : World, Hid (Below w0.heap.size w0 u) → u.cell? ⟨w.heap.size, 0, none⟩ = some (.int .i64 P) ∧ u.cell? ⟨w.heap.size, 1, none⟩ = some (.int .i64 Q) ∧ u.cell? ⟨w.heap.size, 2, none⟩ = some (.int .i64 G) from fun u h => ⟨cell_below hc.1 h.out, cell_below hc.2.1 h.out, cell_below hc.2.2 h.out⟩)
  have HB_0 : Hid (Below w0.heap.size w0 w0) := Lib.hid (Below.refl _ _)
  have HW := Lib.hid hW
  clear hW
  go_enter Tryd.func43, Tryd.ntmps43
  go_wp2_with fail
  rw [HW.out]
  have hS := Lib.hid (show ∀ u1 u2 : World, Hid (Below w0.heap.size w0 u1) → Below u1.heap.size u1 u2 → (u2.cell? ⟨w.heap.size, 0, none⟩ = some (.int .i64 P) ∧ u2.cell? ⟨w.heap.size, 1, none⟩ = some (.int .i64 Q) ∧ u2.cell? ⟨w.heap.size, 2, none⟩ = some (.int .i64 G) ∧ Hid (Below w0.heap.size w0 u2)) from fun u1 u2 h1 h2 => by
    have h3 := Lib.hid (below_ext h1.out h2)
    obtain ⟨y0, y1, y2⟩ := kC.out _ h3
    exact ⟨y0, y1, y2, h3⟩)
  go_region_held3 (fun w' => w'.cell? ⟨w.heap.size, 0, none⟩ = some (.int .i64 P) ∧ w'.cell? ⟨w.heap.size, 1, none⟩ = some (.int .i64 Q) ∧ w'.cell? ⟨w.heap.size, 2, none⟩ = some (.int .i64 G) ∧ Hid (Below w0.heap.size w0 w'))
    (first | exact hS.out _ _ HB_0 (Below.refl _ _).drew | (go_split_ands; exact hS.out _ _ (by assumption) hbA) | go_keep)
    ((first
      | (go_at_call 81; (with_reducible refine (rpower_any P Q G b z p HP1 (by omega) hp (by omega) (by omega) (by omega) hb1 (by omega) (by omega) _).mono ?_); rintro e9 wA ⟨rfl, hbA⟩)
      | (go_at_call 81; (with_reducible refine (rpower_any P Q G y m q HP2 (by omega) hp (by omega) (by omega) (by omega) hy1 m0 m1 _).mono ?_); rintro e9 wA ⟨rfl, hbA⟩)
      | (go_at_call 80; (with_reducible refine (rgmul_any P Q G p q V HMU hp p0 p1 q0 q1 _).mono ?_); rintro e9 wA ⟨rfl, hbA⟩)))
  rename_i hHeld
  obtain ⟨x0, x1, x2, HBF⟩ := hHeld
  have hbF := below_ext HBw.out HBF.out
  clear x0 x1 x2
  go_wp2
  go_ret
  exact ⟨rfl, hbF⟩
set_option maxHeartbeats 25600000 in
theorem racc19_any (P Q G b : Int) (Y : Option Addr) (ys : List Int) (n yc : Nat) (A : Option Addr) (al : List Int) (ca : Nat) (C : Option Addr) (cl : List Int) (cc : Nat) (Z : Option Addr) (zl : List Int) (cz : Nat) (r : Bool) (hr : Hid (accL P Q b ys al cl zl n 0 = r)) (hg : Hid (validG P Q G = true)) (hb : Hid (memG P Q b = true)) (hym : Hid (ys.all (memG P Q) = true)) (HCS : Hid (cl.all (scB Q) = true)) (HZS : Hid (zl.all (scB Q) = true))
    (hyn : Hid (ys.length = n)) (han : Hid (al.length = n)) (hcn : Hid (cl.length = n)) (hzn : Hid (zl.length = n)) (hnb : n < 1000000) (w : World) (hY : Hid (Sl w Y ys)) (hA : Hid (Sl w A al)) (hC : Hid (Sl w C cl)) (hZ : Hid (Sl w Z zl)) :
    Calls Tryd.prog 72 #[gv P Q G, .int .i64 b, .slice Y n yc, choV A n ca C n cc Z n cz] w fun e' w' => e' = .returned (.bool r) ∧ Below w.heap.size w w' := by
  obtain ⟨w0, hW⟩ : ∃ W, ((w.alloc (gObj P Q G)).alloc (choO A n ca C n cc Z n cz)) = W := ⟨_, rfl⟩
  have HBw : Hid (Below w.heap.size w w0) := Lib.hid (by rw [← hW]; exact below_two (Below.refl _ _))
  have hc : w0.cell? ⟨w.heap.size, 0, none⟩ = some (.int .i64 P) ∧ w0.cell? ⟨w.heap.size, 1, none⟩ = some (.int .i64 Q) ∧ w0.cell? ⟨w.heap.size, 2, none⟩ = some (.int .i64 G) ∧ w0.cell? ⟨w.heap.size + 1, 0, none⟩ = some (.slice A n ca) ∧ w0.cell? ⟨w.heap.size + 1, 1, none⟩ = some (.slice C n cc) ∧ w0.cell? ⟨w.heap.size + 1, 2, none⟩ = some (.slice Z n cz) := by rw [← hW]; exact ⟨cell_below (allocs_cell (by simp) (by rfl)) (below_box0 _ _), cell_below (allocs_cell (by simp) (by rfl)) (below_box0 _ _), cell_below (allocs_cell (by simp) (by rfl)) (below_box0 _ _), allocs_cell (by simp) (by rfl), allocs_cell (by simp) (by rfl), allocs_cell (by simp) (by rfl)⟩
  have kC := Lib.hid (show ∀ u : World, Hid (Below w0.heap.size w0 u) → u.cell? ⟨w.heap.size, 0, none⟩ = some (.int .i64 P) ∧ u.cell? ⟨w.heap.size, 1, none⟩ = some (.int .i64 Q) ∧ u.cell? ⟨w.heap.size, 2, none⟩ = some (.int .i64 G) ∧ u.cell? ⟨w.heap.size + 1, 0, none⟩ = some (.slice A n ca) ∧ u.cell? ⟨w.heap.size + 1, 1, none⟩ = some (.slice C n cc) ∧ u.cell? ⟨w.heap.size + 1, 2, none⟩ = some (.slice Z n cz) from fun u h => ⟨cell_below hc.1 h.out, cell_below hc.2.1 h.out, cell_below hc.2.2.1 h.out, cell_below hc.2.2.2.1 h.out, cell_below hc.2.2.2.2.1 h.out, cell_below hc.2.2.2.2.2 h.out⟩)
  have kY := Lib.hid (show ∀ u : World, Hid (Below w0.heap.size w0 u) → Hid (Sl u Y ys) from fun u h => Lib.hid ((hY.out.below) (below_ext HBw.out h.out)))
  have kA := Lib.hid (show ∀ u : World, Hid (Below w0.heap.size w0 u) → Hid (Sl u A al) from fun u h => Lib.hid ((hA.out.below) (below_ext HBw.out h.out)))
  have kCl := Lib.hid (show ∀ u : World, Hid (Below w0.heap.size w0 u) → Hid (Sl u C cl) from fun u h => Lib.hid ((hC.out.below) (below_ext HBw.out h.out)))
  have kZ := Lib.hid (show ∀ u : World, Hid (Below w0.heap.size w0 u) → Hid (Sl u Z zl) from fun u h => Lib.hid ((hZ.out.below) (below_ext HBw.out h.out)))
  have HB_0 : Hid (Below w0.heap.size w0 w0) := Lib.hid (Below.refl _ _)
  have HW := Lib.hid hW
  clear hW hc hY hA hC hZ
  go_enter Tryd.func72, Tryd.ntmps72
  go_wp2
  rw [HW.out]
  go_loopw [9] (fun i wr => ∃ k : Nat, k ≤ n ∧ i = .int .i64 k ∧ Hid (accL P Q b ys al cl zl n k = r) ∧ Hid (Below w0.heap.size w0 wr)) (fun i _ => n - (intOf i).toNat)
  case atStart => exact ⟨0, by omega, rfl, hr, HB_0⟩
  case round =>
    obtain ⟨k, hk, rfl, HR, HBr⟩ := hrel
    obtain ⟨wo, rfl⟩ : ∃ wo : World, wo = wr := ⟨_, rfl⟩
    by_cases hlt : k < n
    · have h0 : k < ys.length := by rw [hyn.out]; exact hlt
      have h1 : k < al.length := by rw [han.out]; exact hlt
      have h2 : k < cl.length := by rw [hcn.out]; exact hlt
      have h3 : k < zl.length := by rw [hzn.out]; exact hlt
      obtain ⟨b0, o0, e0, hi0⟩ := (kY.out _ HBr).out k h0
      obtain ⟨b1, o1, e1, hi1⟩ := (kA.out _ HBr).out k h1
      obtain ⟨b2, o2, e2, hi2⟩ := (kCl.out _ HBr).out k h2
      obtain ⟨b3, o3, e3, hi3⟩ := (kZ.out _ HBr).out k h3
      subst e0
      subst e1
      subst e2
      subst e3
      have hst := accL_step (P := P) (Q := Q) (b := b) (ys := ys) (al := al) (cl := cl) (zl := zl) hlt
      rw [HR.out] at hst
      have hmy := all_get hym.out h0
      have hsc := all_get HCS.out h2
      have hsz := all_get HZS.out h3
      obtain ⟨y, hy⟩ : ∃ x, ys.getD k 0 = x := ⟨_, rfl⟩
      obtain ⟨a, ha⟩ : ∃ x, al.getD k 0 = x := ⟨_, rfl⟩
      obtain ⟨c, hc⟩ : ∃ x, cl.getD k 0 = x := ⟨_, rfl⟩
      obtain ⟨z, hz⟩ : ∃ x, zl.getD k 0 = x := ⟨_, rfl⟩
      rw [hy] at hi0 hmy hst
      rw [ha] at hi1 hst
      rw [hc] at hi2 hsc hst
      rw [hz] at hi3 hsz hst
      obtain ⟨V, hV⟩ : ∃ x, comF P Q b y c z = x := ⟨_, rfl⟩
      rw [hV] at hst
      have HVV := Lib.hid hV
      have HMY := Lib.hid hmy
      have HSC := Lib.hid hsc
      have HSZ := Lib.hid hsz
      obtain ⟨t, ht⟩ : ∃ t, (V == a) = t := ⟨_, rfl⟩
      have htn : ((a : Int) != V) = !t := by rw [← ht, bne, BEq.comm]
      rw [ht] at hst
      have HST := Lib.hid hst
      have HJ0 := Lib.hid hi0
      have HJ1 := Lib.hid hi1
      have HJ2 := Lib.hid hi2
      have HJ3 := Lib.hid hi3
      have HTN := Lib.hid htn
      clear ht hst hmy hsc hsz hy ha hc hz h0 h1 h2 h3 HR hV htn
      have hS := Lib.hid (show ∀ u1 u2 : World, (Hid (Below w0.heap.size w0 u1) ∧ Hid (Below wo.heap.size wo u1)) → Below u1.heap.size u1 u2 → (u2.cell? ⟨w.heap.size, 0, none⟩ = some (.int .i64 P) ∧ u2.cell? ⟨w.heap.size, 1, none⟩ = some (.int .i64 Q) ∧ u2.cell? ⟨w.heap.size, 2, none⟩ = some (.int .i64 G) ∧ u2.cell? ⟨w.heap.size + 1, 0, none⟩ = some (.slice (some ⟨b1, o1, none⟩) n ca) ∧ u2.cell? ⟨w.heap.size + 1, 1, none⟩ = some (.slice (some ⟨b2, o2, none⟩) n cc) ∧ u2.cell? ⟨w.heap.size + 1, 2, none⟩ = some (.slice (some ⟨b3, o3, none⟩) n cz) ∧ u2.cell? ⟨b0, o0 + k, none⟩ = some (.int .i64 y) ∧ u2.cell? ⟨b1, o1 + k, none⟩ = some (.int .i64 a) ∧ u2.cell? ⟨b2, o2 + k, none⟩ = some (.int .i64 c) ∧ u2.cell? ⟨b3, o3 + k, none⟩ = some (.int .i64 z) ∧ Hid (Below w0.heap.size w0 u2) ∧ Hid (Below wo.heap.size wo u2)) from fun u1 u2 h4 h5 => by
        have h7 := Lib.hid (below_ext h4.1.out h5)
        have h8 := Lib.hid (below_ext h4.2.out h5)
        obtain ⟨y0, y1, y2, y3, y4, y5⟩ := kC.out _ h7
        exact ⟨y0, y1, y2, y3, y4, y5, cell_below HJ0.out h8.out, cell_below HJ1.out h8.out, cell_below HJ2.out h8.out, cell_below HJ3.out h8.out, h7, h8⟩)
      have HDR : Hid (Below wo.heap.size wo wo) := Lib.hid (Below.refl _ _)
      clear hi0 hi1 hi2 hi3
      cases t with
      | false =>
        have htn : ((a : Int) != V) = true := HTN.out
        clear HTN
        go_wp2
        go_region_held3 (fun w' => w'.cell? ⟨w.heap.size, 0, none⟩ = some (.int .i64 P) ∧ w'.cell? ⟨w.heap.size, 1, none⟩ = some (.int .i64 Q) ∧ w'.cell? ⟨w.heap.size, 2, none⟩ = some (.int .i64 G) ∧ w'.cell? ⟨w.heap.size + 1, 0, none⟩ = some (.slice (some ⟨b1, o1, none⟩) n ca) ∧ w'.cell? ⟨w.heap.size + 1, 1, none⟩ = some (.slice (some ⟨b2, o2, none⟩) n cc) ∧ w'.cell? ⟨w.heap.size + 1, 2, none⟩ = some (.slice (some ⟨b3, o3, none⟩) n cz) ∧ w'.cell? ⟨b0, o0 + k, none⟩ = some (.int .i64 y) ∧ w'.cell? ⟨b1, o1 + k, none⟩ = some (.int .i64 a) ∧ w'.cell? ⟨b2, o2 + k, none⟩ = some (.int .i64 c) ∧ w'.cell? ⟨b3, o3 + k, none⟩ = some (.int .i64 z) ∧ Hid (Below w0.heap.size w0 w') ∧ Hid (Below wo.heap.size wo w'))
          (first | exact hS.out _ _ ⟨HBr, HDR⟩ (Below.refl _ _).drew | (go_split_ands; exact hS.out _ _ ⟨by assumption, by assumption⟩ hbA) | go_keep)
          ((first | (go_at_call 43; (with_reducible refine (rcom19_ok P Q G b y c z V HVV hg hb HMY HSC HSZ _).mono ?_); rintro e9 wA ⟨rfl, hbA⟩)))
        rename_i hHeld
        obtain ⟨x0, x1, x2, x3, x4, x5, x6, x7, x8, x9, HBF, _⟩ := hHeld
        clear x0 x1 x2 x3 x4 x5 x6 x7 x8 x9
        obtain rfl : r = false := HST.out.trans (by simp)
        have hbF := below_ext HBw.out HBF.out
        go_wp2
        go_ret
        exact ⟨rfl, hbF⟩
      | true =>
        have htn : ((a : Int) != V) = false := HTN.out
        clear HTN
        go_wp2
        go_region_held3 (fun w' => w'.cell? ⟨w.heap.size, 0, none⟩ = some (.int .i64 P) ∧ w'.cell? ⟨w.heap.size, 1, none⟩ = some (.int .i64 Q) ∧ w'.cell? ⟨w.heap.size, 2, none⟩ = some (.int .i64 G) ∧ w'.cell? ⟨w.heap.size + 1, 0, none⟩ = some (.slice (some ⟨b1, o1, none⟩) n ca) ∧ w'.cell? ⟨w.heap.size + 1, 1, none⟩ = some (.slice (some ⟨b2, o2, none⟩) n cc) ∧ w'.cell? ⟨w.heap.size + 1, 2, none⟩ = some (.slice (some ⟨b3, o3, none⟩) n cz) ∧ w'.cell? ⟨b0, o0 + k, none⟩ = some (.int .i64 y) ∧ w'.cell? ⟨b1, o1 + k, none⟩ = some (.int .i64 a) ∧ w'.cell? ⟨b2, o2 + k, none⟩ = some (.int .i64 c) ∧ w'.cell? ⟨b3, o3 + k, none⟩ = some (.int .i64 z) ∧ Hid (Below w0.heap.size w0 w') ∧ Hid (Below wo.heap.size wo w'))
          (first | exact hS.out _ _ ⟨HBr, HDR⟩ (Below.refl _ _).drew | (go_split_ands; exact hS.out _ _ ⟨by assumption, by assumption⟩ hbA) | go_keep)
          ((first | (go_at_call 43; (with_reducible refine (rcom19_ok P Q G b y c z V HVV hg hb HMY HSC HSZ _).mono ?_); rintro e9 wA ⟨rfl, hbA⟩)))
        rename_i hHeld
        obtain ⟨x0, x1, x2, x3, x4, x5, x6, x7, x8, x9, HBF, _⟩ := hHeld
        clear x0 x1 x2 x3 x4 x5 x6 x7 x8 x9
        have HR2 : Hid (accL P Q b ys al cl zl n (k + 1) = r) := Lib.hid (by have := HST.out; simpa using this.symm)
        go_wp2
        go_roundw
        case rel => exact ⟨k + 1, by omega, by go_num, HR2, HBF⟩
        case measure => simp [intOf]; omega
    · obtain rfl : k = n := by omega
      obtain rfl : r = true := HR.out.symm.trans accL_end
      have hbF := below_ext HBw.out HBr.out
      clear HR hlt
      go_wp2
      go_ret
      exact ⟨rfl, hbF⟩
/-- the two texts agree. -/
theorem checkC_ref {P Q G b : Int} {ys : List Int} {c : Int} {al cl zl : List Int} : checkC P Q G b ys c al cl zl = ((givC P Q G b ys == 0) && (formB P Q ys.length al cl zl && ((sumL Q 0 cl == c) && accL P Q b ys al cl zl ys.length 0))) := by
  unfold checkC accB
  cases hg : givC P Q G b ys == 0 with
  | false => rfl
  | true =>
    have hg0 : givC P Q G b ys = 0 := by simpa using hg
    obtain ⟨hp2, hp, hq3, hqp⟩ := validG_P (givC_0 hg0).1
    cases hf : formB P Q ys.length al cl zl with
    | false => simp
    | true =>
      cases hs : sumL Q 0 cl == c with
      | false => simp
      | true =>
        have e : sumL Q 0 cl = c := by simpa using hs
        obtain ⟨s0, s1⟩ := sumL_in (Q := Q) (by omega) cl 0 (by omega) (by omega)
        have : scB Q c = true := by rw [← e]; simp [scB, s0, s1]
        rw [this]
        simp
set_option maxHeartbeats 12800000 in
theorem rccheck_any (P Q G b : Int) (Y : Option Addr) (ys : List Int) (yn yc : Nat) (c : Int) (A : Option Addr) (al : List Int) (na ca : Nat) (C : Option Addr) (cl : List Int) (nc cc : Nat) (Z : Option Addr) (zl : List Int) (nz cz : Nat) (r : Bool) (hr : Hid (checkC P Q G b ys c al cl zl = r)) (hyn : Hid (ys.length = yn)) (hyb : yn < 1000) (han : Hid (al.length = na)) (hcn : Hid (cl.length = nc)) (hzn : Hid (zl.length = nz)) (hna : na < 1000000) (hnc : nc < 1000000) (hnz : nz < 1000000) (hQ : Q < 9223372036854775808)
    (w : World) (hY : Hid (Sl w Y ys)) (hA : Hid (Sl w A al)) (hC : Hid (Sl w C cl)) (hZ : Hid (Sl w Z zl)) :
    Calls Tryd.prog 32 #[gv P Q G, .int .i64 b, .slice Y yn yc, .int .i64 c, choV A na ca C nc cc Z nz cz] w fun e' w' => e' = .returned (.bool r) ∧ Below w.heap.size w w' := by
  obtain ⟨g, hg⟩ : ∃ g, givC P Q G b ys = g := ⟨_, rfl⟩
  obtain ⟨fb, hfb⟩ : ∃ x, formB P Q yn al cl zl = x := ⟨_, rfl⟩
  obtain ⟨V, hV⟩ : ∃ x, sumL Q 0 cl = x := ⟨_, rfl⟩
  obtain ⟨t, ht⟩ : ∃ x, (V == c) = x := ⟨_, rfl⟩
  obtain ⟨ab, hab⟩ : ∃ x, accL P Q b ys al cl zl yn 0 = x := ⟨_, rfl⟩
  have HG := Lib.hid hg
  have HFB := Lib.hid hfb
  have HAB := Lib.hid hab
  have HSV := Lib.hid hV
  have HTT := Lib.hid ht
  have HRR : Hid (((g == 0) && (fb && (t && ab))) = r) := Lib.hid (by rw [← hr.out, checkC_ref, hyn.out, hg, hfb, hV, ht, hab])
  clear hg hfb hab hV ht
  obtain ⟨w0, hW⟩ : ∃ W, ((w.alloc (gObj P Q G)).alloc (choO A na ca C nc cc Z nz cz)) = W := ⟨_, rfl⟩
  have HBw : Hid (Below w.heap.size w w0) := Lib.hid (by rw [← hW]; exact below_two (Below.refl _ _))
  have hc : w0.cell? ⟨w.heap.size, 0, none⟩ = some (.int .i64 P) ∧ w0.cell? ⟨w.heap.size, 1, none⟩ = some (.int .i64 Q) ∧ w0.cell? ⟨w.heap.size, 2, none⟩ = some (.int .i64 G) ∧ w0.cell? ⟨w.heap.size + 1, 0, none⟩ = some (.slice A na ca) ∧ w0.cell? ⟨w.heap.size + 1, 1, none⟩ = some (.slice C nc cc) ∧ w0.cell? ⟨w.heap.size + 1, 2, none⟩ = some (.slice Z nz cz) := by rw [← hW]; exact ⟨cell_below (allocs_cell (by simp) (by rfl)) (below_box0 _ _), cell_below (allocs_cell (by simp) (by rfl)) (below_box0 _ _), cell_below (allocs_cell (by simp) (by rfl)) (below_box0 _ _), allocs_cell (by simp) (by rfl), allocs_cell (by simp) (by rfl), allocs_cell (by simp) (by rfl)⟩
  have kC := Lib.hid (show ∀ u : World, Hid (Below w0.heap.size w0 u) → u.cell? ⟨w.heap.size, 0, none⟩ = some (.int .i64 P) ∧ u.cell? ⟨w.heap.size, 1, none⟩ = some (.int .i64 Q) ∧ u.cell? ⟨w.heap.size, 2, none⟩ = some (.int .i64 G) ∧ u.cell? ⟨w.heap.size + 1, 0, none⟩ = some (.slice A na ca) ∧ u.cell? ⟨w.heap.size + 1, 1, none⟩ = some (.slice C nc cc) ∧ u.cell? ⟨w.heap.size + 1, 2, none⟩ = some (.slice Z nz cz) from fun u h => ⟨cell_below hc.1 h.out, cell_below hc.2.1 h.out, cell_below hc.2.2.1 h.out, cell_below hc.2.2.2.1 h.out, cell_below hc.2.2.2.2.1 h.out, cell_below hc.2.2.2.2.2 h.out⟩)
  have kY := Lib.hid (show ∀ u : World, Hid (Below w0.heap.size w0 u) → Hid (Sl u Y ys) from fun u h => Lib.hid ((hY.out.below) (below_ext HBw.out h.out)))
  have kA := Lib.hid (show ∀ u : World, Hid (Below w0.heap.size w0 u) → Hid (Sl u A al) from fun u h => Lib.hid ((hA.out.below) (below_ext HBw.out h.out)))
  have kCl := Lib.hid (show ∀ u : World, Hid (Below w0.heap.size w0 u) → Hid (Sl u C cl) from fun u h => Lib.hid ((hC.out.below) (below_ext HBw.out h.out)))
  have kZ := Lib.hid (show ∀ u : World, Hid (Below w0.heap.size w0 u) → Hid (Sl u Z zl) from fun u h => Lib.hid ((hZ.out.below) (below_ext HBw.out h.out)))
  have HB_0 : Hid (Below w0.heap.size w0 w0) := Lib.hid (Below.refl _ _)
  have HW := Lib.hid hW
  clear hW hc hY hA hC hZ
  go_enter Tryd.func32, Tryd.ntmps32
  go_wp2_with fail
  rw [HW.out]
  obtain ⟨zc0, zc1, zc2, zc3, zc4, zc5⟩ := kC.out _ HB_0
  go_wp2_with fail
  refine (rfirst_any P Q G b Y ys yn yc g HG hyn (by omega) hQ _ (kY.out _ HB_0)).mono ?_
  rintro e w1 ⟨rfl, hb0⟩
  have HB_1 := Lib.hid (below_ext HB_0.out hb0)
  clear zc0 zc1 zc2 zc3 zc4 zc5
  clear hb0
  obtain ⟨zc0, zc1, zc2, zc3, zc4, zc5⟩ := kC.out _ HB_1
  cases hgz : g == 0 with
  | false =>
    obtain rfl : r = false := HRR.out.symm.trans (by rw [hgz]; rfl)
    have hbF := below_ext HBw.out HB_1.out
    go_wp2
    go_ret
    exact ⟨rfl, hbF⟩
  | true =>
    obtain rfl : g = 0 := by simpa using hgz
    obtain ⟨g1, g2, g3, g4, g5⟩ := givC_0 HG.out
    obtain ⟨hp2, hp, hq3, hqp⟩ := validG_P g1
    have HVG := Lib.hid g1
    have HMB := Lib.hid g4
    have HMY := Lib.hid g5
    clear g1 g2 g3 g4 g5 hgz
    go_wp2_with fail
    refine (rformed_any P Q G yn A al na ca C cl nc cc Z zl nz cz fb HFB HVG han hcn hzn hna hnc hnz hyb _ (kA.out _ HB_1) (kCl.out _ HB_1) (kZ.out _ HB_1)).mono ?_
    rintro e w2 ⟨rfl, hb0⟩
    have HB_2 := Lib.hid (below_ext HB_1.out hb0)
    clear zc0 zc1 zc2 zc3 zc4 zc5
    clear hb0
    obtain ⟨zc0, zc1, zc2, zc3, zc4, zc5⟩ := kC.out _ HB_2
    cases fb with
    | false =>
      obtain rfl : r = false := HRR.out.symm.trans (by simp)
      have hbF := below_ext HBw.out HB_2.out
      go_wp2
      go_ret
      exact ⟨rfl, hbF⟩
    | true =>
      obtain ⟨f1, f2, f3, f4, f5, f6⟩ := formB_parts HFB.out
      have HCS := Lib.hid f5
      have HZS := Lib.hid f6
      obtain rfl : yn = na := f1.symm.trans han.out
      obtain rfl : yn = nc := f2.symm.trans hcn.out
      obtain rfl : yn = nz := f3.symm.trans hzn.out
      clear f1 f2 f3 f4 f5 f6
      go_wp2_with fail
      refine (rsum19_ok P Q G C cl yn cc V HSV hcn (by omega) HCS (by omega) (by omega) _ (kCl.out _ HB_2)).mono ?_
      rintro e w3 ⟨rfl, hb0⟩
      have HB_3 := Lib.hid (below_ext HB_2.out hb0)
      clear zc0 zc1 zc2 zc3 zc4 zc5
      clear hb0
      obtain ⟨zc0, zc1, zc2, zc3, zc4, zc5⟩ := kC.out _ HB_3
      cases t with
      | false =>
        have htt := HTT.out
        obtain rfl : r = false := HRR.out.symm.trans (by simp)
        have hbF := below_ext HBw.out HB_3.out
        go_wp2
        go_ret
        exact ⟨rfl, hbF⟩
      | true =>
        have htt := HTT.out
        go_wp2_with fail
        refine (racc19_any P Q G b Y ys yn yc A al ca C cl cc Z zl cz ab HAB HVG HMB HMY HCS HZS hyn han hcn hzn (by omega) _ (kY.out _ HB_3) (kA.out _ HB_3) (kCl.out _ HB_3) (kZ.out _ HB_3)).mono ?_
        rintro e w4 ⟨rfl, hb0⟩
        have HB_4 := Lib.hid (below_ext HB_3.out hb0)
        clear zc0 zc1 zc2 zc3 zc4 zc5
        clear hb0
        obtain ⟨zc0, zc1, zc2, zc3, zc4, zc5⟩ := kC.out _ HB_4
        obtain rfl : r = ab := HRR.out.symm.trans (by simp)
        have hbF := below_ext HBw.out HB_4.out
        go_wp2
        go_ret
        exact ⟨rfl, hbF⟩
set_option maxHeartbeats 3200000 in
theorem rsame19_any (A : Option Addr) (xs : List Int) (n c : Nat) (B : Option Addr) (ys : List Int) (d : Nat) (r : Bool) (hr : Hid (sameB xs ys = r)) (hn : Hid (xs.length = n)) (hm : Hid (ys.length = n)) (hbig : n < 1000000) (w : World) (hA : Hid (Sl w A xs)) (hB : Hid (Sl w B ys)) :
    Calls Tryd.prog 84 #[.slice A n c, .slice B n d] w fun e' w' => e' = .returned (.bool r) ∧ Below w.heap.size w w' := by
  go_enter Tryd.func84, Tryd.ntmps84
  go_wp2
  go_loopw [5] (fun i wr => ∃ k : Nat, k ≤ n ∧ i = .int .i64 k ∧ Hid (sameB (xs.drop k) (ys.drop k) = r) ∧ Hid (Below w.heap.size w wr)) (fun i _ => n - (intOf i).toNat)
  case atStart => exact ⟨0, by omega, rfl, Lib.hid (by rw [List.drop_zero, List.drop_zero]; exact hr.out), Lib.hid (Below.refl _ _)⟩
  case round =>
    obtain ⟨k, hk, rfl, HR, HBr⟩ := hrel
    by_cases hlt : k < n
    · have hkl : k < xs.length := by rw [hn.out]; exact hlt
      have hkm : k < ys.length := by rw [hm.out]; exact hlt
      obtain ⟨b, o, hA', hi⟩ := hA.out.below HBr.out k hkl
      obtain ⟨b2, o2, hB', hi2⟩ := hB.out.below HBr.out k hkm
      subst hA'
      subst hB'
      have hst := sameB_step hkl hkm
      obtain ⟨x, hx⟩ : ∃ x, xs.getD k 0 = x := ⟨_, rfl⟩
      obtain ⟨y, hy⟩ : ∃ x, ys.getD k 0 = x := ⟨_, rfl⟩
      rw [hx, hy] at hst
      rw [hx] at hi
      rw [hy] at hi2
      have HB2 := Lib.hid (fun q => below_drawN HBr.out q)
      cases hxy : x == y with
      | false =>
        obtain rfl : r = false := by rw [← HR.out, hst, hxy, Bool.false_and]
        have hne : ((x : Int) != y) = true := by rw [bne, hxy]; rfl
        clear hx hy hst HR hkl hkm
        go_wp2
        go_quiet (fail)
        go_wp2
        go_ret
        exact ⟨rfl, HB2.out _⟩
      | true =>
        have HR2 : Hid (sameB (xs.drop (k + 1)) (ys.drop (k + 1)) = r) := Lib.hid (by rw [← HR.out, hst, hxy, Bool.true_and])
        have hne : ((x : Int) != y) = false := by rw [bne, hxy]; rfl
        clear hx hy hst HR hkl hkm
        go_wp2
        go_quiet (fail)
        go_wp2
        go_roundw
        case rel => exact ⟨k + 1, by omega, by go_num, HR2, Lib.hid (HB2.out _)⟩
        case measure => simp [intOf]; omega
    · obtain rfl : k = n := by omega
      obtain rfl : r = true := by rw [← HR.out, ← hn.out, List.drop_length]; rfl
      have hbF := HBr.out
      clear HR hlt
      go_wp2
      go_ret
      exact ⟨rfl, hbF⟩
end Go.Proofs.YtijedphpcocfnaaDoor
namespace Go.Proofs.YtijedphpcocfnaaDoor
open Go.RowKit SpM
set_option linter.unusedVariables false
set_option linter.unusedSimpArgs false
set_option maxRecDepth 100000
def PrBox (w : World) (a : Nat) (x y z : Value) : Prop := w.cell? ⟨a, 0, none⟩ = some x ∧ w.cell? ⟨a, 1, none⟩ = some y ∧ w.cell? ⟨a, 2, none⟩ = some z
theorem PrBox.below {w w' : World} {a : Nat} {x y z : Value} (h : PrBox w a x y z) (hb : Below w.heap.size w w') : PrBox w' a x y z :=
  ⟨cell_below h.1 hb, cell_below h.2.1 hb, cell_below h.2.2 hb⟩
end Go.Proofs.YtijedphpcocfnaaDoor
namespace Go.Proofs.YtijedphpcocfnaaDoor
open Go.RowKit SpM
set_option linter.unusedVariables false
set_option linter.unusedSimpArgs false
set_option maxRecDepth 100000
/-- the relation of the example, laid from block s on. -/
def ex17R (s : Nat) : List Row := [⟨some ⟨s + 1 + 1, 0, none⟩, 1, 1, [2]⟩, ⟨some ⟨s + 1 + 1 + 1, 0, none⟩, 1, 1, [4]⟩]
def Ex17 (w : World) (s : Nat) : Prop := GBox w s 23 11 4 ∧ Sl w (some ⟨s + 1, 0, none⟩) [8, 18] ∧ Rw w (some ⟨s + 1 + 1 + 1 + 1, 0, none⟩) (ex17R s) ∧ RBox w (s + 1 + 1 + 1 + 1 + 1) (.slice (some ⟨s + 1, 0, none⟩) 2 2) (.slice (some ⟨s + 1 + 1 + 1 + 1, 0, none⟩) 2 2)
theorem Ex17.below {w w' : World} {s : Nat} (h : Ex17 w s) (hb : Below w.heap.size w w') : Ex17 w' s := ⟨h.1.below hb, h.2.1.below hb, h.2.2.1.below hb, h.2.2.2.below hb⟩
end Go.Proofs.YtijedphpcocfnaaDoor
namespace Go.Proofs.YtijedphpcocfnaaDoor
open Go.RowKit SpM
set_option linter.unusedVariables false
set_option linter.unusedSimpArgs false
set_option maxRecDepth 100000
theorem sameB_refl (xs : List Int) : sameB xs xs = true := by rw [sameB_beq rfl]; simp
theorem below_set3' {B a : Nat} {w w1 : World} (h : Below B w w1) (hB : B ≤ a) (x y z : Value) :
    Below B w (((w1.setCell ⟨a, 0, none⟩ x).setCell ⟨a, 1, none⟩ y).setCell ⟨a, 2, none⟩ z) := ((h.setCell hB _).setCell hB _).setCell hB _
theorem Sl.set {w : World} {A : Option Addr} {xs : List Int} {a : Nat} {j : Nat} {v : Value} (h : Sl w A xs) (hne : ∀ b o, A = some ⟨b, o, none⟩ → 0 < xs.length → b ≠ a) : Sl (w.setCell ⟨a, j, none⟩ v) A xs := fun k hk => by
  obtain ⟨b, o, e, hc⟩ := h k hk
  refine ⟨b, o, e, ?_⟩
  have := hne b o e (by omega)
  rw [World.cell?_setCell_far _ _ _ _ (fun e => this e.symm)]
  exact hc
end Go.Proofs.YtijedphpcocfnaaDoor
namespace Go.Proofs.YtijedphpcocfnaaDoor
open Go.RowKit SpM
set_option linter.unusedVariables false
set_option linter.unusedSimpArgs false
set_option maxRecDepth 100000
/-- cells that the call owns, behind an append to another row. -/
theorem Own.grown {w w1 : World} {row : Option Nat} {p : Addr} {v : Value} (h : Own w p v) (hg : w.grownBy w1 row) (hne : row ≠ some p.block) : Own w1 p v := by
  have hlt := World.block_lt_of_cell? _ _ h.1
  exact ⟨by rw [hg.cell_far _ hlt (Ne.symm hne)]; exact h.1, by rw [hg.frozen_far _ hlt (Ne.symm hne)]; exact h.2⟩
theorem Own.set_ne {w : World} {p q : Addr} {v u : Value} (h : Own w p v) (hne : q ≠ p) : Own (w.setCell q u) p v :=
  ⟨by rw [World.cell?_setCell_other _ _ _ _ hne]; exact h.1, by rw [World.frozen?_setCell]; exact h.2⟩
theorem Own.set_eq {w : World} {p : Addr} {v u : Value} (h : Own w p v) : Own (w.setCell p u) p u :=
  ⟨World.cell?_setCell_same _ _ _ h.1, by rw [World.frozen?_setCell]; exact h.2⟩
theorem grown_set (w : World) (a j : Nat) (v : Value) : w.grownBy (w.setCell ⟨a, j, none⟩ v) (some a) :=
  ⟨rfl, rfl, rfl, by simp [World.setCell], fun k hk hne => by
    have : a ≠ k := fun e => hne (by rw [e])
    simp [World.setCell, Array.getElem?_modify, this]⟩
theorem OwnL.set {w : World} {B a j : Nat} {v u : Value} {xs : List Int} (h : OwnL w B v xs) (hne : v.ownBlock ≠ some a) : OwnL (w.setCell ⟨a, j, none⟩ u) B v xs :=
  World.ownsRow.kept h (grown_set w a j u) (Or.inr hne)
theorem OwnL.no {w : World} {B a : Nat} {v : Value} {xs : List Int} (h : OwnL w B v xs) (ha : a < B) : v.ownBlock ≠ some a := fun e => by
  have := (World.ownsRow.lt h _ e).1
  omega
/-- a proof that the call builds. -/
def PB (w : World) (a : Nat) (x y z : Value) : Prop := Own w ⟨a, 0, none⟩ x ∧ Own w ⟨a, 1, none⟩ y ∧ Own w ⟨a, 2, none⟩ z
theorem PB.below {w w' : World} {a : Nat} {x y z : Value} (h : PB w a x y z) (hb : Below w.heap.size w w') : PB w' a x y z := ⟨h.1.below hb, h.2.1.below hb, h.2.2.below hb⟩
theorem PB.grown {w w1 : World} {row : Option Nat} {a : Nat} {x y z : Value} (h : PB w a x y z) (hg : w.grownBy w1 row) (hne : row ≠ some a) : PB w1 a x y z := ⟨h.1.grown hg hne, h.2.1.grown hg hne, h.2.2.grown hg hne⟩
theorem PB.set0 {w : World} {a : Nat} {x y z u : Value} (h : PB w a x y z) : PB (w.setCell ⟨a, 0, none⟩ u) a u y z := ⟨h.1.set_eq, h.2.1.set_ne (by simp), h.2.2.set_ne (by simp)⟩
theorem Sl.grown {w w1 : World} {row : Option Nat} {A : Option Addr} {xs : List Int} (h : Sl w A xs) (hg : w.grownBy w1 row) (hne : ∀ b o, A = some ⟨b, o, none⟩ → 0 < xs.length → row ≠ some b) : Sl w1 A xs := fun k hk => by
  obtain ⟨b, o, e, hc⟩ := h k hk
  refine ⟨b, o, e, ?_⟩
  have hlt := World.block_lt_of_cell? _ _ hc
  rw [hg.cell_far _ hlt (Ne.symm (hne b o e (by omega)))]
  exact hc
end Go.Proofs.YtijedphpcocfnaaDoor
namespace Go.Proofs.YtijedphpcocfnaaDoor
open Go.RowKit SpM
set_option linter.unusedVariables false
set_option linter.unusedSimpArgs false
set_option maxRecDepth 100000
/-- the commitments. -/
def comK (P Q b : Int) (ys cl zl : List Int) (k : Nat) : List Int := (List.range k).map fun i => comF P Q b (ys.getD i 0) (cl.getD i 0) (zl.getD i 0)
theorem comK_length (P Q b : Int) (ys cl zl : List Int) (k : Nat) : (comK P Q b ys cl zl k).length = k := by simp [comK]
theorem comK_succ (P Q b : Int) (ys cl zl : List Int) (k : Nat) : comK P Q b ys cl zl (k + 1) = comK P Q b ys cl zl k ++ [comF P Q b (ys.getD k 0) (cl.getD k 0) (zl.getD k 0)] := by
  simp [comK, List.range_succ]
/-- a choice that reads so. -/
def ChoiceOut (al cl zl : List Int) (n : Nat) (w : World) (e : Ending) (w' : World) : Prop :=
  ∃ A a C c Z z, e = .returned (.tuple #[choV A n a C n c Z n z, .int .i64 0]) ∧ Sl w' A al ∧ Sl w' C cl ∧ Sl w' Z zl ∧ Below w.heap.size w w'
set_option maxHeartbeats 25600000 in
theorem csim_ok (P Q G b : Int) (Y : Option Addr) (ys : List Int) (n yc : Nat) (C : Option Addr) (cl : List Int) (cc : Nat) (Z : Option Addr) (zl : List Int) (cz : Nat) (hg : Hid (givC P Q G b ys = 0)) (HSC : Hid (cl.all (scB Q) = true)) (HSZ : Hid (zl.all (scB Q) = true)) (hyn : Hid (ys.length = n)) (hcn : Hid (cl.length = n)) (hzn : Hid (zl.length = n)) (hQ : Q < 9223372036854775808) (w : World) (hv : Hid (Vars w)) (hY : Hid (Sl w Y ys)) (hC : Hid (Sl w C cl)) (hZ : Hid (Sl w Z zl)) :
    Calls Tryd.prog 40 #[gv P Q G, .int .i64 b, .slice Y n yc, .slice C n cc, .slice Z n cz] w (ChoiceOut (comK P Q b ys cl zl n) cl zl n w) := by
  obtain ⟨i0, hi, hz0, hz1, hz2⟩ := info_parts intInfo
  obtain ⟨g1, g2, g3, g4, g5⟩ := givC_0 hg.out
  obtain ⟨hp2, hp, hq3, hqp⟩ := validG_P g1
  rw [hyn.out] at g2 g3
  have HVG := Lib.hid g1
  have HMB := Lib.hid g4
  have HMY := Lib.hid g5
  have enn : ((n : Int) != (n : Int)) = false := by simp
  have HCY : Hid ((cl.any fun x => !scB Q x) = false) := Lib.hid (by rw [any_not_all, HSC.out]; rfl)
  have HCZ : Hid ((zl.any fun x => !scB Q x) = false) := Lib.hid (by rw [any_not_all, HSZ.out]; rfl)
  clear g1 g4 g5
  obtain ⟨w0, hW⟩ : ∃ W, ((w.alloc (gObj P Q G)).alloc (choO none 0 0 none 0 0 none 0 0)) = W := ⟨_, rfl⟩
  have HBw : Hid (Below w.heap.size w w0) := Lib.hid (by rw [← hW]; exact below_two (Below.refl _ _))
  have hc : w0.cell? ⟨w.heap.size, 0, none⟩ = some (.int .i64 P) ∧ w0.cell? ⟨w.heap.size, 1, none⟩ = some (.int .i64 Q) ∧ w0.cell? ⟨w.heap.size, 2, none⟩ = some (.int .i64 G) ∧ Own w0 ⟨w.heap.size + 1, 0, none⟩ (.slice none 0 0) ∧ Own w0 ⟨w.heap.size + 1, 1, none⟩ (.slice none 0 0) ∧ Own w0 ⟨w.heap.size + 1, 2, none⟩ (.slice none 0 0) := by rw [← hW]; exact ⟨cell_below (allocs_cell (by simp) (by rfl)) (below_box0 _ _), cell_below (allocs_cell (by simp) (by rfl)) (below_box0 _ _), cell_below (allocs_cell (by simp) (by rfl)) (below_box0 _ _), allocs_own (by simp) (by rfl), allocs_own (by simp) (by rfl), allocs_own (by simp) (by rfl)⟩
  have kC := Lib.hid (show ∀ u : World, Hid (Below w0.heap.size w0 u) → u.cell? ⟨w.heap.size, 0, none⟩ = some (.int .i64 P) ∧ u.cell? ⟨w.heap.size, 1, none⟩ = some (.int .i64 Q) ∧ u.cell? ⟨w.heap.size, 2, none⟩ = some (.int .i64 G) ∧ Own u ⟨w.heap.size + 1, 0, none⟩ (.slice none 0 0) ∧ Own u ⟨w.heap.size + 1, 1, none⟩ (.slice none 0 0) ∧ Own u ⟨w.heap.size + 1, 2, none⟩ (.slice none 0 0) from fun u h => ⟨cell_below hc.1 h.out, cell_below hc.2.1 h.out, cell_below hc.2.2.1 h.out, (hc.2.2.2.1).below h.out, (hc.2.2.2.2.1).below h.out, (hc.2.2.2.2.2).below h.out⟩)
  have kV := Lib.hid (show ∀ u : World, Hid (Below w0.heap.size w0 u) → Hid (Vars u) from fun u h => Lib.hid ((hv.out.below) (below_ext HBw.out h.out)))
  have kY := Lib.hid (show ∀ u : World, Hid (Below w0.heap.size w0 u) → Hid (Sl u Y ys) from fun u h => Lib.hid ((hY.out.below) (below_ext HBw.out h.out)))
  have kCl := Lib.hid (show ∀ u : World, Hid (Below w0.heap.size w0 u) → Hid (Sl u C cl) from fun u h => Lib.hid ((hC.out.below) (below_ext HBw.out h.out)))
  have kZ := Lib.hid (show ∀ u : World, Hid (Below w0.heap.size w0 u) → Hid (Sl u Z zl) from fun u h => Lib.hid ((hZ.out.below) (below_ext HBw.out h.out)))
  have HB_0 : Hid (Below w0.heap.size w0 w0) := Lib.hid (Below.refl _ _)
  have HW := Lib.hid hW
  clear hW hc hv hY hC hZ
  go_enter Tryd.func40, Tryd.ntmps40
  go_wp2_with fail
  rw [HW.out]
  obtain ⟨zc0, zc1, zc2, ⟨zc3, zf3⟩, ⟨zc4, zf4⟩, ⟨zc5, zf5⟩⟩ := kC.out _ HB_0
  go_wp2_with fail
  refine (cgiven_any P Q G b Y ys n yc 0 hg hyn (by omega) hQ _ (kV.out _ HB_0) (kY.out _ HB_0)).mono ?_
  rintro e w1 ⟨rfl, hb0⟩
  have HB_1 := Lib.hid (below_ext HB_0.out hb0)
  clear zc0 zc1 zc2 zc3 zf3 zc4 zf4 zc5 zf5
  clear hb0
  obtain ⟨zc0, zc1, zc2, ⟨zc3, zf3⟩, ⟨zc4, zf4⟩, ⟨zc5, zf5⟩⟩ := kC.out _ HB_1
  have HSY := Lib.hid (says_csi P Q G w.heap.size _ (Lib.hid (show GBox w1 w.heap.size P Q G from ⟨(kC.out _ HB_1).1, (kC.out _ HB_1).2.1, (kC.out _ HB_1).2.2.1⟩)))
  go_wp2_with fail
  refine (cf_csi (.pointer (some ⟨w.heap.size, 0, none⟩)) (fun x => !scB Q x) false C cl n cc HCY hcn (Lib.hid (by omega)) _ (kCl.out _ HB_1) HSY).mono ?_
  rintro e w2 ⟨rfl, hb0⟩
  have HB_2 := Lib.hid (below_ext HB_1.out hb0)
  clear zc0 zc1 zc2 zc3 zf3 zc4 zf4 zc5 zf5
  clear hb0
  obtain ⟨zc0, zc1, zc2, ⟨zc3, zf3⟩, ⟨zc4, zf4⟩, ⟨zc5, zf5⟩⟩ := kC.out _ HB_2
  have HSW := Lib.hid (says_csi P Q G w.heap.size _ (Lib.hid (show GBox w2 w.heap.size P Q G from ⟨(kC.out _ HB_2).1, (kC.out _ HB_2).2.1, (kC.out _ HB_2).2.2.1⟩)))
  go_wp2_with fail
  refine (cf_csi (.pointer (some ⟨w.heap.size, 0, none⟩)) (fun x => !scB Q x) false Z zl n cz HCZ hzn (Lib.hid (by omega)) _ (kZ.out _ HB_2) HSW).mono ?_
  rintro e w3 ⟨rfl, hb0⟩
  have HB_3 := Lib.hid (below_ext HB_2.out hb0)
  clear zc0 zc1 zc2 zc3 zf3 zc4 zf4 zc5 zf5
  clear hb0
  obtain ⟨zc0, zc1, zc2, ⟨zc3, zf3⟩, ⟨zc4, zf4⟩, ⟨zc5, zf5⟩⟩ := kC.out _ HB_3
  have hlt5 : w.heap.size + 1 < w3.heap.size := World.block_lt_of_cell? _ _ zc3
  go_wp2_with fail
  refine (clones_any C cl n cc hcn (by omega) _ (kCl.out _ HB_3)).mono ?_
  rintro e w4 ⟨C2, c2, rfl, hs2, hg2, hb0⟩
  have HB_4 := Lib.hid (below_ext HB_3.out hb0)
  clear zc0 zc1 zc2 zc3 zf3 zc4 zf4 zc5 zf5
  clear hb0
  obtain ⟨zc0, zc1, zc2, ⟨zc3, zf3⟩, ⟨zc4, zf4⟩, ⟨zc5, zf5⟩⟩ := kC.out _ HB_4
  have HB_w4_4 : Hid (Below w4.heap.size w4 w4) := Lib.hid (Below.refl _ _)
  have HS2 := Lib.hid hs2
  have HG2 := Lib.hid hg2
  clear hs2 hg2
  have kC2 := Lib.hid (show ∀ u : World, Hid (Below w4.heap.size w4 u) → Hid (Sl u C2 cl) from fun u h => Lib.hid (HS2.out.below h.out))
  have hlt6 : w.heap.size + 1 < w4.heap.size := World.block_lt_of_cell? _ _ zc3
  go_wp2_with fail
  refine (clones_any Z zl n cz hzn (by omega) _ (kZ.out _ HB_4)).mono ?_
  rintro e w5 ⟨Z2, z2, rfl, hs2, hg2, hb0⟩
  have HB_5 := Lib.hid (below_ext HB_4.out hb0)
  have HB_w4_5 := Lib.hid (below_ext HB_w4_4.out hb0)
  clear zc0 zc1 zc2 zc3 zf3 zc4 zf4 zc5 zf5
  clear hb0
  obtain ⟨zc0, zc1, zc2, ⟨zc3, zf3⟩, ⟨zc4, zf4⟩, ⟨zc5, zf5⟩⟩ := kC.out _ HB_5
  have HB_w5_5 : Hid (Below w5.heap.size w5 w5) := Lib.hid (Below.refl _ _)
  have HS3 := Lib.hid hs2
  have HG3 := Lib.hid hg2
  clear hs2 hg2
  have kZ2 := Lib.hid (show ∀ u : World, Hid (Below w5.heap.size w5 u) → Hid (Sl u Z2 zl) from fun u h => Lib.hid (HS3.out.below h.out))
  clear zc0 zc1 zc2 zc3 zf3 zc4 zf4 zc5 zf5
  have HBKS : Hid (w.heap.size + 1 < w5.heap.size) := Lib.hid (Nat.lt_of_lt_of_le hlt6 (by have := HB_w4_5.out.size; omega))
  obtain ⟨wp, hwp⟩ : ∃ x, w5.alloc (choO none 0 0 C2 n c2 Z2 n z2) = x := ⟨_, rfl⟩
  have HPP : Hid (PB wp w5.heap.size (.slice none 0 0) (.slice C2 n c2) (.slice Z2 n z2)) := Lib.hid (by rw [← hwp]; exact ⟨allocs_own rfl (by rfl), allocs_own rfl (by rfl), allocs_own rfl (by rfl)⟩)
  have HBP : Hid (Below w5.heap.size w5 wp) := Lib.hid (by rw [← hwp]; exact below_box0 _ _)
  have HWP := Lib.hid hwp
  clear hwp
  obtain ⟨a, ha⟩ : ∃ a, w5.heap.size = a := ⟨_, rfl⟩
  have HAA := Lib.hid ha
  go_wp2
  rw [HWP.out]
  rw [ha] at HPP
  clear ha
  go_loopw [59] (fun i wr => ∃ (k : Nat) (v : Value), k ≤ n ∧ i = .int .i64 k ∧ Hid (PB wr a v (.slice C2 n c2) (.slice Z2 n z2)) ∧ Hid (OwnL wr (a + 1) v (comK P Q b ys cl zl k)) ∧ Hid (Below w5.heap.size w5 wr)) (fun i _ => n - (intOf i).toNat)
  case atStart => exact ⟨0, .slice none 0 0, by omega, rfl, HPP, Lib.hid (ownL_nil _ _), HBP⟩
  case round =>
    obtain ⟨k, v, hk, rfl, HPr, HO, HBr⟩ := hrel
    obtain ⟨wo, rfl⟩ : ∃ wo : World, wo = wr := ⟨_, rfl⟩
    have HB0 := Lib.hid (below_ext HB_5.out HBr.out)
    by_cases hlt : k < n
    · have h0 : k < ys.length := by rw [hyn.out]; exact hlt
      have h2 : k < cl.length := by rw [hcn.out]; exact hlt
      have h3 : k < zl.length := by rw [hzn.out]; exact hlt
      obtain ⟨b0, o0, e0, hi0⟩ := (kY.out _ HB0).out k h0
      obtain ⟨b2, o2, e2, hi2⟩ := (kCl.out _ HB0).out k h2
      obtain ⟨b3, o3, e3, hi3⟩ := (kZ.out _ HB0).out k h3
      subst e0
      subst e2
      subst e3
      have HST := Lib.hid (comK_succ P Q b ys cl zl k)
      have HTL : Hid ((comK P Q b ys cl zl k).length = k) := Lib.hid (comK_length _ _ _ _ _ _ _)
      have hmy := all_get HMY.out h0
      have hsc := all_get HSC.out h2
      have hsz := all_get HSZ.out h3
      obtain ⟨y, hy⟩ : ∃ x, ys.getD k 0 = x := ⟨_, rfl⟩
      obtain ⟨c, hc⟩ : ∃ x, cl.getD k 0 = x := ⟨_, rfl⟩
      obtain ⟨z, hz⟩ : ∃ x, zl.getD k 0 = x := ⟨_, rfl⟩
      have hst := HST.out
      rw [hy, hc, hz] at hst
      rw [hy] at hi0 hmy
      rw [hc] at hi2 hsc
      rw [hz] at hi3 hsz
      obtain ⟨V, hV⟩ : ∃ x, comF P Q b y c z = x := ⟨_, rfl⟩
      rw [hV] at hst
      have HVV := Lib.hid hV
      have HMY1 := Lib.hid hmy
      have HSC1 := Lib.hid hsc
      have HSZ1 := Lib.hid hsz
      have HST1 := Lib.hid hst
      have hsz5 : a + 1 ≤ wo.heap.size := by have h5 := World.block_lt_of_cell? _ _ HPr.out.1.1; have h6 : a < wo.heap.size := h5; omega
      have hown : wo.ownsRow (a + 1) 3 1 v k ((comK P Q b ys cl zl k).map (Value.int .i64)) := by
        have h3 := HO.out
        unfold OwnL at h3
        rwa [HTL.out] at h3
      have hno := HO.out.no (show a < a + 1 by omega)
      obtain ⟨a0, f0⟩ := HPr.out.1
      obtain ⟨q0, q1, q2, _, _, _⟩ := kC.out _ HB0
      have hS := Lib.hid (show ∀ u1 : World, Hid (Below wo.drew.heap.size wo.drew u1) → (u1.cell? ⟨a, 0, none⟩ = some v ∧ u1.cell? ⟨w.heap.size, 0, none⟩ = some (.int .i64 P) ∧ u1.cell? ⟨w.heap.size, 1, none⟩ = some (.int .i64 Q) ∧ u1.cell? ⟨w.heap.size, 2, none⟩ = some (.int .i64 G) ∧ u1.cell? ⟨b2, o2 + k, none⟩ = some (.int .i64 c) ∧ u1.cell? ⟨b3, o3 + k, none⟩ = some (.int .i64 z) ∧ Hid (Below wo.drew.heap.size wo.drew u1)) from fun u1 h1 => ⟨cell_below (w := wo.drew) a0 h1.out, cell_below (w := wo.drew) q0 h1.out, cell_below (w := wo.drew) q1 h1.out, cell_below (w := wo.drew) q2 h1.out, cell_below (w := wo.drew) hi2 h1.out, cell_below (w := wo.drew) hi3 h1.out, h1⟩)
      have HVd : Hid (Vars wo.drew) := Lib.hid (kV.out _ HB0).out
      have HOWN := Lib.hid hown
      clear hy hc hz hst hV hmy hsc hsz hown a0 f0 q0 q1 q2 h0 h2 h3 hi2 hi3 HST
      go_wp2
      clear hi0
      refine wp_region_T (S := fun w' => w'.cell? ⟨a, 0, none⟩ = some v ∧ w'.cell? ⟨w.heap.size, 0, none⟩ = some (.int .i64 P) ∧ w'.cell? ⟨w.heap.size, 1, none⟩ = some (.int .i64 Q) ∧ w'.cell? ⟨w.heap.size, 2, none⟩ = some (.int .i64 G) ∧ w'.cell? ⟨b2, o2 + k, none⟩ = some (.int .i64 c) ∧ w'.cell? ⟨b3, o3 + k, none⟩ = some (.int .i64 z) ∧ Hid (Below wo.drew.heap.size wo.drew w')) (E := [15, 16, 17]) (by kernel_rfl) (hS.out _ (Lib.hid (Below.refl _ _))) (fun hHeld => ?_)
      refine wpT_take (i := 0) (oi := _) (v := ?_) rfl (by kernel_rfl) (by kernel_rfl) (by kernel_rfl) (by kernel_rfl) (fun _ _ _ h => h) (Or.inl ⟨by rfl, ?_⟩) (by assumption) ?_
      rotate_left; (intro wS hSw; (try dsimp only at hSw); go_simp <;> with_reducible rfl)
      try simp only [List.getElem_toArray, List.getElem_cons_zero, List.getElem_cons_succ, Act.put, List.setIfInBounds_toArray, List.set_cons_zero, List.set_cons_succ]
      refine wpT_take (i := 1) (oi := _) (v := ?_) rfl (by kernel_rfl) (by kernel_rfl) (by kernel_rfl) (by kernel_rfl) (fun _ _ _ h => h) (Or.inl ⟨by rfl, ?_⟩) (by assumption) ?_
      rotate_left; (intro wS hSw; (try dsimp only at hSw); go_simp <;> with_reducible rfl)
      try simp only [List.getElem_toArray, List.getElem_cons_zero, List.getElem_cons_succ, Act.put, List.setIfInBounds_toArray, List.set_cons_zero, List.set_cons_succ]
      refine wpT_take (i := 2) (oi := _) (v := ?_) rfl (by kernel_rfl) (by kernel_rfl) (by kernel_rfl) (by kernel_rfl) (fun _ _ _ h => h) (Or.inl ⟨by rfl, ?_⟩) (by assumption) ?_
      rotate_left; (intro wS hSw; (try dsimp only at hSw); go_simp <;> with_reducible rfl)
      try simp only [List.getElem_toArray, List.getElem_cons_zero, List.getElem_cons_succ, Act.put, List.setIfInBounds_toArray, List.set_cons_zero, List.set_cons_succ]
      refine wpT_take (i := 3) (oi := _) (v := ?_) rfl (by kernel_rfl) (by kernel_rfl) (by kernel_rfl) (by kernel_rfl) (fun _ _ _ h => h) (Or.inl ⟨by rfl, ?_⟩) (by assumption) ?_
      rotate_left; (intro wS hSw; (try dsimp only at hSw); go_simp <;> with_reducible rfl)
      try simp only [List.getElem_toArray, List.getElem_cons_zero, List.getElem_cons_succ, Act.put, List.setIfInBounds_toArray, List.set_cons_zero, List.set_cons_succ]
      refine wpT_take (i := 4) (oi := _) (v := ?_) rfl (by kernel_rfl) (by kernel_rfl) (by kernel_rfl) (by kernel_rfl) (fun _ _ _ h => h) (Or.inl ⟨by rfl, ?_⟩) (by assumption) ?_
      rotate_left; (intro wS hSw; (try dsimp only at hSw); go_simp <;> with_reducible rfl)
      try simp only [List.getElem_toArray, List.getElem_cons_zero, List.getElem_cons_succ, Act.put, List.setIfInBounds_toArray, List.set_cons_zero, List.set_cons_succ]
      refine wpT_take (i := 5) (oi := _) (v := ?_) rfl (by kernel_rfl) (by kernel_rfl) (by kernel_rfl) (by kernel_rfl) (fun _ _ _ h => h) (Or.inl ⟨by rfl, ?_⟩) (by assumption) ?_
      rotate_left; (intro wS hSw; (try dsimp only at hSw); go_simp <;> with_reducible rfl)
      try simp only [List.getElem_toArray, List.getElem_cons_zero, List.getElem_cons_succ, Act.put, List.setIfInBounds_toArray, List.set_cons_zero, List.set_cons_succ]
      refine wpT_take (i := 6) (oi := _) (v := ?_) rfl (by kernel_rfl) (by kernel_rfl) (by kernel_rfl) (by kernel_rfl) (fun _ _ _ h => h) (Or.inl ⟨by rfl, ?_⟩) (by assumption) ?_
      rotate_left; (intro wS hSw; (try dsimp only at hSw); go_simp <;> with_reducible rfl)
      try simp only [List.getElem_toArray, List.getElem_cons_zero, List.getElem_cons_succ, Act.put, List.setIfInBounds_toArray, List.set_cons_zero, List.set_cons_succ]
      refine wpT_take (i := 7) (oi := _) (v := ?_) rfl (by kernel_rfl) (by kernel_rfl) (by kernel_rfl) (by kernel_rfl) (fun _ _ _ h => h) (Or.inl ⟨by rfl, ?_⟩) (by assumption) ?_
      rotate_left; (intro wS hSw; (try dsimp only at hSw); go_simp <;> with_reducible rfl)
      try simp only [List.getElem_toArray, List.getElem_cons_zero, List.getElem_cons_succ, Act.put, List.setIfInBounds_toArray, List.set_cons_zero, List.set_cons_succ]
      refine wpT_take (i := 8) (oi := _) (v := ?_) rfl (by kernel_rfl) (by kernel_rfl) (by kernel_rfl) (by kernel_rfl) (fun _ _ _ h => h) (Or.inl ⟨by rfl, ?_⟩) (by assumption) ?_
      rotate_left; (intro wS hSw; (try dsimp only at hSw); go_simp <;> with_reducible rfl)
      try simp only [List.getElem_toArray, List.getElem_cons_zero, List.getElem_cons_succ, Act.put, List.setIfInBounds_toArray, List.set_cons_zero, List.set_cons_succ]
      refine wpT_take (i := 9) (oi := _) (v := ?_) rfl (by kernel_rfl) (by kernel_rfl) (by kernel_rfl) (by kernel_rfl) (fun _ _ _ h => h) (Or.inl ⟨by rfl, ?_⟩) (by assumption) ?_
      rotate_left; (intro wS hSw; (try dsimp only at hSw); go_simp <;> with_reducible rfl)
      try simp only [List.getElem_toArray, List.getElem_cons_zero, List.getElem_cons_succ, Act.put, List.setIfInBounds_toArray, List.set_cons_zero, List.set_cons_succ]
      refine wpT_take (i := 10) (oi := _) (v := ?_) rfl (by kernel_rfl) (by kernel_rfl) (by kernel_rfl) (by kernel_rfl) (fun _ _ _ h => h) (Or.inl ⟨by rfl, ?_⟩) (by assumption) ?_
      rotate_left; (intro wS hSw; (try dsimp only at hSw); go_simp <;> with_reducible rfl)
      try simp only [List.getElem_toArray, List.getElem_cons_zero, List.getElem_cons_succ, Act.put, List.setIfInBounds_toArray, List.set_cons_zero, List.set_cons_succ]
      refine wpT_take (i := 11) (oi := _) (v := ?_) rfl (by kernel_rfl) (by kernel_rfl) (by kernel_rfl) (by kernel_rfl) (fun _ _ _ h => h) (Or.inl ⟨by rfl, ?_⟩) (by assumption) ?_
      rotate_left; (intro wS hSw; (try dsimp only at hSw); go_simp <;> with_reducible rfl)
      try simp only [List.getElem_toArray, List.getElem_cons_zero, List.getElem_cons_succ, Act.put, List.setIfInBounds_toArray, List.set_cons_zero, List.set_cons_succ]
      refine wpT_take (i := 12) (oi := _) (v := ?_) rfl (by kernel_rfl) (by kernel_rfl) (by kernel_rfl) (by kernel_rfl) (fun _ _ _ h => h) (Or.inl ⟨by rfl, ?_⟩) (by assumption) ?_
      rotate_left; (intro wS hSw; (try dsimp only at hSw); go_simp <;> with_reducible rfl)
      try simp only [List.getElem_toArray, List.getElem_cons_zero, List.getElem_cons_succ, Act.put, List.setIfInBounds_toArray, List.set_cons_zero, List.set_cons_succ]
      refine wpT_one (i := 13) (by kernel_rfl) rfl (fun K hK => ?_)
      go_simp
      (with_reducible refine (ccommit_ok P Q G b y c z V HVV HVG HMB HMY1 HSC1 HSZ1 _ HVd).mono ?_); rintro e wA ⟨rfl, hbA⟩
      refine hK.out _ _ ?_ (fun hHeld => ?_)
      · exact hS.out _ (Lib.hid hbA)
      clear hK K
      try simp only [List.getElem_toArray, List.getElem_cons_zero, List.getElem_cons_succ, Act.put, List.setIfInBounds_toArray, List.set_cons_zero, List.set_cons_succ]
      have hs7 := hbA.size
      have hs8 : wo.drew.heap.size = wo.heap.size := rfl
      have HOA : Hid (wA.ownsRow (a + 1) 3 1 v k ((comK P Q b ys cl zl k).map (Value.int .i64))) := Lib.hid (by
        have h3 := OwnL.keep (w := wo.drew) HO.out hbA
        unfold OwnL at h3
        rwa [HTL.out] at h3)
      refine wpT_one (i := 14) (by kernel_rfl) rfl (fun K hK => ?_)
      go_simp
      refine hK.out _ _ ?_ (fun hHeld => ?_)
      · exact hS.out _ (Lib.hid (hbA.alloc hbA.size _))
      clear hK K
      try simp only [List.getElem_toArray, List.getElem_cons_zero, List.getElem_cons_succ, Act.put, List.setIfInBounds_toArray, List.set_cons_zero, List.set_cons_succ]
      refine wpT_pass (i := 15) (by kernel_rfl) (by simp) rfl (fun K hK => ?_)
      refine step_append_lies _ (by rfl) _ _ _ (by rfl) (a + 1) 3 i0 _ 1 8 Tryd.underlying24 hi hz0 hz1 hz2 rfl (by omega) v k ((comK P Q b ys cl zl k).map (Value.int .i64)) (by rfl) ((HOA.out.alloc _))
        ⟨wA.heap.size, 0, none⟩ 1 1 [.int .i64 V] (by rfl) (by rfl) (World.news_of_block (cs := #[.int .i64 V]) (t := 3) (fr := (0, 0)) (heap_alloc_new wA _)) (by simp [Value.oneCell'])
        (by omega) (by unfold maxLen; omega) (by omega) (by simp; omega) (wA.heap.size + 1) (by simp) ?_; intro gg cap wz hown1 hgrow hat hlt2
      have HPz := Lib.hid (((PB.below (w := wo.drew) HPr.out hbA).below (below_box0 wA _)).grown hgrow hno)
      obtain ⟨a0, f0⟩ := HPz.out.1
      refine hK.out _ _ ?_
      clear hK K
      try simp only [List.getElem_toArray, List.getElem_cons_zero, List.getElem_cons_succ, Act.put, List.setIfInBounds_toArray, List.set_cons_zero, List.set_cons_succ]
      refine wpT_pass (i := 16) (by kernel_rfl) (by simp) rfl (fun K hK => ?_)
      go_simp
      refine hK.out _ _ ?_
      clear hK K
      try simp only [List.getElem_toArray, List.getElem_cons_zero, List.getElem_cons_succ, Act.put, List.setIfInBounds_toArray, List.set_cons_zero, List.set_cons_succ]
      refine wpT_pass (i := 17) (by kernel_rfl) (by simp) rfl (fun K hK => ?_)
      go_simp
      refine hK.out _ _ ?_
      clear hK K
      try simp only [List.getElem_toArray, List.getElem_cons_zero, List.getElem_cons_succ, Act.put, List.setIfInBounds_toArray, List.set_cons_zero, List.set_cons_succ]
      refine wpT_done (by kernel_rfl) ?_ _
      have HO2 : Hid (OwnL wz (a + 1) (.slice (some ⟨gg, 0, none⟩) (k + 1) cap) (comK P Q b ys cl zl (k + 1))) := Lib.hid (by
        rw [HST1.out]
        exact OwnL.app HTL.out.symm hown1)
      have HO3 := Lib.hid (HO2.out.set (a := a) (j := 0) (u := .slice (some ⟨gg, 0, none⟩) (k + 1) cap) (HO2.out.no (by omega)))
      have HP3 := Lib.hid (HPz.out.set0 (u := .slice (some ⟨gg, 0, none⟩) (k + 1) cap))
      have HB3 : Hid (Below w5.heap.size w5 (wz.setCell ⟨a, 0, none⟩ (.slice (some ⟨gg, 0, none⟩) (k + 1) cap))) := Lib.hid (by
        rw [HAA.out]
        refine Below.setCell ?_ (by simp) _
        have h9 := HBr.out
        rw [HAA.out] at h9
        exact OwnL.below (o := .cells #[.int .i64 V] 3) ((OwnL.keep (w := wo.drew) HO.out hbA).mono (by omega)) (h9.drew.trans (hbA.mono (by omega))) (by omega) (by first | exact hgrow | exact ⟨hgrow.os, hgrow.tape, hgrow.output, hgrow.size, hgrow.block⟩))
      clear hown1 hgrow a0 f0
      go_wp2
      go_roundw
      case rel => exact ⟨k + 1, _, by omega, by go_num, HP3, HO3, HB3⟩
      case measure => simp [intOf]; omega
    · obtain rfl : k = n := by omega
      obtain ⟨ag, acap, hv, hag, hac⟩ := OwnL.cells HO.out (by rw [comK_length]; omega)
      rw [comK_length] at hv
      subst hv
      have HA := Lib.hid (Sl.ofCells hac)
      obtain ⟨⟨e0, f0⟩, ⟨e1, f1⟩, ⟨e2, f2⟩⟩ := HPr.out
      obtain ⟨_, _, _, ⟨g0, i0'⟩, ⟨g1, i1'⟩, ⟨g2', i2'⟩⟩ := kC.out _ HB0
      have HCF := kC2.out _ (Lib.hid (below_ext HB_w4_5.out HBr.out))
      have HZF := kZ2.out _ (Lib.hid (below_ext HB_w5_5.out HBr.out))
      have hbF := below_ext HBw.out HB0.out
      have hsa : w.heap.size + 1 < a := by have h9 := HAA.out; have h8 := HBKS.out; omega
      have hnC : ∀ b o, C2 = some ⟨b, o, none⟩ → 0 < cl.length → b ≠ w.heap.size + 1 := fun b o e hp => by
        obtain ⟨g3, e3, h3⟩ := HG2.out hp
        rw [e] at e3
        cases e3
        omega
      have hnZ : ∀ b o, Z2 = some ⟨b, o, none⟩ → 0 < zl.length → b ≠ w.heap.size + 1 := fun b o e hp => by
        obtain ⟨g3, e3, h3⟩ := HG3.out hp
        rw [e] at e3
        cases e3
        omega
      clear hac hlt HO
      go_wp2
      refine bodyPost_ret (v := .tuple #[choV (some ⟨ag, 0, none⟩) k acap C2 k c2 Z2 k z2, .int .i64 0]) (by simp [results, Tryd.results40, go_sem, e0, e1, e2, g0, g1, g2']) rfl ⟨_, _, _, _, _, _, rfl, ?_, ?_, ?_, below_set3' hbF (by omega) _ _ _⟩
      · exact ((HA.out.set (fun b o e _ => by cases e; omega)).set (fun b o e _ => by cases e; omega)).set (fun b o e _ => by cases e; omega)
      · exact ((HCF.out.set hnC).set hnC).set hnC
      · exact ((HZF.out.set hnZ).set hnZ).set hnZ
end Go.Proofs.YtijedphpcocfnaaDoor
namespace Go.Proofs.YtijedphpcocfnaaDoor
open Go.RowKit SpM
set_option linter.unusedVariables false
set_option linter.unusedSimpArgs false
set_option maxRecDepth 100000
/-- a choice's slices. -/
structure Cho where
  A : Option Addr
  na : Nat
  ca : Nat
  C : Option Addr
  nc : Nat
  cc : Nat
  Z : Option Addr
  nz : Nat
  cz : Nat
abbrev noCho : Cho := ⟨none, 0, 0, none, 0, 0, none, 0, 0⟩
/-- a slice of choices at the head of block b. -/
def CwS (w : World) (b : Nat) (L : List Cho) : Prop := ∀ k, k < L.length → w.cell? ⟨b, k * 3, none⟩ = some (.slice (L.getD k noCho).A (L.getD k noCho).na (L.getD k noCho).ca) ∧ w.cell? ⟨b, k * 3 + 1, none⟩ = some (.slice (L.getD k noCho).C (L.getD k noCho).nc (L.getD k noCho).cc) ∧ w.cell? ⟨b, k * 3 + 2, none⟩ = some (.slice (L.getD k noCho).Z (L.getD k noCho).nz (L.getD k noCho).cz)
theorem CwS.below {w w' : World} {b : Nat} {L : List Cho} (h : CwS w b L) (hb : Below w.heap.size w w') : CwS w' b L := fun k hk => by
  obtain ⟨h1, h2, h3⟩ := h k hk
  exact ⟨cell_below h1 hb, cell_below h2 hb, cell_below h3 hb⟩
/-- is a choice too great? -/
def bigC (x : Cho) : Bool := decide (40 < x.na) || (decide (40 < x.nc) || decide (40 < x.nz))
theorem few19c (A : Option Addr) (na ca : Nat) (C : Option Addr) (nc cc : Nat) (Z : Option Addr) (nz cz : Nat) (r : Bool) (hr : Hid (bigC ⟨A, na, ca, C, nc, cc, Z, nz, cz⟩ = r)) (w : World) :
    Calls Tryd.prog 64 #[choV A na ca C nc cc Z nz cz] w fun e w' => e = .returned (.bool r) ∧ Below w.heap.size w w' := by
  have hb := below_box0 w (choO A na ca C nc cc Z nz cz)
  have hr' := hr.out
  unfold bigC at hr'
  by_cases h1 : 40 < na
  · have d1 : decide ((40 : Int) < (na : Int)) = true := by simp; omega
    obtain rfl : r = true := by rw [← hr']; simp [h1]
    clear hr'
    go_enter Tryd.func64, Tryd.ntmps64
    go_wp2
    go_ret
    exact ⟨rfl, hb⟩
  · have d1 : decide ((40 : Int) < (na : Int)) = false := by simp; omega
    by_cases h2 : 40 < nc
    · have d2 : decide ((40 : Int) < (nc : Int)) = true := by simp; omega
      obtain rfl : r = true := by rw [← hr']; simp [h2]
      clear hr'
      go_enter Tryd.func64, Tryd.ntmps64
      go_wp2
      go_ret
      exact ⟨rfl, hb⟩
    · have d2 : decide ((40 : Int) < (nc : Int)) = false := by simp; omega
      by_cases h3 : 40 < nz
      · have d3 : decide ((40 : Int) < (nz : Int)) = true := by simp; omega
        obtain rfl : r = true := by rw [← hr']; simp [h3]
        clear hr'
        go_enter Tryd.func64, Tryd.ntmps64
        go_wp2
        go_ret
        exact ⟨rfl, hb⟩
      · have d3 : decide ((40 : Int) < (nz : Int)) = false := by simp; omega
        obtain rfl : r = false := by rw [← hr']; simp; omega
        clear hr'
        go_enter Tryd.func64, Tryd.ntmps64
        go_wp2
        go_ret
        exact ⟨rfl, hb⟩
theorem anyC_step {f : Cho → Bool} {xs : List Cho} {k : Nat} (hk : k < xs.length) (h : f (xs.getD k noCho) = false) : (xs.drop k).any f = (xs.drop (k + 1)).any f := by
  rw [List.drop_eq_getElem_cons hk, List.any_cons]
  rw [List.getD_eq_getElem?_getD, List.getElem?_eq_getElem hk] at h
  simp at h
  rw [h, Bool.false_or]
theorem anyC_hit {f : Cho → Bool} {xs : List Cho} {k : Nat} (hk : k < xs.length) (h : f (xs.getD k noCho) = true) : (xs.drop k).any f = true := by
  rw [List.drop_eq_getElem_cons hk, List.any_cons]
  rw [List.getD_eq_getElem?_getD, List.getElem?_eq_getElem hk] at h
  simp at h
  rw [h, Bool.true_or]
def IdxOutC (p : Cho → Bool) (xs : List Cho) (w : World) (e : Ending) (w' : World) : Prop := ∃ i : Int, e = .returned (.int .i64 i) ∧ decide (0 ≤ i) = xs.any p ∧ Below w.heap.size w w'
set_option maxHeartbeats 3200000 in
theorem idxc_few (b : Nat) (xs : List Cho) (n c : Nat) (hn : Hid (xs.length = n)) (hbig : n < 1000) (w : World) (hs : Hid (CwS w b xs)) :
    Calls Tryd.prog 94 #[.slice (some ⟨b, 0, none⟩) n c, .func (.func 64) #[] #[]] w (IdxOutC bigC xs w) := by
  go_enter Tryd.func94, Tryd.ntmps94
  go_wp2
  go_loopw [8] (fun i wr => ∃ k : Nat, k ≤ n ∧ i = .int .i64 k ∧ Hid (xs.any bigC = (xs.drop k).any bigC) ∧ Hid (Below w.heap.size w wr)) (fun i _ => n - (intOf i).toNat)
  case atStart => exact ⟨0, by omega, rfl, Lib.hid rfl, Lib.hid (Below.refl _ _)⟩
  case round =>
    obtain ⟨k, hk, rfl, HR, HBr⟩ := hrel
    by_cases hlt : k < n
    · have hkl : k < xs.length := by rw [hn.out]; exact hlt
      obtain ⟨hi1, hi2, hi3⟩ := hs.out.below HBr.out k hkl
      cases hpx : bigC (xs.getD k noCho) with
      | false =>
        have HN : Hid (xs.any bigC = (xs.drop (k + 1)).any bigC) := Lib.hid (HR.out.trans (anyC_step hkl hpx))
        obtain ⟨x, hx⟩ : ∃ x, xs.getD k noCho = x := ⟨_, rfl⟩
        rw [hx] at hi1 hi2 hi3 hpx
        obtain ⟨x1, x2, x3, x4, x5, x6, x7, x8, x9⟩ := x
        have HPX := Lib.hid hpx
        clear hx hkl hpx HR
        go_wp2_with fail
        refine (few19c x1 x2 x3 x4 x5 x6 x7 x8 x9 false HPX _).mono ?_
        rintro e w2 ⟨rfl, hb0⟩
        have HB2 := Lib.hid (below_ext HBr.out hb0)
        clear hb0
        go_wp2
        go_roundw
        case rel => exact ⟨k + 1, by omega, by go_num, HN, HB2⟩
        case measure => simp [intOf]; omega
      | true =>
        have HN : Hid (decide ((0 : Int) ≤ (k : Int)) = xs.any bigC) := Lib.hid (by rw [HR.out, anyC_hit hkl hpx]; simp)
        obtain ⟨x, hx⟩ : ∃ x, xs.getD k noCho = x := ⟨_, rfl⟩
        rw [hx] at hi1 hi2 hi3 hpx
        obtain ⟨x1, x2, x3, x4, x5, x6, x7, x8, x9⟩ := x
        have HPX := Lib.hid hpx
        clear hx hkl hpx HR
        go_wp2_with fail
        refine (few19c x1 x2 x3 x4 x5 x6 x7 x8 x9 true HPX _).mono ?_
        rintro e w2 ⟨rfl, hb0⟩
        have HB2 := Lib.hid (below_ext HBr.out hb0)
        clear hb0
        go_wp2
        go_ret
        exact ⟨k, rfl, HN.out, HB2.out⟩
    · obtain rfl : k = n := by omega
      have HN : Hid (decide ((0 : Int) ≤ (-1 : Int)) = xs.any bigC) := Lib.hid (by rw [HR.out, ← hn.out]; simp)
      clear HR hlt
      go_wp2
      go_ret
      exact ⟨-1, rfl, HN.out, HBr.out⟩
set_option maxHeartbeats 1600000 in
theorem cfc_few (b : Nat) (r : Bool) (xs : List Cho) (n c : Nat) (hr : Hid (xs.any bigC = r)) (hn : Hid (xs.length = n)) (hbig : n < 1000) (w : World) (hs : Hid (CwS w b xs)) :
    Calls Tryd.prog 63 #[.slice (some ⟨b, 0, none⟩) n c, .func (.func 64) #[] #[]] w fun e w' => e = .returned (.bool r) ∧ Below w.heap.size w w' := by
  go_enter Tryd.func63, Tryd.ntmps63
  go_wp2_with fail
  refine (idxc_few b xs n c hn hbig _ hs).mono ?_
  rintro e w1 ⟨i, rfl, hi, hb1⟩
  have hd : decide ((0 : Int) ≤ i) = r := hi.trans hr.out
  clear hi
  go_wp2
  go_ret
  exact ⟨by first | rfl | (rw [← hd]) | simp [hd], hb1⟩
set_option maxHeartbeats 1600000 in
theorem few19_any (Y : Option Addr) (yn yc b : Nat) (r : Bool) (xs : List Cho) (n c : Nat) (hr : Hid ((decide (yn ≤ 40) && !(xs.any bigC)) = r)) (hn : Hid (xs.length = n)) (hbig : n < 1000) (w : World) (hs : Hid (CwS w b xs)) :
    Calls Tryd.prog 29 #[.slice Y yn yc, .slice (some ⟨b, 0, none⟩) n c] w fun e w' => e = .returned (.bool r) ∧ Below w.heap.size w w' := by
  obtain ⟨t, ht⟩ : ∃ t, xs.any bigC = t := ⟨_, rfl⟩
  have HT := Lib.hid ht
  by_cases h1 : yn ≤ 40
  · have d1 : decide ((yn : Int) ≤ 40) = true := by simp; omega
    obtain rfl : r = !t := by rw [← hr.out, ht, decide_eq_true h1, Bool.true_and]
    clear ht
    go_enter Tryd.func29, Tryd.ntmps29
    go_wp2_with fail
    refine (cfc_few b t xs n c HT hn hbig _ hs).mono ?_
    rintro e w1 ⟨rfl, hb1⟩
    go_wp2
    go_ret
    exact ⟨rfl, hb1⟩
  · have d1 : decide ((yn : Int) ≤ 40) = false := by simp; omega
    obtain rfl : r = false := by rw [← hr.out, decide_eq_false h1, Bool.false_and]
    clear ht
    go_enter Tryd.func29, Tryd.ntmps29
    go_wp2
    go_ret
    exact ⟨rfl, Below.refl _ _⟩
set_option maxHeartbeats 6400000 in
theorem rsamec_true (A1 : Option Addr) (a1 : Nat) (C1 : Option Addr) (c1 : Nat) (Z1 : Option Addr) (e1 : Nat) (A2 : Option Addr) (a2 : Nat) (C2 : Option Addr) (c2 : Nat) (Z2 : Option Addr) (e2 : Nat) (al : List Int) (na : Nat) (cl : List Int) (nc : Nat) (zl : List Int) (nz : Nat) (hna : Hid (al.length = na)) (hnc : Hid (cl.length = nc)) (hnz : Hid (zl.length = nz)) (hba : na < 1000000) (hbc : nc < 1000000) (hbz : nz < 1000000)
    (w : World) (hA1 : Hid (Sl w A1 al)) (hC1 : Hid (Sl w C1 cl)) (hZ1 : Hid (Sl w Z1 zl)) (hA2 : Hid (Sl w A2 al)) (hC2 : Hid (Sl w C2 cl)) (hZ2 : Hid (Sl w Z2 zl)) :
    Calls Tryd.prog 62 #[choV A1 na a1 C1 nc c1 Z1 nz e1, choV A2 na a2 C2 nc c2 Z2 nz e2] w fun e' w' => e' = .returned (.bool true) ∧ Below w.heap.size w w' := by
  obtain ⟨w0, hW⟩ : ∃ W, ((w.alloc (choO A1 na a1 C1 nc c1 Z1 nz e1)).alloc (choO A2 na a2 C2 nc c2 Z2 nz e2)) = W := ⟨_, rfl⟩
  have HBw : Hid (Below w.heap.size w w0) := Lib.hid (by rw [← hW]; exact below_two (Below.refl _ _))
  have hc : w0.cell? ⟨w.heap.size, 0, none⟩ = some (.slice A1 na a1) ∧ w0.cell? ⟨w.heap.size, 1, none⟩ = some (.slice C1 nc c1) ∧ w0.cell? ⟨w.heap.size, 2, none⟩ = some (.slice Z1 nz e1) ∧ w0.cell? ⟨w.heap.size + 1, 0, none⟩ = some (.slice A2 na a2) ∧ w0.cell? ⟨w.heap.size + 1, 1, none⟩ = some (.slice C2 nc c2) ∧ w0.cell? ⟨w.heap.size + 1, 2, none⟩ = some (.slice Z2 nz e2) := by rw [← hW]; exact ⟨cell_below (allocs_cell (by simp) (by rfl)) (below_box0 _ _), cell_below (allocs_cell (by simp) (by rfl)) (below_box0 _ _), cell_below (allocs_cell (by simp) (by rfl)) (below_box0 _ _), allocs_cell (by simp) (by rfl), allocs_cell (by simp) (by rfl), allocs_cell (by simp) (by rfl)⟩
  have kC := Lib.hid (show ∀ u : World, Hid (Below w0.heap.size w0 u) → u.cell? ⟨w.heap.size, 0, none⟩ = some (.slice A1 na a1) ∧ u.cell? ⟨w.heap.size, 1, none⟩ = some (.slice C1 nc c1) ∧ u.cell? ⟨w.heap.size, 2, none⟩ = some (.slice Z1 nz e1) ∧ u.cell? ⟨w.heap.size + 1, 0, none⟩ = some (.slice A2 na a2) ∧ u.cell? ⟨w.heap.size + 1, 1, none⟩ = some (.slice C2 nc c2) ∧ u.cell? ⟨w.heap.size + 1, 2, none⟩ = some (.slice Z2 nz e2) from fun u h => ⟨cell_below hc.1 h.out, cell_below hc.2.1 h.out, cell_below hc.2.2.1 h.out, cell_below hc.2.2.2.1 h.out, cell_below hc.2.2.2.2.1 h.out, cell_below hc.2.2.2.2.2 h.out⟩)
  have kA1 := Lib.hid (show ∀ u : World, Hid (Below w0.heap.size w0 u) → Hid (Sl u A1 al) from fun u h => Lib.hid ((hA1.out.below) (below_ext HBw.out h.out)))
  have kC1 := Lib.hid (show ∀ u : World, Hid (Below w0.heap.size w0 u) → Hid (Sl u C1 cl) from fun u h => Lib.hid ((hC1.out.below) (below_ext HBw.out h.out)))
  have kZ1 := Lib.hid (show ∀ u : World, Hid (Below w0.heap.size w0 u) → Hid (Sl u Z1 zl) from fun u h => Lib.hid ((hZ1.out.below) (below_ext HBw.out h.out)))
  have kA2 := Lib.hid (show ∀ u : World, Hid (Below w0.heap.size w0 u) → Hid (Sl u A2 al) from fun u h => Lib.hid ((hA2.out.below) (below_ext HBw.out h.out)))
  have kC2 := Lib.hid (show ∀ u : World, Hid (Below w0.heap.size w0 u) → Hid (Sl u C2 cl) from fun u h => Lib.hid ((hC2.out.below) (below_ext HBw.out h.out)))
  have kZ2 := Lib.hid (show ∀ u : World, Hid (Below w0.heap.size w0 u) → Hid (Sl u Z2 zl) from fun u h => Lib.hid ((hZ2.out.below) (below_ext HBw.out h.out)))
  have HB_0 : Hid (Below w0.heap.size w0 w0) := Lib.hid (Below.refl _ _)
  have HW := Lib.hid hW
  clear hW hc hA1 hC1 hZ1 hA2 hC2 hZ2
  go_enter Tryd.func62, Tryd.ntmps62
  go_wp2_with fail
  rw [HW.out]
  obtain ⟨zc0, zc1, zc2, zc3, zc4, zc5⟩ := kC.out _ HB_0
  go_wp2_with fail
  refine (rsame19_any A1 al na a1 A2 al a2 true (Lib.hid (sameB_refl al)) hna hna hba _ (kA1.out _ HB_0) (kA2.out _ HB_0)).mono ?_
  rintro e w1 ⟨rfl, hb0⟩
  have HB_1 := Lib.hid (below_ext HB_0.out hb0)
  clear zc0 zc1 zc2 zc3 zc4 zc5
  clear hb0
  obtain ⟨zc0, zc1, zc2, zc3, zc4, zc5⟩ := kC.out _ HB_1
  go_wp2_with fail
  refine (rsame19_any C1 cl nc c1 C2 cl c2 true (Lib.hid (sameB_refl cl)) hnc hnc hbc _ (kC1.out _ HB_1) (kC2.out _ HB_1)).mono ?_
  rintro e w2 ⟨rfl, hb0⟩
  have HB_2 := Lib.hid (below_ext HB_1.out hb0)
  clear zc0 zc1 zc2 zc3 zc4 zc5
  clear hb0
  obtain ⟨zc0, zc1, zc2, zc3, zc4, zc5⟩ := kC.out _ HB_2
  go_wp2_with fail
  refine (rsame19_any Z1 zl nz e1 Z2 zl e2 true (Lib.hid (sameB_refl zl)) hnz hnz hbz _ (kZ1.out _ HB_2) (kZ2.out _ HB_2)).mono ?_
  rintro e w3 ⟨rfl, hb0⟩
  have HB_3 := Lib.hid (below_ext HB_2.out hb0)
  clear zc0 zc1 zc2 zc3 zc4 zc5
  clear hb0
  obtain ⟨zc0, zc1, zc2, zc3, zc4, zc5⟩ := kC.out _ HB_3
  have hbF := below_ext HBw.out HB_3.out
  go_wp2
  go_ret
  exact ⟨rfl, hbF⟩
end Go.Proofs.YtijedphpcocfnaaDoor
namespace Go.Proofs.YtijedphpcocfnaaDoor
open Go.RowKit SpM
set_option linter.unusedVariables false
set_option linter.unusedSimpArgs false
set_option maxRecDepth 100000
theorem sl_of2 {w : World} {b : Nat} {x y : Int} (h0 : w.cell? ⟨b, 0, none⟩ = some (.int .i64 x)) (h1 : w.cell? ⟨b, 1, none⟩ = some (.int .i64 y)) : Sl w (some ⟨b, 0, none⟩) [x, y] := fun k hk => by
  match k, hk with
  | 0, _ => exact ⟨b, 0, rfl, h0⟩
  | 1, _ => exact ⟨b, 0, rfl, h1⟩
theorem three2 (w : World) (T1 T2 T3 : TypeId) (a1 a2 b1 b2 c1 c2 : Int) : Sl (((w.alloc (.cells #[.int .i64 a1, .int .i64 a2] T1)).alloc (.cells #[.int .i64 b1, .int .i64 b2] T2)).alloc (.cells #[.int .i64 c1, .int .i64 c2] T3)) (some ⟨w.heap.size, 0, none⟩) [a1, a2] ∧
    Sl (((w.alloc (.cells #[.int .i64 a1, .int .i64 a2] T1)).alloc (.cells #[.int .i64 b1, .int .i64 b2] T2)).alloc (.cells #[.int .i64 c1, .int .i64 c2] T3)) (some ⟨w.heap.size + 1, 0, none⟩) [b1, b2] ∧
    Sl (((w.alloc (.cells #[.int .i64 a1, .int .i64 a2] T1)).alloc (.cells #[.int .i64 b1, .int .i64 b2] T2)).alloc (.cells #[.int .i64 c1, .int .i64 c2] T3)) (some ⟨w.heap.size + 1 + 1, 0, none⟩) [c1, c2] ∧
    Below w.heap.size w (((w.alloc (.cells #[.int .i64 a1, .int .i64 a2] T1)).alloc (.cells #[.int .i64 b1, .int .i64 b2] T2)).alloc (.cells #[.int .i64 c1, .int .i64 c2] T3)) := by
  refine ⟨((sl2 w T1 a1 a2).below (below_box0 _ _)).below (below_box0 _ _), (sl2' w _ T2 b1 b2).below (below_box0 _ _), ?_, (((Below.refl _ _).alloc (Nat.le_refl _) _).alloc (by simp) _).alloc (by simp; omega) _⟩
  have e : w.heap.size + 1 + 1 = ((w.alloc (.cells #[.int .i64 a1, .int .i64 a2] T1)).alloc (.cells #[.int .i64 b1, .int .i64 b2] T2)).heap.size := by simp
  rw [e]
  exact sl2 _ T3 c1 c2
theorem ex19_g : Hid (givC 23 11 4 4 [18, 2] = 0) := Lib.hid (by kernel_rfl)
theorem ex19_c : Hid (([1, 2] : List Int).all (scB 11) = true) := Lib.hid (by kernel_rfl)
theorem ex19_z : Hid (([5, 7] : List Int).all (scB 11) = true) := Lib.hid (by kernel_rfl)
theorem ex19_k : comK 23 11 4 [18, 2] [1, 2] [5, 7] 2 = [16, 2] := by kernel_rfl
theorem ex19_t : Hid (checkC 23 11 4 4 [18, 2] 3 [16, 2] [1, 2] [5, 7] = true) := Lib.hid (by kernel_rfl)
theorem ex19_f : Hid (checkC 23 11 4 4 [18, 5] 3 [16, 2] [1, 2] [5, 7] = false) := Lib.hid (by kernel_rfl)
set_option maxHeartbeats 12800000 in
theorem awake19 (w : World) (hv : Hid (Vars w)) : Calls Tryd.prog 28 #[] w fun e' w' => e' = .returned (.bool true) ∧ Below w.heap.size w w' := by
  obtain ⟨w0, hW⟩ : ∃ W, ((((w.alloc (gObj 23 11 4)).alloc (.cells #[.int .i64 18, .int .i64 2] 3)).alloc (.cells #[.int .i64 1, .int .i64 2] 3)).alloc (.cells #[.int .i64 5, .int .i64 7] 3)) = W := ⟨_, rfl⟩
  have HBw : Hid (Below w.heap.size w w0) := Lib.hid (by rw [← hW]; exact ((((Below.refl _ _).alloc (by simp <;> omega) _).alloc (by simp <;> omega) _).alloc (by simp <;> omega) _).alloc (by simp <;> omega) _)
  have hc : w0.cell? ⟨w.heap.size, 0, none⟩ = some (.int .i64 23) ∧ w0.cell? ⟨w.heap.size, 1, none⟩ = some (.int .i64 11) ∧ w0.cell? ⟨w.heap.size, 2, none⟩ = some (.int .i64 4) ∧ w0.cell? ⟨w.heap.size + 1, 0, none⟩ = some (.int .i64 18) ∧ w0.cell? ⟨w.heap.size + 1, 1, none⟩ = some (.int .i64 2) ∧ w0.cell? ⟨w.heap.size + 2, 0, none⟩ = some (.int .i64 1) ∧ w0.cell? ⟨w.heap.size + 2, 1, none⟩ = some (.int .i64 2) ∧ w0.cell? ⟨w.heap.size + 3, 0, none⟩ = some (.int .i64 5) ∧ w0.cell? ⟨w.heap.size + 3, 1, none⟩ = some (.int .i64 7) := by rw [← hW]; exact ⟨cell_below (cell_below (cell_below (allocs_cell (by simp) (by rfl)) (below_box0 _ _)) (below_box0 _ _)) (below_box0 _ _), cell_below (cell_below (cell_below (allocs_cell (by simp) (by rfl)) (below_box0 _ _)) (below_box0 _ _)) (below_box0 _ _), cell_below (cell_below (cell_below (allocs_cell (by simp) (by rfl)) (below_box0 _ _)) (below_box0 _ _)) (below_box0 _ _), cell_below (cell_below (allocs_cell (by simp) (by rfl)) (below_box0 _ _)) (below_box0 _ _), cell_below (cell_below (allocs_cell (by simp) (by rfl)) (below_box0 _ _)) (below_box0 _ _), cell_below (allocs_cell (by simp) (by rfl)) (below_box0 _ _), cell_below (allocs_cell (by simp) (by rfl)) (below_box0 _ _), allocs_cell (by simp) (by rfl), allocs_cell (by simp) (by rfl)⟩
  have kC := Lib.hid (show ∀ u : World, Hid (Below w0.heap.size w0 u) → u.cell? ⟨w.heap.size, 0, none⟩ = some (.int .i64 23) ∧ u.cell? ⟨w.heap.size, 1, none⟩ = some (.int .i64 11) ∧ u.cell? ⟨w.heap.size, 2, none⟩ = some (.int .i64 4) ∧ u.cell? ⟨w.heap.size + 1, 0, none⟩ = some (.int .i64 18) ∧ u.cell? ⟨w.heap.size + 1, 1, none⟩ = some (.int .i64 2) ∧ u.cell? ⟨w.heap.size + 2, 0, none⟩ = some (.int .i64 1) ∧ u.cell? ⟨w.heap.size + 2, 1, none⟩ = some (.int .i64 2) ∧ u.cell? ⟨w.heap.size + 3, 0, none⟩ = some (.int .i64 5) ∧ u.cell? ⟨w.heap.size + 3, 1, none⟩ = some (.int .i64 7) from fun u h => ⟨cell_below hc.1 h.out, cell_below hc.2.1 h.out, cell_below hc.2.2.1 h.out, cell_below hc.2.2.2.1 h.out, cell_below hc.2.2.2.2.1 h.out, cell_below hc.2.2.2.2.2.1 h.out, cell_below hc.2.2.2.2.2.2.1 h.out, cell_below hc.2.2.2.2.2.2.2.1 h.out, cell_below hc.2.2.2.2.2.2.2.2 h.out⟩)
  have kV := Lib.hid (show ∀ u : World, Hid (Below w0.heap.size w0 u) → Hid (Vars u) from fun u h => Lib.hid ((hv.out.below) (below_ext HBw.out h.out)))
  have HB_0 : Hid (Below w0.heap.size w0 w0) := Lib.hid (Below.refl _ _)
  have HW := Lib.hid hW
  clear hW hc hv
  go_enter Tryd.func28, Tryd.ntmps28
  go_wp2_with fail
  rw [HW.out]
  obtain ⟨zc0, zc1, zc2, zc3, zc4, zc5, zc6, zc7, zc8⟩ := kC.out _ HB_0
  go_wp2_with fail
  refine (csim_ok 23 11 4 4 (some ⟨w.heap.size + 1, 0, none⟩) [18, 2] 2 2 (some ⟨w.heap.size + 1 + 1, 0, none⟩) [1, 2] 2 (some ⟨w.heap.size + 1 + 1 + 1, 0, none⟩) [5, 7] 2 ex19_g ex19_c ex19_z (Lib.hid rfl) (Lib.hid rfl) (Lib.hid rfl) (by omega) _ (kV.out _ HB_0) (Lib.hid (sl_of2 zc3 zc4)) (Lib.hid (sl_of2 zc5 zc6)) (Lib.hid (sl_of2 zc7 zc8))).mono ?_
  rintro e w1 ⟨A1, a1, C1, c1, Z1, z1, rfl, hA, hC, hZ, hb0⟩
  have HB_1 := Lib.hid (below_ext HB_0.out hb0)
  clear zc0 zc1 zc2 zc3 zc4 zc5 zc6 zc7 zc8
  clear hb0
  obtain ⟨zc0, zc1, zc2, zc3, zc4, zc5, zc6, zc7, zc8⟩ := kC.out _ HB_1
  have HB_w1_1 : Hid (Below w1.heap.size w1 w1) := Lib.hid (Below.refl _ _)
  rw [ex19_k] at hA
  have HA1 := Lib.hid hA
  have HC1 := Lib.hid hC
  have HZ1 := Lib.hid hZ
  clear hA hC hZ
  have kA := Lib.hid (show ∀ u : World, Hid (Below w1.heap.size w1 u) → Hid (Sl u A1 [16, 2]) from fun u h => Lib.hid (HA1.out.below h.out))
  have kCl := Lib.hid (show ∀ u : World, Hid (Below w1.heap.size w1 u) → Hid (Sl u C1 [1, 2]) from fun u h => Lib.hid (HC1.out.below h.out))
  have kZ := Lib.hid (show ∀ u : World, Hid (Below w1.heap.size w1 u) → Hid (Sl u Z1 [5, 7]) from fun u h => Lib.hid (HZ1.out.below h.out))
  have hq := below_box0 w1 (choO A1 2 a1 C1 2 c1 Z1 2 z1)
  have HB_2 := Lib.hid (below_ext HB_1.out hq)
  have HB_w1_2 := Lib.hid (below_ext HB_w1_1.out hq)
  have hc : (w1.alloc (choO A1 2 a1 C1 2 c1 Z1 2 z1)).cell? ⟨w1.heap.size, 0, none⟩ = some (.slice A1 2 a1) ∧ (w1.alloc (choO A1 2 a1 C1 2 c1 Z1 2 z1)).cell? ⟨w1.heap.size, 1, none⟩ = some (.slice C1 2 c1) ∧ (w1.alloc (choO A1 2 a1 C1 2 c1 Z1 2 z1)).cell? ⟨w1.heap.size, 2, none⟩ = some (.slice Z1 2 z1) := ⟨allocs_cell rfl (by rfl), allocs_cell rfl (by rfl), allocs_cell rfl (by rfl)⟩
  have HC2 := Lib.hid hc
  clear zc0 zc1 zc2 zc3 zc4 zc5 zc6 zc7 zc8
  clear hq
  obtain ⟨zc0, zc1, zc2, zc3, zc4, zc5, zc6, zc7, zc8⟩ := kC.out _ HB_2
  obtain ⟨zq0, zq1, zq2⟩ := hc
  go_wp2_with fail
  obtain ⟨w2, hw⟩ : ∃ x, (w1.alloc (choO A1 2 a1 C1 2 c1 Z1 2 z1)) = x := ⟨_, rfl⟩
  rw [hw] at HC2 HB_2 HB_w1_2 ⊢
  have HSN2 : Hid (w2.heap.size = w1.heap.size + 1) := Lib.hid (by rw [← hw]; simp)
  clear zc0 zc1 zc2 zc3 zc4 zc5 zc6 zc7 zc8 zq0 zq1 zq2
  clear hw
  have HB_w2_2 : Hid (Below w2.heap.size w2 w2) := Lib.hid (Below.refl _ _)
  have kP := Lib.hid (show ∀ u : World, Hid (Below w2.heap.size w2 u) → u.cell? ⟨w1.heap.size, 0, none⟩ = some (.slice A1 2 a1) ∧ u.cell? ⟨w1.heap.size, 1, none⟩ = some (.slice C1 2 c1) ∧ u.cell? ⟨w1.heap.size, 2, none⟩ = some (.slice Z1 2 z1) from fun u h => ⟨cell_below HC2.out.1 h.out, cell_below HC2.out.2.1 h.out, cell_below HC2.out.2.2 h.out⟩)
  obtain ⟨zc0, zc1, zc2, zc3, zc4, zc5, zc6, zc7, zc8⟩ := kC.out _ HB_2
  obtain ⟨kP_0, kP_1, kP_2⟩ := kP.out _ HB_w2_2
  obtain ⟨h1, h2, h3, hq⟩ := three2 w2 3 3 3 16 2 1 2 5 7
  have e2 := HSN2.out
  have HT1 : Hid (Sl _ (some ⟨w1.heap.size + 1, 0, none⟩) [16, 2]) := Lib.hid (by rw [← e2]; exact h1)
  have HT2 : Hid (Sl _ (some ⟨w1.heap.size + 1 + 1, 0, none⟩) [1, 2]) := Lib.hid (by rw [← e2]; exact h2)
  have HT3 : Hid (Sl _ (some ⟨w1.heap.size + 1 + 1 + 1, 0, none⟩) [5, 7]) := Lib.hid (by rw [← e2]; exact h3)
  have HT9 := Lib.hid h1
  have HB_3 := Lib.hid (below_ext HB_2.out hq)
  have HB_w1_3 := Lib.hid (below_ext HB_w1_2.out hq)
  have HB_w2_3 := Lib.hid (below_ext HB_w2_2.out hq)
  clear hq h1 h2 h3 e2 HT9
  go_wp2_with fail
  refine (rsamec_true A1 a1 C1 c1 Z1 z1 (some ⟨w1.heap.size + 1, 0, none⟩) 2 (some ⟨w1.heap.size + 1 + 1, 0, none⟩) 2 (some ⟨w1.heap.size + 1 + 1 + 1, 0, none⟩) 2 [16, 2] 2 [1, 2] 2 [5, 7] 2 (Lib.hid rfl) (Lib.hid rfl) (Lib.hid rfl) (by omega) (by omega) (by omega) _ (kA.out _ HB_w1_3) (kCl.out _ HB_w1_3) (kZ.out _ HB_w1_3) HT1 HT2 HT3).mono ?_
  rintro e w4 ⟨rfl, hb0⟩
  have HB_4 := Lib.hid (below_ext HB_3.out hb0)
  have HB_w1_4 := Lib.hid (below_ext HB_w1_3.out hb0)
  have HB_w2_4 := Lib.hid (below_ext HB_w2_3.out hb0)
  clear zc0 zc1 zc2 zc3 zc4 zc5 zc6 zc7 zc8 kP_0 kP_1 kP_2
  clear hb0
  obtain ⟨zc0, zc1, zc2, zc3, zc4, zc5, zc6, zc7, zc8⟩ := kC.out _ HB_4
  obtain ⟨kP_0, kP_1, kP_2⟩ := kP.out _ HB_w2_4
  have HY2 := Lib.hid (sl2 w4 3 18 2)
  have hq := below_box0 w4 (.cells #[.int .i64 18, .int .i64 2] 3)
  have HB_5 := Lib.hid (below_ext HB_4.out hq)
  have HB_w1_5 := Lib.hid (below_ext HB_w1_4.out hq)
  have HB_w2_5 := Lib.hid (below_ext HB_w2_4.out hq)
  clear hq
  obtain ⟨zc0x, zc1x, zc2x, zc3x, zc4x, zc5x, zc6x, zc7x, zc8x⟩ := kC.out _ HB_5
  obtain ⟨kP_0x, kP_1x, kP_2x⟩ := kP.out _ HB_w2_5
  go_wp2_with fail
  refine (cccheck_any 23 11 4 4 (some ⟨w4.heap.size, 0, none⟩) [18, 2] 2 2 3 A1 [16, 2] 2 a1 C1 [1, 2] 2 c1 Z1 [5, 7] 2 z1 true ex19_t (Lib.hid rfl) (by omega) (Lib.hid rfl) (Lib.hid rfl) (Lib.hid rfl) (by omega) (by omega) (by omega) (by omega) _ (kV.out _ HB_5) HY2 (kA.out _ HB_w1_5) (kCl.out _ HB_w1_5) (kZ.out _ HB_w1_5)).mono ?_
  rintro e w6 ⟨rfl, hb0⟩
  have HB_6 := Lib.hid (below_ext HB_5.out hb0)
  have HB_w1_6 := Lib.hid (below_ext HB_w1_5.out hb0)
  have HB_w2_6 := Lib.hid (below_ext HB_w2_5.out hb0)
  clear zc0 zc1 zc2 zc3 zc4 zc5 zc6 zc7 zc8 kP_0 kP_1 kP_2 zc0x zc1x zc2x zc3x zc4x zc5x zc6x zc7x zc8x kP_0x kP_1x kP_2x
  clear hb0
  obtain ⟨zc0, zc1, zc2, zc3, zc4, zc5, zc6, zc7, zc8⟩ := kC.out _ HB_6
  obtain ⟨kP_0, kP_1, kP_2⟩ := kP.out _ HB_w2_6
  have HY5 := Lib.hid (sl2 w6 3 18 5)
  have hq := below_box0 w6 (.cells #[.int .i64 18, .int .i64 5] 3)
  have HB_7 := Lib.hid (below_ext HB_6.out hq)
  have HB_w1_7 := Lib.hid (below_ext HB_w1_6.out hq)
  have HB_w2_7 := Lib.hid (below_ext HB_w2_6.out hq)
  clear hq
  obtain ⟨zc0x, zc1x, zc2x, zc3x, zc4x, zc5x, zc6x, zc7x, zc8x⟩ := kC.out _ HB_7
  obtain ⟨kP_0x, kP_1x, kP_2x⟩ := kP.out _ HB_w2_7
  go_wp2_with fail
  refine (cccheck_any 23 11 4 4 (some ⟨w6.heap.size, 0, none⟩) [18, 5] 2 2 3 A1 [16, 2] 2 a1 C1 [1, 2] 2 c1 Z1 [5, 7] 2 z1 false ex19_f (Lib.hid rfl) (by omega) (Lib.hid rfl) (Lib.hid rfl) (Lib.hid rfl) (by omega) (by omega) (by omega) (by omega) _ (kV.out _ HB_7) HY5 (kA.out _ HB_w1_7) (kCl.out _ HB_w1_7) (kZ.out _ HB_w1_7)).mono ?_
  rintro e w8 ⟨rfl, hb0⟩
  have HB_8 := Lib.hid (below_ext HB_7.out hb0)
  have HB_w1_8 := Lib.hid (below_ext HB_w1_7.out hb0)
  have HB_w2_8 := Lib.hid (below_ext HB_w2_7.out hb0)
  clear zc0 zc1 zc2 zc3 zc4 zc5 zc6 zc7 zc8 kP_0 kP_1 kP_2 zc0x zc1x zc2x zc3x zc4x zc5x zc6x zc7x zc8x kP_0x kP_1x kP_2x
  clear hb0
  obtain ⟨zc0, zc1, zc2, zc3, zc4, zc5, zc6, zc7, zc8⟩ := kC.out _ HB_8
  obtain ⟨kP_0, kP_1, kP_2⟩ := kP.out _ HB_w2_8
  have hbF := below_ext HBw.out HB_8.out
  go_wp2
  go_ret
  exact ⟨rfl, hbF⟩
end Go.Proofs.YtijedphpcocfnaaDoor
namespace Go.Proofs.YtijedphpcocfnaaDoor
open Go.RowKit SpM
set_option linter.unusedVariables false
set_option linter.unusedSimpArgs false
set_option maxRecDepth 100000
theorem cws1 (w : World) (T : TypeId) (A : Option Addr) (na ca : Nat) (C : Option Addr) (nc cc : Nat) (Z : Option Addr) (nz cz : Nat) : CwS (w.alloc (.cells #[.slice A na ca, .slice C nc cc, .slice Z nz cz] T)) w.heap.size [⟨A, na, ca, C, nc, cc, Z, nz, cz⟩] := fun k hk => by
  obtain rfl : k = 0 := by simp at hk; exact hk
  exact ⟨allocs_cell rfl (by rfl), allocs_cell rfl (by rfl), allocs_cell rfl (by rfl)⟩
theorem few1_parts {yn : Nat} {x : Cho} (h : (decide (yn ≤ 40) && !([x].any bigC)) = true) : yn ≤ 40 ∧ x.na ≤ 40 ∧ x.nc ≤ 40 ∧ x.nz ≤ 40 := by
  simp [bigC] at h
  omega
set_option maxHeartbeats 25600000 in
theorem cc_true (P Q G b : Int) (Y : Option Addr) (ys : List Int) (yn yc : Nat) (c : Int) (A : Option Addr) (al : List Int) (na ca : Nat) (C : Option Addr) (cl : List Int) (nc cc : Nat) (Z : Option Addr) (zl : List Int) (nz cz : Nat)
    (hyn : Hid (ys.length = yn)) (han : Hid (al.length = na)) (hcn : Hid (cl.length = nc)) (hzn : Hid (zl.length = nz)) (hQ : Q < 9223372036854775808) (w : World) (hv : Hid (Vars w)) (hY : Hid (Sl w Y ys)) (hA : Hid (Sl w A al)) (hC : Hid (Sl w C cl)) (hZ : Hid (Sl w Z zl)) :
    Calls Tryd.prog 6 #[gv P Q G, .int .i64 b, .slice Y yn yc, .int .i64 c, choV A na ca C nc cc Z nz cz] w fun e' w' => e' = .returned (.bool true) ∧ Below w.heap.size w w' := by
  obtain ⟨fb, hfb⟩ : ∃ x, (decide (yn ≤ 40) && !(([⟨A, na, ca, C, nc, cc, Z, nz, cz⟩] : List Cho).any bigC)) = x := ⟨_, rfl⟩
  obtain ⟨r, hr⟩ : ∃ x, checkC P Q G b ys c al cl zl = x := ⟨_, rfl⟩
  obtain ⟨se, hse⟩ : ∃ x, sumE P Q G cl = x := ⟨_, rfl⟩
  obtain ⟨sv, hsv⟩ : ∃ x, sumV P Q G cl = x := ⟨_, rfl⟩
  obtain ⟨vb, hvb⟩ : ∃ x, validG P Q G = x := ⟨_, rfl⟩
  obtain ⟨sb, hsb⟩ : ∃ x, cl.all (scB Q) = x := ⟨_, rfl⟩
  have HFB := Lib.hid hfb
  have HR := Lib.hid hr
  have HSE := Lib.hid hse
  have HSV := Lib.hid hsv
  have HVB := Lib.hid hvb
  have HSB := Lib.hid hsb
  have err : (r != r) = false := by simp
  clear hfb hr hse hsv hvb hsb
  obtain ⟨w0, hW⟩ : ∃ W, ((w.alloc (gObj P Q G)).alloc (choO A na ca C nc cc Z nz cz)) = W := ⟨_, rfl⟩
  have HBw : Hid (Below w.heap.size w w0) := Lib.hid (by rw [← hW]; exact below_two (Below.refl _ _))
  have hc : w0.cell? ⟨w.heap.size, 0, none⟩ = some (.int .i64 P) ∧ w0.cell? ⟨w.heap.size, 1, none⟩ = some (.int .i64 Q) ∧ w0.cell? ⟨w.heap.size, 2, none⟩ = some (.int .i64 G) ∧ w0.cell? ⟨w.heap.size + 1, 0, none⟩ = some (.slice A na ca) ∧ w0.cell? ⟨w.heap.size + 1, 1, none⟩ = some (.slice C nc cc) ∧ w0.cell? ⟨w.heap.size + 1, 2, none⟩ = some (.slice Z nz cz) := by rw [← hW]; exact ⟨cell_below (allocs_cell (by simp) (by rfl)) (below_box0 _ _), cell_below (allocs_cell (by simp) (by rfl)) (below_box0 _ _), cell_below (allocs_cell (by simp) (by rfl)) (below_box0 _ _), allocs_cell (by simp) (by rfl), allocs_cell (by simp) (by rfl), allocs_cell (by simp) (by rfl)⟩
  have kC := Lib.hid (show ∀ u : World, Hid (Below w0.heap.size w0 u) → u.cell? ⟨w.heap.size, 0, none⟩ = some (.int .i64 P) ∧ u.cell? ⟨w.heap.size, 1, none⟩ = some (.int .i64 Q) ∧ u.cell? ⟨w.heap.size, 2, none⟩ = some (.int .i64 G) ∧ u.cell? ⟨w.heap.size + 1, 0, none⟩ = some (.slice A na ca) ∧ u.cell? ⟨w.heap.size + 1, 1, none⟩ = some (.slice C nc cc) ∧ u.cell? ⟨w.heap.size + 1, 2, none⟩ = some (.slice Z nz cz) from fun u h => ⟨cell_below hc.1 h.out, cell_below hc.2.1 h.out, cell_below hc.2.2.1 h.out, cell_below hc.2.2.2.1 h.out, cell_below hc.2.2.2.2.1 h.out, cell_below hc.2.2.2.2.2 h.out⟩)
  have kV := Lib.hid (show ∀ u : World, Hid (Below w0.heap.size w0 u) → Hid (Vars u) from fun u h => Lib.hid ((hv.out.below) (below_ext HBw.out h.out)))
  have kY := Lib.hid (show ∀ u : World, Hid (Below w0.heap.size w0 u) → Hid (Sl u Y ys) from fun u h => Lib.hid ((hY.out.below) (below_ext HBw.out h.out)))
  have kA := Lib.hid (show ∀ u : World, Hid (Below w0.heap.size w0 u) → Hid (Sl u A al) from fun u h => Lib.hid ((hA.out.below) (below_ext HBw.out h.out)))
  have kCl := Lib.hid (show ∀ u : World, Hid (Below w0.heap.size w0 u) → Hid (Sl u C cl) from fun u h => Lib.hid ((hC.out.below) (below_ext HBw.out h.out)))
  have kZ := Lib.hid (show ∀ u : World, Hid (Below w0.heap.size w0 u) → Hid (Sl u Z zl) from fun u h => Lib.hid ((hZ.out.below) (below_ext HBw.out h.out)))
  have HB_0 : Hid (Below w0.heap.size w0 w0) := Lib.hid (Below.refl _ _)
  have HW := Lib.hid hW
  clear hW hc hv hY hA hC hZ
  go_enter Tryd.func6, Tryd.ntmps6
  go_wp2_with fail
  rw [HW.out]
  obtain ⟨zc0, zc1, zc2, zc3, zc4, zc5⟩ := kC.out _ HB_0
  go_wp2_with fail
  refine (awake19 _ (kV.out _ HB_0)).mono ?_
  rintro e w1 ⟨rfl, hb0⟩
  have HB_1 := Lib.hid (below_ext HB_0.out hb0)
  clear zc0 zc1 zc2 zc3 zc4 zc5
  clear hb0
  obtain ⟨zc0, zc1, zc2, zc3, zc4, zc5⟩ := kC.out _ HB_1
  have HCW := Lib.hid (cws1 w1 53 A na ca C nc cc Z nz cz)
  have hq := below_box0 w1 (.cells #[.slice A na ca, .slice C nc cc, .slice Z nz cz] 53)
  have HB_2 := Lib.hid (below_ext HB_1.out hq)
  clear hq
  go_wp2_with fail
  refine (few19_any Y yn yc w1.heap.size fb [⟨A, na, ca, C, nc, cc, Z, nz, cz⟩] 1 1 HFB (Lib.hid rfl) (by omega) _ HCW).mono ?_
  rintro e w3 ⟨rfl, hb0⟩
  have HB_3 := Lib.hid (below_ext HB_2.out hb0)
  clear zc0 zc1 zc2 zc3 zc4 zc5
  clear hb0
  obtain ⟨zc0, zc1, zc2, zc3, zc4, zc5⟩ := kC.out _ HB_3
  cases fb with
  | false =>
    go_wp2_with fail
    refine (awake19 _ (kV.out _ HB_3)).mono ?_
    rintro e w4 ⟨rfl, hb0⟩
    have HB_4 := Lib.hid (below_ext HB_3.out hb0)
    clear zc0 zc1 zc2 zc3 zc4 zc5
    clear hb0
    obtain ⟨zc0, zc1, zc2, zc3, zc4, zc5⟩ := kC.out _ HB_4
    have hbF := below_ext HBw.out HB_4.out
    go_wp2
    go_ret
    exact ⟨rfl, hbF⟩
  | true =>
    obtain ⟨l1, l2, l3, l4⟩ := few1_parts HFB.out
    dsimp only at l2 l3 l4
    go_wp2_with fail
    refine (csumf_any P Q G A al na ca C cl nc cc Z zl nz cz se sv HSE HSV hcn (by omega) hQ _ (kV.out _ HB_3) (kCl.out _ HB_3)).mono ?_
    rintro e w4 ⟨rfl, hb0⟩
    have HB_4 := Lib.hid (below_ext HB_3.out hb0)
    clear zc0 zc1 zc2 zc3 zc4 zc5
    clear hb0
    obtain ⟨zc0, zc1, zc2, zc3, zc4, zc5⟩ := kC.out _ HB_4
    have hS := Lib.hid (show ∀ u1 u2 : World, Hid (Below w0.heap.size w0 u1) → Below u1.heap.size u1 u2 → (u2.cell? ⟨w.heap.size, 0, none⟩ = some (.int .i64 P) ∧ u2.cell? ⟨w.heap.size, 1, none⟩ = some (.int .i64 Q) ∧ u2.cell? ⟨w.heap.size, 2, none⟩ = some (.int .i64 G) ∧ u2.cell? ⟨w.heap.size + 1, 0, none⟩ = some (.slice A na ca) ∧ u2.cell? ⟨w.heap.size + 1, 1, none⟩ = some (.slice C nc cc) ∧ u2.cell? ⟨w.heap.size + 1, 2, none⟩ = some (.slice Z nz cz) ∧ Hid (Below w0.heap.size w0 u2)) from fun u1 u2 h1 h2 => by
      have h3 := Lib.hid (below_ext h1.out h2)
      obtain ⟨y0, y1, y2, y3, y4, y5⟩ := kC.out _ h3
      exact ⟨y0, y1, y2, y3, y4, y5, h3⟩)
    clear zc0 zc1 zc2 zc3 zc4 zc5
    go_wp2_with fail
    go_region_held3 (fun w' => w'.cell? ⟨w.heap.size, 0, none⟩ = some (.int .i64 P) ∧ w'.cell? ⟨w.heap.size, 1, none⟩ = some (.int .i64 Q) ∧ w'.cell? ⟨w.heap.size, 2, none⟩ = some (.int .i64 G) ∧ w'.cell? ⟨w.heap.size + 1, 0, none⟩ = some (.slice A na ca) ∧ w'.cell? ⟨w.heap.size + 1, 1, none⟩ = some (.slice C nc cc) ∧ w'.cell? ⟨w.heap.size + 1, 2, none⟩ = some (.slice Z nz cz) ∧ Hid (Below w0.heap.size w0 w'))
      (first | exact hS.out _ _ HB_4 (Below.refl _ _).drew | (go_split_ands; exact hS.out _ _ (by assumption) hbA) | go_keep)
      ((first
        | (go_at_call 31; (with_reducible refine (cccheck_any P Q G b Y ys yn yc c A al na ca C cl nc cc Z zl nz cz r HR hyn (by omega) han hcn hzn (by omega) (by omega) (by omega) hQ _ ?_ ?_ ?_ ?_ ?_).mono ?_); (go_split_ands; exact kV.out _ (by assumption)); (go_split_ands; exact kY.out _ (by assumption)); (go_split_ands; exact kA.out _ (by assumption)); (go_split_ands; exact kCl.out _ (by assumption)); (go_split_ands; exact kZ.out _ (by assumption)); rintro e9 wA ⟨rfl, hbA⟩)
        | (go_at_call 32; (with_reducible refine (rccheck_any P Q G b Y ys yn yc c A al na ca C cl nc cc Z zl nz cz r HR hyn (by omega) han hcn hzn (by omega) (by omega) (by omega) hQ _ ?_ ?_ ?_ ?_).mono ?_); (go_split_ands; exact kY.out _ (by assumption)); (go_split_ands; exact kA.out _ (by assumption)); (go_split_ands; exact kCl.out _ (by assumption)); (go_split_ands; exact kZ.out _ (by assumption)); rintro e9 wA ⟨rfl, hbA⟩)))
    rename_i hHeld
    obtain ⟨x0, x1, x2, x3, x4, x5, HBQ⟩ := hHeld
    clear x0 x1 x2 x3 x4 x5
    obtain ⟨zc0, zc1, zc2, zc3, zc4, zc5⟩ := kC.out _ HBQ
    go_wp2_with fail
    refine (rvalid_any P Q G vb HVB hQ _).mono ?_
    rintro e w5 ⟨rfl, hb0⟩
    have HB_5 := Lib.hid (below_ext HBQ.out hb0)
    clear zc0 zc1 zc2 zc3 zc4 zc5
    clear hb0
    obtain ⟨zc0, zc1, zc2, zc3, zc4, zc5⟩ := kC.out _ HB_5
    cases vb with
    | false =>
      have hrr : sumE P Q G cl = 1 := by unfold sumE; simp only [HVB.out, Bool.false_eq_true, if_false]
      obtain rfl : se = 1 := HSE.out.symm.trans hrr
      obtain rfl : sv = 0 := HSV.out.symm.trans (by rw [sumV, hrr]; rfl)
      clear hrr
      have hbF := below_ext HBw.out HB_5.out
      go_wp2
      go_ret
      exact ⟨rfl, hbF⟩
    | true =>
      by_cases h1 : 16 < nc
      · skip
        have d1 : decide ((16 : Int) < (nc : Int)) = true := by simp; omega
        have hrr : sumE P Q G cl = 1 := by unfold sumE; simp only [HVB.out, hcn.out, HSB.out, Bool.false_eq_true, if_true, if_false]; rw [if_neg (by omega)]
        obtain rfl : se = 1 := HSE.out.symm.trans hrr
        obtain rfl : sv = 0 := HSV.out.symm.trans (by rw [sumV, hrr]; rfl)
        clear hrr
        have hbF := below_ext HBw.out HB_5.out
        go_wp2
        go_ret
        exact ⟨rfl, hbF⟩
      · skip
        have d1 : decide ((16 : Int) < (nc : Int)) = false := by simp; omega
        have hle : nc ≤ 16 := by omega
        have HLE := Lib.hid hle
        clear hle
        go_wp2_with fail
        refine (rsc19_any P Q G C cl nc cc sb HSB hcn (by omega) _ (kCl.out _ HB_5)).mono ?_
        rintro e w6 ⟨rfl, hb0⟩
        have HB_6 := Lib.hid (below_ext HB_5.out hb0)
        clear zc0 zc1 zc2 zc3 zc4 zc5
        clear hb0
        obtain ⟨zc0, zc1, zc2, zc3, zc4, zc5⟩ := kC.out _ HB_6
        cases sb with
        | false =>
          have hrr : sumE P Q G cl = 2 := by unfold sumE; simp only [HVB.out, hcn.out, HSB.out, Bool.false_eq_true, if_true, if_false]; rw [if_pos HLE.out]
          obtain rfl : se = 2 := HSE.out.symm.trans hrr
          obtain rfl : sv = 0 := HSV.out.symm.trans (by rw [sumV, hrr]; rfl)
          clear hrr
          have hbF := below_ext HBw.out HB_6.out
          go_wp2
          go_ret
          exact ⟨rfl, hbF⟩
        | true =>
          have hrr : sumE P Q G cl = 0 := by unfold sumE; simp only [HVB.out, hcn.out, HSB.out, Bool.false_eq_true, if_true, if_false]; rw [if_pos HLE.out]
          obtain rfl : se = 0 := HSE.out.symm.trans hrr
          have HSL : Hid (sumL Q 0 cl = sv) := Lib.hid (by rw [← HSV.out, sumV, if_pos hrr])
          clear hrr
          obtain ⟨hp2, hp, hq3, hqp⟩ := validG_P HVB.out
          have evv : ((sv : Int) == sv) = true := by simp
          go_wp2_with fail
          refine (rsum19_ok P Q G C cl nc cc sv HSL hcn (by omega) HSB (by omega) (by omega) _ (kCl.out _ HB_6)).mono ?_
          rintro e w7 ⟨rfl, hb0⟩
          have HB_7 := Lib.hid (below_ext HB_6.out hb0)
          clear zc0 zc1 zc2 zc3 zc4 zc5
          clear hb0
          obtain ⟨zc0, zc1, zc2, zc3, zc4, zc5⟩ := kC.out _ HB_7
          have hbF := below_ext HBw.out HB_7.out
          go_wp2
          go_ret
          exact ⟨rfl, hbF⟩
end Go.Proofs.YtijedphpcocfnaaDoor
