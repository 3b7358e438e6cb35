/- Contracts and lemmas: Slk, ChI, ChJ, ChM. -/
import Derived.Test.YtijedphpcocfnaaDoorCk3
namespace Go.Proofs.YtijedphpcocfnaaDoor
open Go.RowKit SpM
set_option linter.unusedVariables false
set_option linter.unusedSimpArgs false
set_option maxRecDepth 100000
theorem eqs_any (A : Option Addr) (xs : List Int) (n c : Nat) (B : Option Addr) (ys : List Int) (m d : Nat) (r : Bool) (hr : Hid ((xs == ys) = r)) (hn : Hid (xs.length = n)) (hm : Hid (ys.length = m)) (hbig : n < 1000000) (hbig2 : m < 1000000)
    (w : World) (hA : Hid (Sl w A xs)) (hB : Hid (Sl w B ys)) :
    Calls Tryd.prog 18 #[.slice A n c, .slice B m d] w fun e w' => e = .returned (.bool r) ∧ Below w.heap.size w w' := by
  have hn' := hn.out
  have hm' := hm.out
  by_cases hnm : n = m
  · by_cases h0 : n = 0
    · subst hnm
      subst h0
      refine (Tryd.slices_Equal_int_empty A B c 0 d w (by omega)).mono ?_
      rintro e w' ⟨rfl, rfl⟩
      have e1 := List.eq_nil_of_length_eq_zero hn'
      have e2 := List.eq_nil_of_length_eq_zero hm'
      refine ⟨?_, Below.refl _ _⟩
      rw [← hr.out, e1, e2]
      rfl
    · obtain ⟨b1, o1, rfl, hc1⟩ := hA.out.at0 (by omega)
      obtain ⟨b2, o2, rfl, hc2⟩ := hB.out.at0 (by omega)
      refine (Tryd.slices_Equal_int b1 o1 n c b2 o2 m d xs ys w (by omega) (by omega) (by omega) (by omega) hc1 hc2).mono ?_
      rintro e w' ⟨rfl, q, rfl⟩
      refine ⟨?_, below_drawN (Below.refl _ _) _⟩
      rw [List.take_of_length_le (by omega), List.take_of_length_le (by omega), hr.out]
  · refine (Tryd.slices_Equal_int_lens A B n c m d w hnm).mono ?_
    rintro e w' ⟨rfl, rfl⟩
    refine ⟨?_, Below.refl _ _⟩
    have : (xs == ys) = false := by
      rw [beq_eq_false_iff_ne]
      intro e
      rw [e] at hn'
      omega
    rw [← hr.out, this]
end Go.Proofs.YtijedphpcocfnaaDoor
namespace Go.Proofs.YtijedphpcocfnaaDoor
open Go.RowKit SpM
set_option linter.unusedVariables false
set_option linter.unusedSimpArgs false
set_option maxRecDepth 100000
/-- the error of Simulate. -/
def simE19 (P Q G b : Int) (ys cl zl : List Int) : Int :=
  if givC P Q G b ys = 1 then 1 else (if cl.length = ys.length ∧ zl.length = ys.length then (if givC P Q G b ys = 0 then (if cl.all (scB Q) = true then (if zl.all (scB Q) = true then 0 else 2) else 2) else 2) else 1)
theorem simE19_0 {P Q G b : Int} {ys cl zl : List Int} (h : simE19 P Q G b ys cl zl = 0) : givC P Q G b ys = 0 ∧ cl.length = ys.length ∧ zl.length = ys.length ∧ cl.all (scB Q) = true ∧ zl.all (scB Q) = true := by
  unfold simE19 at h
  split at h
  · exact absurd h (by omega)
  · split at h
    · rename_i h2
      split at h
      · rename_i h3
        split at h
        · rename_i h4
          split at h
          · rename_i h5
            exact ⟨h3, h2.1, h2.2, h4, h5⟩
          · exact absurd h (by omega)
        · exact absurd h (by omega)
      · exact absurd h (by omega)
    · exact absurd h (by omega)
theorem comK_get {P Q b : Int} {ys cl zl : List Int} {n i : Nat} (h : i < n) : (comK P Q b ys cl zl n).getD i 0 = comF P Q b (ys.getD i 0) (cl.getD i 0) (zl.getD i 0) := by
  rw [List.getD_eq_getElem?_getD, List.getElem?_eq_getElem (by rw [comK_length]; exact h)]
  simp [comK]
/-- the zero choice with an error. -/
abbrev cvE (r : Int) : Value := .tuple #[choV none 0 0 none 0 0 none 0 0, .int .i64 r]
set_option maxHeartbeats 12800000 in
theorem csim_bad (P Q G b : Int) (Y : Option Addr) (ys : List Int) (yn yc : Nat) (C : Option Addr) (cl : List Int) (nc cc : Nat) (Z : Option Addr) (zl : List Int) (nz cz : Nat) (r : Int) (hr : Hid (simE19 P Q G b ys cl zl = r)) (hne : (r != 0) = true) (hyn : Hid (ys.length = yn)) (hcn : Hid (cl.length = nc)) (hzn : Hid (zl.length = nz)) (hyb : yn < 1000) (hcb : nc < 1000) (hzb : nz < 1000) (hQ : Q < 9223372036854775808) (w : World) (hv : Hid (Vars w)) (hY : Hid (Sl w Y ys)) (hC : Hid (Sl w C cl)) (hZ : Hid (Sl w Z zl)) :
    Calls Tryd.prog 40 #[gv P Q G, .int .i64 b, .slice Y yn yc, .slice C nc cc, .slice Z nz cz] w fun e' w' => e' = .returned (cvE r) ∧ Below w.heap.size w w' := by
  obtain ⟨g, hg⟩ : ∃ g, givC P Q G b ys = g := ⟨_, rfl⟩
  obtain ⟨sc, hsc⟩ : ∃ x, cl.all (scB Q) = x := ⟨_, rfl⟩
  obtain ⟨sz, hsz⟩ : ∃ x, zl.all (scB Q) = x := ⟨_, rfl⟩
  have HG := Lib.hid hg
  have HSC := Lib.hid hsc
  have HSZ := Lib.hid hsz
  have HRR : Hid ((if g = 1 then 1 else (if nc = yn ∧ nz = yn then (if g = 0 then (if sc = true then (if sz = true then 0 else 2) else 2) else 2) else 1) : Int) = r) := Lib.hid (by rw [← hr.out, simE19, hg, hsc, hsz, hyn.out, hcn.out, hzn.out])
  have HNE := Lib.hid hne
  clear hg hsc hsz hne
  obtain ⟨w0, hW⟩ : ∃ W, ((w.alloc (gObj P Q G)).alloc (choO none 0 0 none 0 0 none 0 0)) = W := ⟨_, rfl⟩
  have HBw : Hid (Below w.heap.size w w0) := Lib.hid (by rw [← hW]; exact below_two (Below.refl _ _))
  have hc : w0.cell? ⟨w.heap.size, 0, none⟩ = some (.int .i64 P) ∧ w0.cell? ⟨w.heap.size, 1, none⟩ = some (.int .i64 Q) ∧ w0.cell? ⟨w.heap.size, 2, none⟩ = some (.int .i64 G) ∧ Own w0 ⟨w.heap.size + 1, 0, none⟩ (.slice none 0 0) ∧ Own w0 ⟨w.heap.size + 1, 1, none⟩ (.slice none 0 0) ∧ Own w0 ⟨w.heap.size + 1, 2, none⟩ (.slice none 0 0) := by rw [← hW]; exact ⟨cell_below (allocs_cell (by simp) (by rfl)) (below_box0 _ _), cell_below (allocs_cell (by simp) (by rfl)) (below_box0 _ _), cell_below (allocs_cell (by simp) (by rfl)) (below_box0 _ _), allocs_own (by simp) (by rfl), allocs_own (by simp) (by rfl), allocs_own (by simp) (by rfl)⟩
  have kC := Lib.hid (show ∀ u : World, Hid (Below w0.heap.size w0 u) → u.cell? ⟨w.heap.size, 0, none⟩ = some (.int .i64 P) ∧ u.cell? ⟨w.heap.size, 1, none⟩ = some (.int .i64 Q) ∧ u.cell? ⟨w.heap.size, 2, none⟩ = some (.int .i64 G) ∧ Own u ⟨w.heap.size + 1, 0, none⟩ (.slice none 0 0) ∧ Own u ⟨w.heap.size + 1, 1, none⟩ (.slice none 0 0) ∧ Own u ⟨w.heap.size + 1, 2, none⟩ (.slice none 0 0) from fun u h => ⟨cell_below hc.1 h.out, cell_below hc.2.1 h.out, cell_below hc.2.2.1 h.out, (hc.2.2.2.1).below h.out, (hc.2.2.2.2.1).below h.out, (hc.2.2.2.2.2).below h.out⟩)
  have kV := Lib.hid (show ∀ u : World, Hid (Below w0.heap.size w0 u) → Hid (Vars u) from fun u h => Lib.hid ((hv.out.below) (below_ext HBw.out h.out)))
  have kY := Lib.hid (show ∀ u : World, Hid (Below w0.heap.size w0 u) → Hid (Sl u Y ys) from fun u h => Lib.hid ((hY.out.below) (below_ext HBw.out h.out)))
  have kCl := Lib.hid (show ∀ u : World, Hid (Below w0.heap.size w0 u) → Hid (Sl u C cl) from fun u h => Lib.hid ((hC.out.below) (below_ext HBw.out h.out)))
  have kZ := Lib.hid (show ∀ u : World, Hid (Below w0.heap.size w0 u) → Hid (Sl u Z zl) from fun u h => Lib.hid ((hZ.out.below) (below_ext HBw.out h.out)))
  have HB_0 : Hid (Below w0.heap.size w0 w0) := Lib.hid (Below.refl _ _)
  have HW := Lib.hid hW
  clear hW hc hv hY hC hZ
  go_enter Tryd.func40, Tryd.ntmps40
  go_wp2_with fail
  rw [HW.out]
  obtain ⟨zc0, zc1, zc2, ⟨zc3, zf3⟩, ⟨zc4, zf4⟩, ⟨zc5, zf5⟩⟩ := kC.out _ HB_0
  go_wp2_with fail
  refine (cgiven_any P Q G b Y ys yn yc g HG hyn (by omega) hQ _ (kV.out _ HB_0) (kY.out _ HB_0)).mono ?_
  rintro e w1 ⟨rfl, hb0⟩
  have HB_1 := Lib.hid (below_ext HB_0.out hb0)
  clear zc0 zc1 zc2 zc3 zf3 zc4 zf4 zc5 zf5
  clear hb0
  obtain ⟨zc0, zc1, zc2, ⟨zc3, zf3⟩, ⟨zc4, zf4⟩, ⟨zc5, zf5⟩⟩ := kC.out _ HB_1
  cases hgo : g == 1 with
  | false =>
    have hg1 : g ≠ 1 := by simpa using hgo
    have HG1 := Lib.hid hg1
    clear hg1
    by_cases hl1 : nc = yn
    · skip
      have e1 : ((nc : Int) != (yn : Int)) = false := by simp; omega
      have HL := Lib.hid hl1
      clear hl1
      by_cases hl2 : nz = yn
      · skip
        have e2 : ((nz : Int) != (yn : Int)) = false := by simp; omega
        have HL2 := Lib.hid hl2
        clear hl2
        have hgq : ((g : Int) != 0) = !(g == 0) := rfl
        cases hgz : g == 0 with
        | false =>
          have hgn : ((g : Int) != 0) = true := by rw [hgq, hgz]; rfl
          clear hgq
          have hg0 : g ≠ 0 := by simpa using hgz
          have HG0 := Lib.hid hg0
          clear hg0
          obtain rfl : r = 2 := HRR.out.symm.trans (by rw [if_neg HG1.out, if_pos ⟨HL.out, HL2.out⟩, if_neg HG0.out])
          have hbF := below_ext HBw.out HB_1.out
          go_wp2
          exact bodyPost_ret (v := cvE 2) (by simp [results, Tryd.results40, go_sem, zc3, zc4, zc5]) rfl ⟨rfl, below_set3' hbF (by omega) _ _ _⟩
        | true =>
          clear hgq
          obtain rfl : g = 0 := by simpa using hgz
          clear hgz hgo
          have HCY : Hid ((cl.any fun x => !scB Q x) = !sc) := Lib.hid (by rw [any_not_all, HSC.out])
          have HSY := Lib.hid (says_csi P Q G w.heap.size _ (Lib.hid (show GBox w1 w.heap.size P Q G from ⟨(kC.out _ HB_1).1, (kC.out _ HB_1).2.1, (kC.out _ HB_1).2.2.1⟩)))
          go_wp2_with fail
          refine (cf_csi (.pointer (some ⟨w.heap.size, 0, none⟩)) (fun x => !scB Q x) (!sc) C cl nc cc HCY hcn (Lib.hid (by omega)) _ (kCl.out _ HB_1) HSY).mono ?_
          rintro e w2 ⟨rfl, hb0⟩
          have HB_2 := Lib.hid (below_ext HB_1.out hb0)
          clear zc0 zc1 zc2 zc3 zf3 zc4 zf4 zc5 zf5
          clear hb0
          obtain ⟨zc0, zc1, zc2, ⟨zc3, zf3⟩, ⟨zc4, zf4⟩, ⟨zc5, zf5⟩⟩ := kC.out _ HB_2
          cases sc with
          | false =>
            obtain rfl : r = 2 := HRR.out.symm.trans (by rw [if_neg HG1.out, if_pos ⟨HL.out, HL2.out⟩]; simp)
            have hbF := below_ext HBw.out HB_2.out
            go_wp2
            exact bodyPost_ret (v := cvE 2) (by simp [results, Tryd.results40, go_sem, zc3, zc4, zc5]) rfl ⟨rfl, below_set3' hbF (by omega) _ _ _⟩
          | true =>
            have HCZ : Hid ((zl.any fun x => !scB Q x) = !sz) := Lib.hid (by rw [any_not_all, HSZ.out])
            have HSW := Lib.hid (says_csi P Q G w.heap.size _ (Lib.hid (show GBox w2 w.heap.size P Q G from ⟨(kC.out _ HB_2).1, (kC.out _ HB_2).2.1, (kC.out _ HB_2).2.2.1⟩)))
            go_wp2_with fail
            refine (cf_csi (.pointer (some ⟨w.heap.size, 0, none⟩)) (fun x => !scB Q x) (!sz) Z zl nz cz HCZ hzn (Lib.hid (by omega)) _ (kZ.out _ HB_2) HSW).mono ?_
            rintro e w3 ⟨rfl, hb0⟩
            have HB_3 := Lib.hid (below_ext HB_2.out hb0)
            clear zc0 zc1 zc2 zc3 zf3 zc4 zf4 zc5 zf5
            clear hb0
            obtain ⟨zc0, zc1, zc2, ⟨zc3, zf3⟩, ⟨zc4, zf4⟩, ⟨zc5, zf5⟩⟩ := kC.out _ HB_3
            cases sz with
            | false =>
              obtain rfl : r = 2 := HRR.out.symm.trans (by rw [if_neg HG1.out, if_pos ⟨HL.out, HL2.out⟩]; simp)
              have hbF := below_ext HBw.out HB_3.out
              go_wp2
              exact bodyPost_ret (v := cvE 2) (by simp [results, Tryd.results40, go_sem, zc3, zc4, zc5]) rfl ⟨rfl, below_set3' hbF (by omega) _ _ _⟩
            | true =>
              have e0 : r = 0 := HRR.out.symm.trans (by rw [if_neg HG1.out, if_pos ⟨HL.out, HL2.out⟩]; simp)
              exact absurd HNE.out (by rw [e0]; decide)
      · skip
        have e2 : ((nz : Int) != (yn : Int)) = true := by simp; omega
        have HL2 := Lib.hid hl2
        clear hl2
        obtain rfl : r = 1 := HRR.out.symm.trans (by rw [if_neg HG1.out, if_neg (fun h => HL2.out h.2)])
        have hbF := below_ext HBw.out HB_1.out
        go_wp2
        exact bodyPost_ret (v := cvE 1) (by simp [results, Tryd.results40, go_sem, zc3, zc4, zc5]) rfl ⟨rfl, below_set3' hbF (by omega) _ _ _⟩
    · skip
      have e1 : ((nc : Int) != (yn : Int)) = true := by simp; omega
      have HL := Lib.hid hl1
      clear hl1
      obtain rfl : r = 1 := HRR.out.symm.trans (by rw [if_neg HG1.out, if_neg (fun h => HL.out h.1)])
      have hbF := below_ext HBw.out HB_1.out
      go_wp2
      exact bodyPost_ret (v := cvE 1) (by simp [results, Tryd.results40, go_sem, zc3, zc4, zc5]) rfl ⟨rfl, below_set3' hbF (by omega) _ _ _⟩
  | true =>
    obtain rfl : g = 1 := by simpa using hgo
    clear hgo
    obtain rfl : r = 1 := HRR.out.symm.trans (by rw [if_pos rfl])
    have hbF := below_ext HBw.out HB_1.out
    go_wp2
    exact bodyPost_ret (v := cvE 1) (by simp [results, Tryd.results40, go_sem, zc3, zc4, zc5]) rfl ⟨rfl, below_set3' hbF (by omega) _ _ _⟩
end Go.Proofs.YtijedphpcocfnaaDoor
namespace Go.Proofs.YtijedphpcocfnaaDoor
open Go.RowKit SpM
set_option linter.unusedVariables false
set_option linter.unusedSimpArgs false
set_option maxRecDepth 100000
set_option maxHeartbeats 3200000 in
theorem none19 (w : World) : Calls Tryd.prog 42 #[choV none 0 0 none 0 0 none 0 0] w fun e' w' => e' = .returned (.bool true) ∧ Below w.heap.size w w' := by
  obtain ⟨w0, hW⟩ : ∃ W, (w.alloc (choO none 0 0 none 0 0 none 0 0)) = W := ⟨_, rfl⟩
  have HBw : Hid (Below w.heap.size w w0) := Lib.hid (by rw [← hW]; exact below_box0 _ _)
  have hc : w0.cell? ⟨w.heap.size, 0, none⟩ = some (.slice none 0 0) ∧ w0.cell? ⟨w.heap.size, 1, none⟩ = some (.slice none 0 0) ∧ w0.cell? ⟨w.heap.size, 2, none⟩ = some (.slice none 0 0) := by rw [← hW]; exact ⟨allocs_cell (by simp) (by rfl), allocs_cell (by simp) (by rfl), allocs_cell (by simp) (by rfl)⟩
  have kC := Lib.hid (show ∀ u : World, Hid (Below w0.heap.size w0 u) → u.cell? ⟨w.heap.size, 0, none⟩ = some (.slice none 0 0) ∧ u.cell? ⟨w.heap.size, 1, none⟩ = some (.slice none 0 0) ∧ u.cell? ⟨w.heap.size, 2, none⟩ = some (.slice none 0 0) from fun u h => ⟨cell_below hc.1 h.out, cell_below hc.2.1 h.out, cell_below hc.2.2 h.out⟩)
  have HB_0 : Hid (Below w0.heap.size w0 w0) := Lib.hid (Below.refl _ _)
  have HW := Lib.hid hW
  clear hW hc 
  go_enter Tryd.func42, Tryd.ntmps42
  go_wp2_with fail
  rw [HW.out]
  obtain ⟨zc0, zc1, zc2⟩ := kC.out _ HB_0
  go_wp2_with fail
  refine (rsamec_true none 0 none 0 none 0 none 0 none 0 none 0 [] 0 [] 0 [] 0 (Lib.hid rfl) (Lib.hid rfl) (Lib.hid rfl) (by omega) (by omega) (by omega) _ (Lib.hid (sl0 _ _)) (Lib.hid (sl0 _ _)) (Lib.hid (sl0 _ _)) (Lib.hid (sl0 _ _)) (Lib.hid (sl0 _ _)) (Lib.hid (sl0 _ _))).mono ?_
  rintro e w1 ⟨rfl, hb0⟩
  have HB_1 := Lib.hid (below_ext HB_0.out hb0)
  clear zc0 zc1 zc2
  clear hb0
  obtain ⟨zc0, zc1, zc2⟩ := kC.out _ HB_1
  have hbF := below_ext HBw.out HB_1.out
  go_wp2
  go_ret
  exact ⟨rfl, hbF⟩
end Go.Proofs.YtijedphpcocfnaaDoor
namespace Go.Proofs.YtijedphpcocfnaaDoor
open Go.RowKit SpM
set_option linter.unusedVariables false
set_option linter.unusedSimpArgs false
set_option maxRecDepth 100000
theorem givC_range {P Q G b : Int} {ys : List Int} : givC P Q G b ys = 0 ∨ givC P Q G b ys = 1 ∨ givC P Q G b ys = 2 := by
  unfold givC
  split
  · split
    · split
      · split <;> simp
      · simp
    · simp
  · simp
theorem checkC_sim {P Q G b : Int} {ys cl zl : List Int} {n : Nat} (hg : givC P Q G b ys = 0) (hn : ys.length = n) (hc : cl.length = n) (hz : zl.length = n) (h1 : cl.all (scB Q) = true) (h2 : zl.all (scB Q) = true) :
    checkC P Q G b ys (sumL Q 0 cl) (comK P Q b ys cl zl n) cl zl = true := by
  obtain ⟨g1, g2, g3, g4, g5⟩ := givC_0 hg
  obtain ⟨hp2, hp, hq3, hqp⟩ := validG_P g1
  obtain ⟨s0, s1⟩ := sumL_in (Q := Q) (by omega) cl 0 (by omega) (by omega)
  have hs : scB Q (sumL Q 0 cl) = true := by simp [scB, s0, s1]
  have hm : (comK P Q b ys cl zl n).all (memG P Q) = true := by
    rw [List.all_eq_true]
    intro x hx
    simp only [comK, List.mem_map, List.mem_range] at hx
    obtain ⟨i, hi, rfl⟩ := hx
    have hy := all_get g5 (show i < ys.length by omega)
    have hz2 := scB_lo (all_get h2 (show i < zl.length by omega))
    exact mem_mul hp2 (by omega) (mem_pw hp2 (by omega) hz2 g4) (mem_pw hp2 (by omega) (Int.emod_nonneg _ (by omega)) hy)
  have ha : accL P Q b ys (comK P Q b ys cl zl n) cl zl n 0 = true := by
    unfold accL
    rw [List.drop_zero, List.all_eq_true]
    intro i hi
    have hi' : i < n := by simpa using hi
    rw [comK_get hi']
    simp
  unfold checkC accB formB formL
  rw [hg, hs, hn, comK_length, hc, hz, List.drop_zero, List.drop_zero, List.drop_zero, hm, h1, h2, ha]
  simp
set_option maxHeartbeats 25600000 in
theorem cs_early (P Q G b : Int) (Y : Option Addr) (ys : List Int) (yn yc : Nat) (C : Option Addr) (cl : List Int) (nc cc : Nat) (Z : Option Addr) (zl : List Int) (nz cz : Nat) (hyn : Hid (ys.length = yn)) (hcn : Hid (cl.length = nc)) (hzn : Hid (zl.length = nz)) (hQ : Q < 9223372036854775808) (HFB : Hid ((decide (yn ≤ 40) && !(([⟨none, 0, 0, C, nc, cc, Z, nz, cz⟩] : List Cho).any bigC)) = false)) (w : World) (hv : Hid (Vars w)) (hY : Hid (Sl w Y ys)) (hC : Hid (Sl w C cl)) (hZ : Hid (Sl w Z zl)) :
    Calls Tryd.prog 8 #[gv P Q G, .int .i64 b, .slice Y yn yc, .slice C nc cc, .slice Z nz cz] w fun e' w' => e' = .returned (.bool true) ∧ Below w.heap.size w w' := by
  obtain ⟨w0, hW⟩ : ∃ W, (w.alloc (gObj P Q G)) = W := ⟨_, rfl⟩
  have HBw : Hid (Below w.heap.size w w0) := Lib.hid (by rw [← hW]; exact below_box0 _ _)
  have hc : w0.cell? ⟨w.heap.size, 0, none⟩ = some (.int .i64 P) ∧ w0.cell? ⟨w.heap.size, 1, none⟩ = some (.int .i64 Q) ∧ w0.cell? ⟨w.heap.size, 2, none⟩ = some (.int .i64 G) := by rw [← hW]; exact ⟨allocs_cell (by simp) (by rfl), allocs_cell (by simp) (by rfl), allocs_cell (by simp) (by rfl)⟩
  have kC := Lib.hid (show ∀ u : World, Hid (Below w0.heap.size w0 u) → u.cell? ⟨w.heap.size, 0, none⟩ = some (.int .i64 P) ∧ u.cell? ⟨w.heap.size, 1, none⟩ = some (.int .i64 Q) ∧ u.cell? ⟨w.heap.size, 2, none⟩ = some (.int .i64 G) from fun u h => ⟨cell_below hc.1 h.out, cell_below hc.2.1 h.out, cell_below hc.2.2 h.out⟩)
  have kV := Lib.hid (show ∀ u : World, Hid (Below w0.heap.size w0 u) → Hid (Vars u) from fun u h => Lib.hid ((hv.out.below) (below_ext HBw.out h.out)))
  have kY := Lib.hid (show ∀ u : World, Hid (Below w0.heap.size w0 u) → Hid (Sl u Y ys) from fun u h => Lib.hid ((hY.out.below) (below_ext HBw.out h.out)))
  have kCl := Lib.hid (show ∀ u : World, Hid (Below w0.heap.size w0 u) → Hid (Sl u C cl) from fun u h => Lib.hid ((hC.out.below) (below_ext HBw.out h.out)))
  have kZ := Lib.hid (show ∀ u : World, Hid (Below w0.heap.size w0 u) → Hid (Sl u Z zl) from fun u h => Lib.hid ((hZ.out.below) (below_ext HBw.out h.out)))
  have HB_0 : Hid (Below w0.heap.size w0 w0) := Lib.hid (Below.refl _ _)
  have HW := Lib.hid hW
  clear hW hc hv hY hC hZ
  go_enter Tryd.func8, Tryd.ntmps8
  go_wp2_with fail
  rw [HW.out]
  obtain ⟨zc0, zc1, zc2⟩ := kC.out _ HB_0
  go_wp2_with fail
  refine (awake19 _ (kV.out _ HB_0)).mono ?_
  rintro e w1 ⟨rfl, hb0⟩
  have HB_1 := Lib.hid (below_ext HB_0.out hb0)
  clear zc0 zc1 zc2
  clear hb0
  obtain ⟨zc0, zc1, zc2⟩ := kC.out _ HB_1
  have HCW := Lib.hid (cws1 w1 53 none 0 0 C nc cc Z nz cz)
  have hq := below_box0 w1 (.cells #[.slice none 0 0, .slice C nc cc, .slice Z nz cz] 53)
  have HB_2 := Lib.hid (below_ext HB_1.out hq)
  clear hq
  go_wp2_with fail
  refine (few19_any Y yn yc w1.heap.size false [⟨none, 0, 0, C, nc, cc, Z, nz, cz⟩] 1 1 HFB (Lib.hid rfl) (by omega) _ HCW).mono ?_
  rintro e w3 ⟨rfl, hb0⟩
  have HB_3 := Lib.hid (below_ext HB_2.out hb0)
  clear zc0 zc1 zc2
  clear hb0
  obtain ⟨zc0, zc1, zc2⟩ := kC.out _ HB_3
  go_wp2_with fail
  refine (awake19 _ (kV.out _ HB_3)).mono ?_
  rintro e w4 ⟨rfl, hb0⟩
  have HB_4 := Lib.hid (below_ext HB_3.out hb0)
  clear zc0 zc1 zc2
  clear hb0
  obtain ⟨zc0, zc1, zc2⟩ := kC.out _ HB_4
  have hbF := below_ext HBw.out HB_4.out
  go_wp2
  go_ret
  exact ⟨rfl, hbF⟩
set_option maxHeartbeats 25600000 in
theorem cs_bad (P Q G b : Int) (Y : Option Addr) (ys : List Int) (yn yc : Nat) (C : Option Addr) (cl : List Int) (nc cc : Nat) (Z : Option Addr) (zl : List Int) (nz cz : Nat) (hyn : Hid (ys.length = yn)) (hcn : Hid (cl.length = nc)) (hzn : Hid (zl.length = nz)) (hQ : Q < 9223372036854775808) (HFB : Hid ((decide (yn ≤ 40) && !(([⟨none, 0, 0, C, nc, cc, Z, nz, cz⟩] : List Cho).any bigC)) = true)) (r : Int) (hr : Hid (simE19 P Q G b ys cl zl = r)) (hne : (r != 0) = true) (w : World) (hv : Hid (Vars w)) (hY : Hid (Sl w Y ys)) (hC : Hid (Sl w C cl)) (hZ : Hid (Sl w Z zl)) :
    Calls Tryd.prog 8 #[gv P Q G, .int .i64 b, .slice Y yn yc, .slice C nc cc, .slice Z nz cz] w fun e' w' => e' = .returned (.bool true) ∧ Below w.heap.size w w' := by
  obtain ⟨l1, _, l3, l4⟩ := few1_parts HFB.out
  dsimp only at l3 l4
  obtain ⟨g, hg⟩ : ∃ g, givC P Q G b ys = g := ⟨_, rfl⟩
  obtain ⟨sc, hsc⟩ : ∃ x, cl.all (scB Q) = x := ⟨_, rfl⟩
  obtain ⟨sz, hsz⟩ : ∃ x, zl.all (scB Q) = x := ⟨_, rfl⟩
  obtain ⟨vb, hvb⟩ : ∃ x, validG P Q G = x := ⟨_, rfl⟩
  have HG := Lib.hid hg
  have HSC := Lib.hid hsc
  have HSZ := Lib.hid hsz
  have HVB := Lib.hid hvb
  have HGR : Hid (g = 0 ∨ g = 1 ∨ g = 2) := Lib.hid (by rw [← hg]; exact givC_range)
  have HRR : Hid ((if g = 1 then 1 else (if nc = yn ∧ nz = yn then (if g = 0 then (if sc = true then (if sz = true then 0 else 2) else 2) else 2) else 1) : Int) = r) := Lib.hid (by rw [← hr.out, simE19, hg, hsc, hsz, hyn.out, hcn.out, hzn.out])
  have HGV : Hid (vb = false → g = 1) := Lib.hid (fun h => by rw [← hg]; unfold givC; rw [hvb, h]; rfl)
  have HNE := Lib.hid hne
  clear hg hsc hsz hne hvb
  obtain ⟨w0, hW⟩ : ∃ W, (w.alloc (gObj P Q G)) = W := ⟨_, rfl⟩
  have HBw : Hid (Below w.heap.size w w0) := Lib.hid (by rw [← hW]; exact below_box0 _ _)
  have hc : w0.cell? ⟨w.heap.size, 0, none⟩ = some (.int .i64 P) ∧ w0.cell? ⟨w.heap.size, 1, none⟩ = some (.int .i64 Q) ∧ w0.cell? ⟨w.heap.size, 2, none⟩ = some (.int .i64 G) := by rw [← hW]; exact ⟨allocs_cell (by simp) (by rfl), allocs_cell (by simp) (by rfl), allocs_cell (by simp) (by rfl)⟩
  have kC := Lib.hid (show ∀ u : World, Hid (Below w0.heap.size w0 u) → u.cell? ⟨w.heap.size, 0, none⟩ = some (.int .i64 P) ∧ u.cell? ⟨w.heap.size, 1, none⟩ = some (.int .i64 Q) ∧ u.cell? ⟨w.heap.size, 2, none⟩ = some (.int .i64 G) from fun u h => ⟨cell_below hc.1 h.out, cell_below hc.2.1 h.out, cell_below hc.2.2 h.out⟩)
  have kV := Lib.hid (show ∀ u : World, Hid (Below w0.heap.size w0 u) → Hid (Vars u) from fun u h => Lib.hid ((hv.out.below) (below_ext HBw.out h.out)))
  have kY := Lib.hid (show ∀ u : World, Hid (Below w0.heap.size w0 u) → Hid (Sl u Y ys) from fun u h => Lib.hid ((hY.out.below) (below_ext HBw.out h.out)))
  have kCl := Lib.hid (show ∀ u : World, Hid (Below w0.heap.size w0 u) → Hid (Sl u C cl) from fun u h => Lib.hid ((hC.out.below) (below_ext HBw.out h.out)))
  have kZ := Lib.hid (show ∀ u : World, Hid (Below w0.heap.size w0 u) → Hid (Sl u Z zl) from fun u h => Lib.hid ((hZ.out.below) (below_ext HBw.out h.out)))
  have HB_0 : Hid (Below w0.heap.size w0 w0) := Lib.hid (Below.refl _ _)
  have HW := Lib.hid hW
  clear hW hc hv hY hC hZ
  go_enter Tryd.func8, Tryd.ntmps8
  go_wp2_with fail
  rw [HW.out]
  obtain ⟨zc0, zc1, zc2⟩ := kC.out _ HB_0
  go_wp2_with fail
  refine (awake19 _ (kV.out _ HB_0)).mono ?_
  rintro e w1 ⟨rfl, hb0⟩
  have HB_1 := Lib.hid (below_ext HB_0.out hb0)
  clear zc0 zc1 zc2
  clear hb0
  obtain ⟨zc0, zc1, zc2⟩ := kC.out _ HB_1
  have HCW := Lib.hid (cws1 w1 53 none 0 0 C nc cc Z nz cz)
  have hq := below_box0 w1 (.cells #[.slice none 0 0, .slice C nc cc, .slice Z nz cz] 53)
  have HB_2 := Lib.hid (below_ext HB_1.out hq)
  clear hq
  go_wp2_with fail
  refine (few19_any Y yn yc w1.heap.size true [⟨none, 0, 0, C, nc, cc, Z, nz, cz⟩] 1 1 HFB (Lib.hid rfl) (by omega) _ HCW).mono ?_
  rintro e w3 ⟨rfl, hb0⟩
  have HB_3 := Lib.hid (below_ext HB_2.out hb0)
  clear zc0 zc1 zc2
  clear hb0
  obtain ⟨zc0, zc1, zc2⟩ := kC.out _ HB_3
  go_wp2_with fail
  refine (csim_bad P Q G b Y ys yn yc C cl nc cc Z zl nz cz r hr HNE.out hyn hcn hzn (by omega) (by omega) (by omega) hQ _ (kV.out _ HB_3) (kY.out _ HB_3) (kCl.out _ HB_3) (kZ.out _ HB_3)).mono ?_
  rintro e w4 ⟨rfl, hb0⟩
  have HB_4 := Lib.hid (below_ext HB_3.out hb0)
  clear zc0 zc1 zc2
  clear hb0
  obtain ⟨zc0, zc1, zc2⟩ := kC.out _ HB_4
  have hq := below_box0 w4 (choO none 0 0 none 0 0 none 0 0)
  have HB_5 := Lib.hid (below_ext HB_4.out hq)
  have hc : (w4.alloc (choO none 0 0 none 0 0 none 0 0)).cell? ⟨w4.heap.size, 0, none⟩ = some (.slice none 0 0) ∧ (w4.alloc (choO none 0 0 none 0 0 none 0 0)).cell? ⟨w4.heap.size, 1, none⟩ = some (.slice none 0 0) ∧ (w4.alloc (choO none 0 0 none 0 0 none 0 0)).cell? ⟨w4.heap.size, 2, none⟩ = some (.slice none 0 0) := ⟨allocs_cell rfl (by rfl), allocs_cell rfl (by rfl), allocs_cell rfl (by rfl)⟩
  have HC5 := Lib.hid hc
  clear zc0 zc1 zc2
  clear hq
  obtain ⟨zc0, zc1, zc2⟩ := kC.out _ HB_5
  obtain ⟨zq0, zq1, zq2⟩ := hc
  go_wp2_with fail
  obtain ⟨w5, hw⟩ : ∃ x, (w4.alloc (choO none 0 0 none 0 0 none 0 0)) = x := ⟨_, rfl⟩
  rw [hw] at HC5 HB_5 ⊢
  have HSN5 : Hid (w5.heap.size = w4.heap.size + 1) := Lib.hid (by rw [← hw]; simp)
  clear zc0 zc1 zc2 zq0 zq1 zq2
  clear hw
  have HB_w5_5 : Hid (Below w5.heap.size w5 w5) := Lib.hid (Below.refl _ _)
  have kP := Lib.hid (show ∀ u : World, Hid (Below w5.heap.size w5 u) → u.cell? ⟨w4.heap.size, 0, none⟩ = some (.slice none 0 0) ∧ u.cell? ⟨w4.heap.size, 1, none⟩ = some (.slice none 0 0) ∧ u.cell? ⟨w4.heap.size, 2, none⟩ = some (.slice none 0 0) from fun u h => ⟨cell_below HC5.out.1 h.out, cell_below HC5.out.2.1 h.out, cell_below HC5.out.2.2 h.out⟩)
  obtain ⟨zc0, zc1, zc2⟩ := kC.out _ HB_5
  obtain ⟨kP_0, kP_1, kP_2⟩ := kP.out _ HB_w5_5
  go_wp2_with fail
  refine (rfirst_any P Q G b Y ys yn yc g HG hyn (by omega) hQ _ (kY.out _ HB_5)).mono ?_
  rintro e w6 ⟨rfl, hb0⟩
  have HB_6 := Lib.hid (below_ext HB_5.out hb0)
  have HB_w5_6 := Lib.hid (below_ext HB_w5_5.out hb0)
  clear zc0 zc1 zc2 kP_0 kP_1 kP_2
  clear hb0
  obtain ⟨zc0, zc1, zc2⟩ := kC.out _ HB_6
  obtain ⟨kP_0, kP_1, kP_2⟩ := kP.out _ HB_w5_6
  go_wp2_with fail
  refine (rvalid_any P Q G vb HVB hQ _).mono ?_
  rintro e w7 ⟨rfl, hb0⟩
  have HB_7 := Lib.hid (below_ext HB_6.out hb0)
  have HB_w5_7 := Lib.hid (below_ext HB_w5_6.out hb0)
  clear zc0 zc1 zc2 kP_0 kP_1 kP_2
  clear hb0
  obtain ⟨zc0, zc1, zc2⟩ := kC.out _ HB_7
  obtain ⟨kP_0, kP_1, kP_2⟩ := kP.out _ HB_w5_7
  cases vb with
  | false =>
    obtain rfl : g = 1 := HGV.out rfl
    obtain rfl : r = 1 := HRR.out.symm.trans (by rw [if_pos rfl])
    have efz : ((1 : Int) == 0) = false := by decide
    go_wp2_with fail
    refine (none19 _).mono ?_
    rintro e w8 ⟨rfl, hb0⟩
    have HB_8 := Lib.hid (below_ext HB_7.out hb0)
    have HB_w5_8 := Lib.hid (below_ext HB_w5_7.out hb0)
    clear zc0 zc1 zc2 kP_0 kP_1 kP_2
    clear hb0
    obtain ⟨zc0, zc1, zc2⟩ := kC.out _ HB_8
    obtain ⟨kP_0, kP_1, kP_2⟩ := kP.out _ HB_w5_8
    have hbF := below_ext HBw.out HB_8.out
    go_wp2
    go_ret
    exact ⟨rfl, hbF⟩
  | true =>
    by_cases hl1 : nc = yn
    · skip
      have e1 : ((nc : Int) != (yn : Int)) = false := by simp; omega
      have HL := Lib.hid hl1
      clear hl1
      by_cases hl2 : nz = yn
      · skip
        have e2 : ((nz : Int) != (yn : Int)) = false := by simp; omega
        have HL2 := Lib.hid hl2
        clear hl2
        cases hgz : g == 0 with
        | false =>
          have e9 : g = r := (HRR.out.symm.trans (by have hg0 : g ≠ 0 := (by simpa using hgz); rw [if_pos (show nc = yn ∧ nz = yn from ⟨HL.out, HL2.out⟩), if_neg hg0]; rcases HGR.out with h | h | h <;> (first | exact absurd h hg0 | (rw [h]; rfl)))).symm
          subst e9
          have efz : ((g : Int) == 0) = false := by exact hgz
          have efn : ((g : Int) != 0) = true := by rw [bne, hgz]; rfl
          have eff : ((g : Int) == g) = true := by simp
          go_wp2_with fail
          refine (none19 _).mono ?_
          rintro e w8 ⟨rfl, hb0⟩
          have HB_8 := Lib.hid (below_ext HB_7.out hb0)
          have HB_w5_8 := Lib.hid (below_ext HB_w5_7.out hb0)
          clear zc0 zc1 zc2 kP_0 kP_1 kP_2
          clear hb0
          obtain ⟨zc0, zc1, zc2⟩ := kC.out _ HB_8
          obtain ⟨kP_0, kP_1, kP_2⟩ := kP.out _ HB_w5_8
          have hbF := below_ext HBw.out HB_8.out
          go_wp2
          go_ret
          exact ⟨rfl, hbF⟩
        | true =>
          obtain rfl : g = 0 := by simpa using hgz
          clear hgz
          go_wp2_with fail
          refine (rsc19_any P Q G C cl nc cc sc HSC hcn (by omega) _ (kCl.out _ HB_7)).mono ?_
          rintro e w8 ⟨rfl, hb0⟩
          have HB_8 := Lib.hid (below_ext HB_7.out hb0)
          have HB_w5_8 := Lib.hid (below_ext HB_w5_7.out hb0)
          clear zc0 zc1 zc2 kP_0 kP_1 kP_2
          clear hb0
          obtain ⟨zc0, zc1, zc2⟩ := kC.out _ HB_8
          obtain ⟨kP_0, kP_1, kP_2⟩ := kP.out _ HB_w5_8
          cases sc with
          | false =>
            obtain rfl : r = 2 := HRR.out.symm.trans (by rw [if_pos (show nc = yn ∧ nz = yn from ⟨HL.out, HL2.out⟩)]; simp)
            have efz : ((2 : Int) == 0) = false := by decide
            go_wp2_with fail
            refine (none19 _).mono ?_
            rintro e w9 ⟨rfl, hb0⟩
            have HB_9 := Lib.hid (below_ext HB_8.out hb0)
            have HB_w5_9 := Lib.hid (below_ext HB_w5_8.out hb0)
            clear zc0 zc1 zc2 kP_0 kP_1 kP_2
            clear hb0
            obtain ⟨zc0, zc1, zc2⟩ := kC.out _ HB_9
            obtain ⟨kP_0, kP_1, kP_2⟩ := kP.out _ HB_w5_9
            have hbF := below_ext HBw.out HB_9.out
            go_wp2
            go_ret
            exact ⟨rfl, hbF⟩
          | true =>
            go_wp2_with fail
            refine (rsc19_any P Q G Z zl nz cz sz HSZ hzn (by omega) _ (kZ.out _ HB_8)).mono ?_
            rintro e w9 ⟨rfl, hb0⟩
            have HB_9 := Lib.hid (below_ext HB_8.out hb0)
            have HB_w5_9 := Lib.hid (below_ext HB_w5_8.out hb0)
            clear zc0 zc1 zc2 kP_0 kP_1 kP_2
            clear hb0
            obtain ⟨zc0, zc1, zc2⟩ := kC.out _ HB_9
            obtain ⟨kP_0, kP_1, kP_2⟩ := kP.out _ HB_w5_9
            cases sz with
            | false =>
              obtain rfl : r = 2 := HRR.out.symm.trans (by rw [if_pos (show nc = yn ∧ nz = yn from ⟨HL.out, HL2.out⟩)]; simp)
              have efz : ((2 : Int) == 0) = false := by decide
              go_wp2_with fail
              refine (none19 _).mono ?_
              rintro e w10 ⟨rfl, hb0⟩
              have HB_10 := Lib.hid (below_ext HB_9.out hb0)
              have HB_w5_10 := Lib.hid (below_ext HB_w5_9.out hb0)
              clear zc0 zc1 zc2 kP_0 kP_1 kP_2
              clear hb0
              obtain ⟨zc0, zc1, zc2⟩ := kC.out _ HB_10
              obtain ⟨kP_0, kP_1, kP_2⟩ := kP.out _ HB_w5_10
              have hbF := below_ext HBw.out HB_10.out
              go_wp2
              go_ret
              exact ⟨rfl, hbF⟩
            | true =>
              have e0 : r = 0 := HRR.out.symm.trans (by rw [if_pos (show nc = yn ∧ nz = yn from ⟨HL.out, HL2.out⟩)]; simp)
              exact absurd HNE.out (by rw [e0]; decide)
      · skip
        have e2 : ((nz : Int) != (yn : Int)) = true := by simp; omega
        have HL2 := Lib.hid hl2
        clear hl2
        obtain rfl : r = 1 := HRR.out.symm.trans (by rw [if_neg (show ¬ (nc = yn ∧ nz = yn) from fun h => HL2.out h.2)]; split <;> rfl)
        have efz : ((1 : Int) == 0) = false := by decide
        go_wp2_with fail
        refine (none19 _).mono ?_
        rintro e w8 ⟨rfl, hb0⟩
        have HB_8 := Lib.hid (below_ext HB_7.out hb0)
        have HB_w5_8 := Lib.hid (below_ext HB_w5_7.out hb0)
        clear zc0 zc1 zc2 kP_0 kP_1 kP_2
        clear hb0
        obtain ⟨zc0, zc1, zc2⟩ := kC.out _ HB_8
        obtain ⟨kP_0, kP_1, kP_2⟩ := kP.out _ HB_w5_8
        have hbF := below_ext HBw.out HB_8.out
        go_wp2
        go_ret
        exact ⟨rfl, hbF⟩
    · skip
      have e1 : ((nc : Int) != (yn : Int)) = true := by simp; omega
      have HL := Lib.hid hl1
      clear hl1
      obtain rfl : r = 1 := HRR.out.symm.trans (by rw [if_neg (show ¬ (nc = yn ∧ nz = yn) from fun h => HL.out h.1)]; split <;> rfl)
      have efz : ((1 : Int) == 0) = false := by decide
      go_wp2_with fail
      refine (none19 _).mono ?_
      rintro e w8 ⟨rfl, hb0⟩
      have HB_8 := Lib.hid (below_ext HB_7.out hb0)
      have HB_w5_8 := Lib.hid (below_ext HB_w5_7.out hb0)
      clear zc0 zc1 zc2 kP_0 kP_1 kP_2
      clear hb0
      obtain ⟨zc0, zc1, zc2⟩ := kC.out _ HB_8
      obtain ⟨kP_0, kP_1, kP_2⟩ := kP.out _ HB_w5_8
      have hbF := below_ext HBw.out HB_8.out
      go_wp2
      go_ret
      exact ⟨rfl, hbF⟩
set_option maxHeartbeats 25600000 in
theorem cs_ok (P Q G b : Int) (Y : Option Addr) (ys : List Int) (yn yc : Nat) (C : Option Addr) (cl : List Int) (cc : Nat) (Z : Option Addr) (zl : List Int) (cz : Nat) (hyn : Hid (ys.length = yn)) (hcn : Hid (cl.length = yn)) (hzn : Hid (zl.length = yn)) (hQ : Q < 9223372036854775808) (HFB : Hid ((decide (yn ≤ 40) && !(([⟨none, 0, 0, C, yn, cc, Z, yn, cz⟩] : List Cho).any bigC)) = true)) (hr : Hid (simE19 P Q G b ys cl zl = 0)) (w : World) (hv : Hid (Vars w)) (hY : Hid (Sl w Y ys)) (hC : Hid (Sl w C cl)) (hZ : Hid (Sl w Z zl)) :
    Calls Tryd.prog 8 #[gv P Q G, .int .i64 b, .slice Y yn yc, .slice C yn cc, .slice Z yn cz] w fun e' w' => e' = .returned (.bool true) ∧ Below w.heap.size w w' := by
  obtain ⟨e1, e2, e3, e4, e5⟩ := simE19_0 hr.out
  have HG := Lib.hid e1
  have HSC := Lib.hid e4
  have HSZ := Lib.hid e5
  obtain ⟨g1, g2, g3, g4, g5⟩ := givC_0 e1
  obtain ⟨hp2, hp, hq3, hqp⟩ := validG_P g1
  have HVB := Lib.hid g1
  have HMB := Lib.hid g4
  have HMY := Lib.hid g5
  rw [hyn.out] at g2 g3
  have HCK : Hid (checkC P Q G b ys (sumL Q 0 cl) (comK P Q b ys cl zl yn) cl zl = true) := Lib.hid (checkC_sim e1 hyn.out hcn.out hzn.out e4 e5)
  have HCL : Hid ((comK P Q b ys cl zl yn).length = yn) := Lib.hid (comK_length _ _ _ _ _ _ _)
  have enn : ((yn : Int) != (yn : Int)) = false := by simp
  clear e1 e2 e3 e4 e5 g1 g4 g5
  obtain ⟨w0, hW⟩ : ∃ W, (w.alloc (gObj P Q G)) = W := ⟨_, rfl⟩
  have HBw : Hid (Below w.heap.size w w0) := Lib.hid (by rw [← hW]; exact below_box0 _ _)
  have hc : w0.cell? ⟨w.heap.size, 0, none⟩ = some (.int .i64 P) ∧ w0.cell? ⟨w.heap.size, 1, none⟩ = some (.int .i64 Q) ∧ w0.cell? ⟨w.heap.size, 2, none⟩ = some (.int .i64 G) := by rw [← hW]; exact ⟨allocs_cell (by simp) (by rfl), allocs_cell (by simp) (by rfl), allocs_cell (by simp) (by rfl)⟩
  have kC := Lib.hid (show ∀ u : World, Hid (Below w0.heap.size w0 u) → u.cell? ⟨w.heap.size, 0, none⟩ = some (.int .i64 P) ∧ u.cell? ⟨w.heap.size, 1, none⟩ = some (.int .i64 Q) ∧ u.cell? ⟨w.heap.size, 2, none⟩ = some (.int .i64 G) from fun u h => ⟨cell_below hc.1 h.out, cell_below hc.2.1 h.out, cell_below hc.2.2 h.out⟩)
  have kV := Lib.hid (show ∀ u : World, Hid (Below w0.heap.size w0 u) → Hid (Vars u) from fun u h => Lib.hid ((hv.out.below) (below_ext HBw.out h.out)))
  have kY := Lib.hid (show ∀ u : World, Hid (Below w0.heap.size w0 u) → Hid (Sl u Y ys) from fun u h => Lib.hid ((hY.out.below) (below_ext HBw.out h.out)))
  have kCl := Lib.hid (show ∀ u : World, Hid (Below w0.heap.size w0 u) → Hid (Sl u C cl) from fun u h => Lib.hid ((hC.out.below) (below_ext HBw.out h.out)))
  have kZ := Lib.hid (show ∀ u : World, Hid (Below w0.heap.size w0 u) → Hid (Sl u Z zl) from fun u h => Lib.hid ((hZ.out.below) (below_ext HBw.out h.out)))
  have HB_0 : Hid (Below w0.heap.size w0 w0) := Lib.hid (Below.refl _ _)
  have HW := Lib.hid hW
  clear hW hc hv hY hC hZ
  go_enter Tryd.func8, Tryd.ntmps8
  go_wp2_with fail
  rw [HW.out]
  obtain ⟨zc0, zc1, zc2⟩ := kC.out _ HB_0
  go_wp2_with fail
  refine (awake19 _ (kV.out _ HB_0)).mono ?_
  rintro e w1 ⟨rfl, hb0⟩
  have HB_1 := Lib.hid (below_ext HB_0.out hb0)
  clear zc0 zc1 zc2
  clear hb0
  obtain ⟨zc0, zc1, zc2⟩ := kC.out _ HB_1
  have HCW := Lib.hid (cws1 w1 53 none 0 0 C yn cc Z yn cz)
  have hq := below_box0 w1 (.cells #[.slice none 0 0, .slice C yn cc, .slice Z yn cz] 53)
  have HB_2 := Lib.hid (below_ext HB_1.out hq)
  clear hq
  go_wp2_with fail
  refine (few19_any Y yn yc w1.heap.size true [⟨none, 0, 0, C, yn, cc, Z, yn, cz⟩] 1 1 HFB (Lib.hid rfl) (by omega) _ HCW).mono ?_
  rintro e w3 ⟨rfl, hb0⟩
  have HB_3 := Lib.hid (below_ext HB_2.out hb0)
  clear zc0 zc1 zc2
  clear hb0
  obtain ⟨zc0, zc1, zc2⟩ := kC.out _ HB_3
  go_wp2_with fail
  refine (csim_ok P Q G b Y ys yn yc C cl cc Z zl cz HG HSC HSZ hyn hcn hzn hQ _ (kV.out _ HB_3) (kY.out _ HB_3) (kCl.out _ HB_3) (kZ.out _ HB_3)).mono ?_
  rintro e w4 ⟨A1, a1, C1, c1, Z1, z1, rfl, hA, hC, hZ, hb0⟩
  have HB_4 := Lib.hid (below_ext HB_3.out hb0)
  clear zc0 zc1 zc2
  clear hb0
  obtain ⟨zc0, zc1, zc2⟩ := kC.out _ HB_4
  have HB_w4_4 : Hid (Below w4.heap.size w4 w4) := Lib.hid (Below.refl _ _)
  have HA1 := Lib.hid hA
  have HC1 := Lib.hid hC
  have HZ1 := Lib.hid hZ
  clear hA hC hZ
  have kA1 := Lib.hid (show ∀ u : World, Hid (Below w4.heap.size w4 u) → Hid (Sl u A1 (comK P Q b ys cl zl yn)) from fun u h => Lib.hid (HA1.out.below h.out))
  have kC1 := Lib.hid (show ∀ u : World, Hid (Below w4.heap.size w4 u) → Hid (Sl u C1 cl) from fun u h => Lib.hid (HC1.out.below h.out))
  have kZ1 := Lib.hid (show ∀ u : World, Hid (Below w4.heap.size w4 u) → Hid (Sl u Z1 zl) from fun u h => Lib.hid (HZ1.out.below h.out))
  have hq := below_box0 w4 (choO A1 yn a1 C1 yn c1 Z1 yn z1)
  have HB_5 := Lib.hid (below_ext HB_4.out hq)
  have HB_w4_5 := Lib.hid (below_ext HB_w4_4.out hq)
  have hc : (w4.alloc (choO A1 yn a1 C1 yn c1 Z1 yn z1)).cell? ⟨w4.heap.size, 0, none⟩ = some (.slice A1 yn a1) ∧ (w4.alloc (choO A1 yn a1 C1 yn c1 Z1 yn z1)).cell? ⟨w4.heap.size, 1, none⟩ = some (.slice C1 yn c1) ∧ (w4.alloc (choO A1 yn a1 C1 yn c1 Z1 yn z1)).cell? ⟨w4.heap.size, 2, none⟩ = some (.slice Z1 yn z1) := ⟨allocs_cell rfl (by rfl), allocs_cell rfl (by rfl), allocs_cell rfl (by rfl)⟩
  have HC5 := Lib.hid hc
  clear zc0 zc1 zc2
  clear hq
  obtain ⟨zc0, zc1, zc2⟩ := kC.out _ HB_5
  obtain ⟨zq0, zq1, zq2⟩ := hc
  go_wp2_with fail
  obtain ⟨w5, hw⟩ : ∃ x, (w4.alloc (choO A1 yn a1 C1 yn c1 Z1 yn z1)) = x := ⟨_, rfl⟩
  rw [hw] at HC5 HB_5 HB_w4_5 ⊢
  have HSN5 : Hid (w5.heap.size = w4.heap.size + 1) := Lib.hid (by rw [← hw]; simp)
  clear zc0 zc1 zc2 zq0 zq1 zq2
  clear hw
  have HB_w5_5 : Hid (Below w5.heap.size w5 w5) := Lib.hid (Below.refl _ _)
  have kP := Lib.hid (show ∀ u : World, Hid (Below w5.heap.size w5 u) → u.cell? ⟨w4.heap.size, 0, none⟩ = some (.slice A1 yn a1) ∧ u.cell? ⟨w4.heap.size, 1, none⟩ = some (.slice C1 yn c1) ∧ u.cell? ⟨w4.heap.size, 2, none⟩ = some (.slice Z1 yn z1) from fun u h => ⟨cell_below HC5.out.1 h.out, cell_below HC5.out.2.1 h.out, cell_below HC5.out.2.2 h.out⟩)
  obtain ⟨zc0, zc1, zc2⟩ := kC.out _ HB_5
  obtain ⟨kP_0, kP_1, kP_2⟩ := kP.out _ HB_w5_5
  go_wp2_with fail
  refine (rfirst_any P Q G b Y ys yn yc 0 HG hyn (by omega) hQ _ (kY.out _ HB_5)).mono ?_
  rintro e w6 ⟨rfl, hb0⟩
  have HB_6 := Lib.hid (below_ext HB_5.out hb0)
  have HB_w4_6 := Lib.hid (below_ext HB_w4_5.out hb0)
  have HB_w5_6 := Lib.hid (below_ext HB_w5_5.out hb0)
  clear zc0 zc1 zc2 kP_0 kP_1 kP_2
  clear hb0
  obtain ⟨zc0, zc1, zc2⟩ := kC.out _ HB_6
  obtain ⟨kP_0, kP_1, kP_2⟩ := kP.out _ HB_w5_6
  go_wp2_with fail
  refine (rvalid_any P Q G true HVB hQ _).mono ?_
  rintro e w7 ⟨rfl, hb0⟩
  have HB_7 := Lib.hid (below_ext HB_6.out hb0)
  have HB_w4_7 := Lib.hid (below_ext HB_w4_6.out hb0)
  have HB_w5_7 := Lib.hid (below_ext HB_w5_6.out hb0)
  clear zc0 zc1 zc2 kP_0 kP_1 kP_2
  clear hb0
  obtain ⟨zc0, zc1, zc2⟩ := kC.out _ HB_7
  obtain ⟨kP_0, kP_1, kP_2⟩ := kP.out _ HB_w5_7
  go_wp2_with fail
  refine (rsc19_any P Q G C cl yn cc true HSC hcn (by omega) _ (kCl.out _ HB_7)).mono ?_
  rintro e w8 ⟨rfl, hb0⟩
  have HB_8 := Lib.hid (below_ext HB_7.out hb0)
  have HB_w4_8 := Lib.hid (below_ext HB_w4_7.out hb0)
  have HB_w5_8 := Lib.hid (below_ext HB_w5_7.out hb0)
  clear zc0 zc1 zc2 kP_0 kP_1 kP_2
  clear hb0
  obtain ⟨zc0, zc1, zc2⟩ := kC.out _ HB_8
  obtain ⟨kP_0, kP_1, kP_2⟩ := kP.out _ HB_w5_8
  go_wp2_with fail
  refine (rsc19_any P Q G Z zl yn cz true HSZ hzn (by omega) _ (kZ.out _ HB_8)).mono ?_
  rintro e w9 ⟨rfl, hb0⟩
  have HB_9 := Lib.hid (below_ext HB_8.out hb0)
  have HB_w4_9 := Lib.hid (below_ext HB_w4_8.out hb0)
  have HB_w5_9 := Lib.hid (below_ext HB_w5_8.out hb0)
  clear zc0 zc1 zc2 kP_0 kP_1 kP_2
  clear hb0
  obtain ⟨zc0, zc1, zc2⟩ := kC.out _ HB_9
  obtain ⟨kP_0, kP_1, kP_2⟩ := kP.out _ HB_w5_9
  go_wp2_with fail
  refine (eqs_any C1 cl yn c1 C cl yn cc true (Lib.hid (by simp)) hcn hcn (by omega) (by omega) _ (kC1.out _ HB_w4_9) (kCl.out _ HB_9)).mono ?_
  rintro e w10 ⟨rfl, hb0⟩
  have HB_10 := Lib.hid (below_ext HB_9.out hb0)
  have HB_w4_10 := Lib.hid (below_ext HB_w4_9.out hb0)
  have HB_w5_10 := Lib.hid (below_ext HB_w5_9.out hb0)
  clear zc0 zc1 zc2 kP_0 kP_1 kP_2
  clear hb0
  obtain ⟨zc0, zc1, zc2⟩ := kC.out _ HB_10
  obtain ⟨kP_0, kP_1, kP_2⟩ := kP.out _ HB_w5_10
  go_wp2_with fail
  refine (eqs_any Z1 zl yn z1 Z zl yn cz true (Lib.hid (by simp)) hzn hzn (by omega) (by omega) _ (kZ1.out _ HB_w4_10) (kZ.out _ HB_10)).mono ?_
  rintro e w11 ⟨rfl, hb0⟩
  have HB_11 := Lib.hid (below_ext HB_10.out hb0)
  have HB_w4_11 := Lib.hid (below_ext HB_w4_10.out hb0)
  have HB_w5_11 := Lib.hid (below_ext HB_w5_10.out hb0)
  clear zc0 zc1 zc2 kP_0 kP_1 kP_2
  clear hb0
  obtain ⟨zc0, zc1, zc2⟩ := kC.out _ HB_11
  obtain ⟨kP_0, kP_1, kP_2⟩ := kP.out _ HB_w5_11
  go_wp2
  clear zc0 zc1 zc2 kP_0 kP_1 kP_2
  go_loopw [107] (fun i wr => ∃ k : Nat, k ≤ yn ∧ i = .int .i64 k ∧ Hid (Below w0.heap.size w0 wr) ∧ Hid (Below w4.heap.size w4 wr) ∧ Hid (Below w5.heap.size w5 wr)) (fun i _ => yn - (intOf i).toNat)
  case atStart => exact ⟨0, by omega, rfl, HB_11, HB_w4_11, HB_w5_11⟩
  case round =>
    obtain ⟨k, hk, rfl, HB0, HB1, HB2⟩ := hrel
    obtain ⟨wo, rfl⟩ : ∃ wo : World, wo = wr := ⟨_, rfl⟩
    by_cases hlt : k < yn
    · have h0 : k < ys.length := by rw [hyn.out]; exact hlt
      have h1 : k < (comK P Q b ys cl zl yn).length := by rw [comK_length]; exact hlt
      have h2 : k < cl.length := by rw [hcn.out]; exact hlt
      have h3 : k < zl.length := by rw [hzn.out]; exact hlt
      obtain ⟨b0, o0, e0, hi0⟩ := (kY.out _ HB0).out k h0
      obtain ⟨b1, o1, e1, hi1⟩ := (kA1.out _ HB1).out k h1
      obtain ⟨b2, o2, e2, hi2⟩ := (kCl.out _ HB0).out k h2
      obtain ⟨b3, o3, e3, hi3⟩ := (kZ.out _ HB0).out k h3
      subst e0
      subst e1
      subst e2
      subst e3
      rw [comK_get hlt] at hi1
      have hmy := all_get HMY.out h0
      have hsc := all_get HSC.out h2
      have hsz := all_get HSZ.out h3
      obtain ⟨y, hy⟩ : ∃ x, ys.getD k 0 = x := ⟨_, rfl⟩
      obtain ⟨c, hc⟩ : ∃ x, cl.getD k 0 = x := ⟨_, rfl⟩
      obtain ⟨z, hz⟩ : ∃ x, zl.getD k 0 = x := ⟨_, rfl⟩
      rw [hy] at hi0 hmy hi1
      rw [hc] at hi2 hsc hi1
      rw [hz] at hi3 hsz hi1
      obtain ⟨V, hV⟩ : ∃ x, comF P Q b y c z = x := ⟨_, rfl⟩
      rw [hV] at hi1
      have HVV := Lib.hid hV
      have HMY1 := Lib.hid hmy
      have HSC1 := Lib.hid hsc
      have HSZ1 := Lib.hid hsz
      have evv : ((V : Int) != V) = false := by simp
      have HJ0 := Lib.hid hi0
      have HJ2 := Lib.hid hi2
      have HJ3 := Lib.hid hi3
      clear hV hmy hsc hsz hy hc hz h0 h1 h2 h3 hi0 hi2 hi3
      have hS := Lib.hid (show ∀ u1 u2 : World, (Hid (Below w0.heap.size w0 u1) ∧ Hid (Below w4.heap.size w4 u1) ∧ Hid (Below w5.heap.size w5 u1) ∧ Hid (Below wo.heap.size wo u1)) → Below u1.heap.size u1 u2 → (u2.cell? ⟨w.heap.size, 0, none⟩ = some (.int .i64 P) ∧ u2.cell? ⟨w.heap.size, 1, none⟩ = some (.int .i64 Q) ∧ u2.cell? ⟨w.heap.size, 2, none⟩ = some (.int .i64 G) ∧ u2.cell? ⟨b0, o0 + k, none⟩ = some (.int .i64 y) ∧ u2.cell? ⟨b2, o2 + k, none⟩ = some (.int .i64 c) ∧ u2.cell? ⟨b3, o3 + k, none⟩ = some (.int .i64 z) ∧ (Hid (Below w0.heap.size w0 u2) ∧ Hid (Below w4.heap.size w4 u2) ∧ Hid (Below w5.heap.size w5 u2)) ∧ Hid (Below wo.heap.size wo u2)) from fun u1 u2 h4 h5 => by
        have h7 := Lib.hid (below_ext h4.1.out h5)
        have h8 := Lib.hid (below_ext h4.2.1.out h5)
        have h9 := Lib.hid (below_ext h4.2.2.1.out h5)
        have h10 := Lib.hid (below_ext h4.2.2.2.out h5)
        obtain ⟨y0, y1, y2⟩ := kC.out _ h7
        exact ⟨y0, y1, y2, cell_below HJ0.out h10.out, cell_below HJ2.out h10.out, cell_below HJ3.out h10.out, ⟨h7, h8, h9⟩, h10⟩)
      have HDR : Hid (Below wo.heap.size wo wo) := Lib.hid (Below.refl _ _)
      go_wp2
      clear hi1
      go_region_held3 (fun w' => w'.cell? ⟨w.heap.size, 0, none⟩ = some (.int .i64 P) ∧ w'.cell? ⟨w.heap.size, 1, none⟩ = some (.int .i64 Q) ∧ w'.cell? ⟨w.heap.size, 2, none⟩ = some (.int .i64 G) ∧ w'.cell? ⟨b0, o0 + k, none⟩ = some (.int .i64 y) ∧ w'.cell? ⟨b2, o2 + k, none⟩ = some (.int .i64 c) ∧ w'.cell? ⟨b3, o3 + k, none⟩ = some (.int .i64 z) ∧ (Hid (Below w0.heap.size w0 w') ∧ Hid (Below w4.heap.size w4 w') ∧ Hid (Below w5.heap.size w5 w')) ∧ Hid (Below wo.heap.size wo w'))
        (first | exact hS.out _ _ ⟨HB0, HB1, HB2, HDR⟩ (Below.refl _ _).drew | (go_split_ands; exact hS.out _ _ ⟨by assumption, by assumption, by assumption, by assumption⟩ hbA) | go_keep)
        ((first | (go_at_call 43; (with_reducible refine (rcom19_ok P Q G b y c z V HVV HVB HMB HMY1 HSC1 HSZ1 _).mono ?_); rintro e9 wA ⟨rfl, hbA⟩)))
      rename_i hHeld
      obtain ⟨x0, x1, x2, x3, x4, x5, ⟨H5, H6, H7⟩, _⟩ := hHeld
      clear x0 x1 x2 x3 x4 x5
      go_wp2
      go_roundw
      case rel => exact ⟨k + 1, by omega, by go_num, H5, H6, H7⟩
      case measure => simp [intOf]; omega
    · obtain rfl : k = yn := by omega
      have hS := Lib.hid (show ∀ u1 u2 : World, (Hid (Below w0.heap.size w0 u1) ∧ Hid (Below w4.heap.size w4 u1) ∧ Hid (Below w5.heap.size w5 u1)) → Below u1.heap.size u1 u2 → (u2.cell? ⟨w.heap.size, 0, none⟩ = some (.int .i64 P) ∧ u2.cell? ⟨w.heap.size, 1, none⟩ = some (.int .i64 Q) ∧ u2.cell? ⟨w.heap.size, 2, none⟩ = some (.int .i64 G) ∧ u2.cell? ⟨w4.heap.size, 0, none⟩ = some (.slice A1 k a1) ∧ u2.cell? ⟨w4.heap.size, 1, none⟩ = some (.slice C1 k c1) ∧ u2.cell? ⟨w4.heap.size, 2, none⟩ = some (.slice Z1 k z1) ∧ Hid (Below w0.heap.size w0 u2) ∧ Hid (Below w4.heap.size w4 u2) ∧ Hid (Below w5.heap.size w5 u2)) from fun u1 u2 h4 h5 => by
        have h7 := Lib.hid (below_ext h4.1.out h5)
        have h8 := Lib.hid (below_ext h4.2.1.out h5)
        have h9 := Lib.hid (below_ext h4.2.2.out h5)
        obtain ⟨y0, y1, y2⟩ := kC.out _ h7
        obtain ⟨y3, y4, y5⟩ := kP.out _ h9
        exact ⟨y0, y1, y2, y3, y4, y5, h7, h8, h9⟩)
      clear hlt
      go_wp2
      go_region_held3 (fun w' => w'.cell? ⟨w.heap.size, 0, none⟩ = some (.int .i64 P) ∧ w'.cell? ⟨w.heap.size, 1, none⟩ = some (.int .i64 Q) ∧ w'.cell? ⟨w.heap.size, 2, none⟩ = some (.int .i64 G) ∧ w'.cell? ⟨w4.heap.size, 0, none⟩ = some (.slice A1 k a1) ∧ w'.cell? ⟨w4.heap.size, 1, none⟩ = some (.slice C1 k c1) ∧ w'.cell? ⟨w4.heap.size, 2, none⟩ = some (.slice Z1 k z1) ∧ Hid (Below w0.heap.size w0 w') ∧ Hid (Below w4.heap.size w4 w') ∧ Hid (Below w5.heap.size w5 w'))
        (first | exact hS.out _ _ ⟨HB0, HB1, HB2⟩ (Below.refl _ _).drew | (go_split_ands; exact hS.out _ _ ⟨by assumption, by assumption, by assumption⟩ hbA) | go_keep)
        ((first
          | (go_at_call 35; (with_reducible refine (rsum19_ok P Q G C cl k cc _ (Lib.hid rfl) hcn (by omega) HSC (by omega) (by omega) _ ?_).mono ?_); (go_split_ands; exact kCl.out _ (by assumption)); rintro e9 wA ⟨rfl, hbA⟩)
          | (go_at_call 31; (with_reducible refine (cccheck_any P Q G b Y ys k yc _ A1 (comK P Q b ys cl zl k) k a1 C1 cl k c1 Z1 zl k z1 true HCK hyn (by omega) HCL hcn hzn (by omega) (by omega) (by omega) hQ _ ?_ ?_ ?_ ?_ ?_).mono ?_); (go_split_ands; exact kV.out _ (by assumption)); (go_split_ands; exact kY.out _ (by assumption)); (go_split_ands; exact kA1.out _ (by assumption)); (go_split_ands; exact kC1.out _ (by assumption)); (go_split_ands; exact kZ1.out _ (by assumption)); rintro e9 wA ⟨rfl, hbA⟩)))
      rename_i hHeld
      obtain ⟨x0, x1, x2, x3, x4, x5, H5, _, _⟩ := hHeld
      clear x0 x1 x2 x3 x4 x5
      have hbF := below_ext HBw.out H5.out
      go_wp2
      go_ret
      exact ⟨rfl, hbF⟩
/-- THE LAW: true for every input. -/
theorem cs_true (P Q G b : Int) (Y : Option Addr) (ys : List Int) (yn yc : Nat) (C : Option Addr) (cl : List Int) (nc cc : Nat) (Z : Option Addr) (zl : List Int) (nz cz : Nat) (hyn : Hid (ys.length = yn)) (hcn : Hid (cl.length = nc)) (hzn : Hid (zl.length = nz)) (hQ : Q < 9223372036854775808) (w : World) (hv : Hid (Vars w)) (hY : Hid (Sl w Y ys)) (hC : Hid (Sl w C cl)) (hZ : Hid (Sl w Z zl)) :
    Calls Tryd.prog 8 #[gv P Q G, .int .i64 b, .slice Y yn yc, .slice C nc cc, .slice Z nz cz] w fun e' w' => e' = .returned (.bool true) ∧ Below w.heap.size w w' := by
  cases hf : (decide (yn ≤ 40) && !(([⟨none, 0, 0, C, nc, cc, Z, nz, cz⟩] : List Cho).any bigC)) with
  | false => exact cs_early P Q G b Y ys yn yc C cl nc cc Z zl nz cz hyn hcn hzn hQ (Lib.hid hf) w hv hY hC hZ
  | true =>
    obtain ⟨r, hr⟩ : ∃ r, simE19 P Q G b ys cl zl = r := ⟨_, rfl⟩
    cases h0 : r != 0 with
    | true => exact cs_bad P Q G b Y ys yn yc C cl nc cc Z zl nz cz hyn hcn hzn hQ (Lib.hid hf) r (Lib.hid hr) h0 w hv hY hC hZ
    | false =>
      obtain rfl : r = 0 := by simpa using h0
      obtain ⟨_, e2, e3, _, _⟩ := simE19_0 hr
      obtain rfl : yn = nc := by rw [← hyn.out, ← hcn.out, e2]
      obtain rfl : yn = nz := by rw [← hyn.out, ← hzn.out, e3]
      exact cs_ok P Q G b Y ys yn yc C cl cc Z zl cz hyn hcn hzn hQ (Lib.hid hf) (Lib.hid hr) w hv hY hC hZ
end Go.Proofs.YtijedphpcocfnaaDoor
