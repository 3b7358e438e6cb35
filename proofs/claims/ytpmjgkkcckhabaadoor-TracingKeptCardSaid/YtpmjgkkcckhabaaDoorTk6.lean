/- Contracts and lemmas: TlB, TlI. -/
import Derived.Test.YtpmjgkkcckhabaaDoorTk5
namespace Go.Proofs.YtpmjgkkcckhabaaDoor
open Go.RowKit SpM
set_option linter.unusedVariables false
set_option linter.unusedSimpArgs false
set_option maxRecDepth 100000
set_option maxHeartbeats 1600000 in
theorem rshort_any (A : Option Addr) (na ca : Nat) (C : Int) (Z : Option Addr) (nz cz : Nat) (r : Bool) (hr : Hid (shB na nz = r)) (w : World) :
    Calls Tryd.prog 23 #[prvL A na ca C Z nz cz] w fun e' w' => e' = .returned (.bool r) ∧ Below w.heap.size w w' := by
  have HX := below_box0 w (prObjL A na ca C Z nz cz)
  have hr1 := hr.out
  unfold shB at hr1
  by_cases h0 : na ≤ 20
  · have d0 : decide ((na : Int) ≤ 20) = true := by simp; omega
    by_cases h1 : nz ≤ 20
    · have d1 : decide ((nz : Int) ≤ 20) = true := by simp; omega
      obtain rfl : r = true := by rw [← hr1]; simp; omega
      clear hr1 hr
      go_enter Tryd.func23, Tryd.ntmps23
      go_wp2
      go_ret
      exact ⟨rfl, HX⟩
    · have d1 : decide ((nz : Int) ≤ 20) = false := by simp; omega
      obtain rfl : r = false := by rw [← hr1]; simp; omega
      clear hr1 hr
      go_enter Tryd.func23, Tryd.ntmps23
      go_wp2
      go_ret
      exact ⟨rfl, HX⟩
  · have d0 : decide ((na : Int) ≤ 20) = false := by simp; omega
    obtain rfl : r = false := by rw [← hr1]; simp; omega
    clear hr1 hr
    go_enter Tryd.func23, Tryd.ntmps23
    go_wp2
    go_ret
    exact ⟨rfl, HX⟩
set_option maxHeartbeats 3200000 in
theorem has_any (L : Option Addr) (ps : List PartR) (n c : Nat) (x : Int) (r : Bool) (hr : Hid (frB ps x n = r)) (hn : Hid (n ≤ ps.length)) (hbig : n < 1000000) (w : World) (hs : Hid (Pa w L ps)) :
    Calls Tryd.prog 56 #[.slice L n c, .int .i64 x] w fun e' w' => e' = .returned (.bool (!r)) ∧ Below w.heap.size w w' := by
  go_enter Tryd.func56, Tryd.ntmps56
  go_wp2
  go_loopw [5] (fun i wr => ∃ k : Nat, k ≤ n ∧ i = .int .i64 k ∧ Hid (frB ps x k = true) ∧ Hid (Below w.heap.size w wr)) (fun i _ => n - (intOf i).toNat)
  case atStart => exact ⟨0, by omega, rfl, Lib.hid rfl, Lib.hid (Below.refl _ _)⟩
  case round =>
    obtain ⟨k, hk, rfl, HR, HBr⟩ := hrel
    by_cases hlt : k < n
    · have hkl : k < ps.length := by have := hn.out; omega
      obtain ⟨b, o, hA, i0, i1, i2, i3, i4, _⟩ := (hs.out.below HBr.out) k hkl
      subst hA
      cases hpx : ((ps.getD k noPart).ix == x) with
      | false =>
        have HN : Hid (frB ps x (k + 1) = true) := Lib.hid (by rw [frB, HR.out, bne, hpx]; rfl)
        obtain ⟨p, hp⟩ : ∃ p, ps.getD k noPart = p := ⟨_, rfl⟩
        rw [hp] at i0 hpx
        clear hp hkl HR i1 i2 i3 i4
        go_wp2
        go_roundw
        case rel => exact ⟨k + 1, by omega, by go_num, HN, HBr⟩
        case measure => simp [intOf]; omega
      | true =>
        obtain rfl : r = false := by
          cases hrr : r with
          | false => rfl
          | true => exact absurd (by simpa using hpx) (frB_get (hr.out.trans hrr) k hlt)
        obtain ⟨p, hp⟩ : ∃ p, ps.getD k noPart = p := ⟨_, rfl⟩
        rw [hp] at i0 hpx
        clear hp hkl HR i1 i2 i3 i4
        go_wp2
        go_ret
        exact ⟨rfl, HBr.out⟩
    · obtain rfl : k = n := by omega
      obtain rfl : r = true := hr.out.symm.trans HR.out
      clear HR
      go_wp2
      go_ret
      exact ⟨rfl, HBr.out⟩
set_option maxHeartbeats 3200000 in
theorem rord_1 (o : OrdR) (h : o.num < 0) (w : World) :
    Calls Tryd.prog 31 #[orV o] w fun e' w' => e' = .returned (.bool false) ∧ Below w.heap.size w w' := by
  have dn0 : decide (o.num < 0) = true := by simp; omega
  obtain ⟨w0, HW, HBw, kC⟩ := stOr o w
  have HB_0 : Hid (Below w0.heap.size w0 w0) := Lib.hid (Below.refl _ _)
  go_enter Tryd.func31, Tryd.ntmps31
  go_upto_region 1 with (fail)
  rw [HW.out]
  obtain ⟨zc0, zc1, zc2, zc3, zc4, zc5, zc6, zc7, zc8⟩ := kC.out _ HB_0
  have hbF := below_ext HBw.out HB_0.out
  go_wp2
  go_ret
  exact ⟨rfl, hbF⟩
set_option maxHeartbeats 3200000 in
theorem rord_2 (o : OrdR) (h1 : 0 ≤ o.num) (h : 100 ≤ o.num) (w : World) :
    Calls Tryd.prog 31 #[orV o] w fun e' w' => e' = .returned (.bool false) ∧ Below w.heap.size w w' := by
  have dn0 : decide (o.num < 0) = false := by simp; omega
  have dn1 : decide ((100 : Int) ≤ o.num) = true := by simp; omega
  obtain ⟨w0, HW, HBw, kC⟩ := stOr o w
  have HB_0 : Hid (Below w0.heap.size w0 w0) := Lib.hid (Below.refl _ _)
  go_enter Tryd.func31, Tryd.ntmps31
  go_upto_region 1 with (fail)
  rw [HW.out]
  obtain ⟨zc0, zc1, zc2, zc3, zc4, zc5, zc6, zc7, zc8⟩ := kC.out _ HB_0
  have hbF := below_ext HBw.out HB_0.out
  go_wp2
  go_ret
  exact ⟨rfl, hbF⟩
set_option maxHeartbeats 3200000 in
theorem rord_3a (o : OrdR) (h1 : 0 ≤ o.num) (h2 : o.num < 100) (h : o.rs.size < 1) (w : World) :
    Calls Tryd.prog 31 #[orV o] w fun e' w' => e' = .returned (.bool false) ∧ Below w.heap.size w w' := by
  have dn0 : decide (o.num < 0) = false := by simp; omega
  have dn1 : decide ((100 : Int) ≤ o.num) = false := by simp; omega
  have dr0 : decide ((o.rs.size : Int) < 1) = true := by simp; omega
  obtain ⟨w0, HW, HBw, kC⟩ := stOr o w
  have HB_0 : Hid (Below w0.heap.size w0 w0) := Lib.hid (Below.refl _ _)
  go_enter Tryd.func31, Tryd.ntmps31
  go_upto_region 1 with (fail)
  rw [HW.out]
  obtain ⟨zc0, zc1, zc2, zc3, zc4, zc5, zc6, zc7, zc8⟩ := kC.out _ HB_0
  have hbF := below_ext HBw.out HB_0.out
  go_wp2
  go_ret
  exact ⟨rfl, hbF⟩
set_option maxHeartbeats 3200000 in
theorem rord_3b (o : OrdR) (h1 : 0 ≤ o.num) (h2 : o.num < 100) (h5 : 1 ≤ o.rs.size) (h : 200 < o.rs.size) (w : World) :
    Calls Tryd.prog 31 #[orV o] w fun e' w' => e' = .returned (.bool false) ∧ Below w.heap.size w w' := by
  have dn0 : decide (o.num < 0) = false := by simp; omega
  have dn1 : decide ((100 : Int) ≤ o.num) = false := by simp; omega
  have dr0 : decide ((o.rs.size : Int) < 1) = false := by simp; omega
  have dr1 : decide ((200 : Int) < (o.rs.size : Int)) = true := by simp; omega
  obtain ⟨w0, HW, HBw, kC⟩ := stOr o w
  have HB_0 : Hid (Below w0.heap.size w0 w0) := Lib.hid (Below.refl _ _)
  go_enter Tryd.func31, Tryd.ntmps31
  go_upto_region 1 with (fail)
  rw [HW.out]
  obtain ⟨zc0, zc1, zc2, zc3, zc4, zc5, zc6, zc7, zc8⟩ := kC.out _ HB_0
  have hbF := below_ext HBw.out HB_0.out
  go_wp2
  go_ret
  exact ⟨rfl, hbF⟩
set_option maxHeartbeats 3200000 in
theorem rord_4 (o : OrdR) (h1 : 0 ≤ o.num) (h2 : o.num < 100) (h5 : 1 ≤ o.rs.size) (h6 : o.rs.size ≤ 200) (hsh : Hid (shB o.na o.nz = false)) (w : World) :
    Calls Tryd.prog 31 #[orV o] w fun e' w' => e' = .returned (.bool false) ∧ Below w.heap.size w w' := by
  have dn0 : decide (o.num < 0) = false := by simp; omega
  have dn1 : decide ((100 : Int) ≤ o.num) = false := by simp; omega
  have dr0 : decide ((o.rs.size : Int) < 1) = false := by simp; omega
  have dr1 : decide ((200 : Int) < (o.rs.size : Int)) = false := by simp; omega
  obtain ⟨w0, HW, HBw, kC⟩ := stOr o w
  have HB_0 : Hid (Below w0.heap.size w0 w0) := Lib.hid (Below.refl _ _)
  go_enter Tryd.func31, Tryd.ntmps31
  go_upto_region 1 with (fail)
  rw [HW.out]
  obtain ⟨zc0, zc1, zc2, zc3, zc4, zc5, zc6, zc7, zc8⟩ := kC.out _ HB_0
  go_wp2_with fail
  refine (rshort_any o.A o.na o.ca o.C o.Z o.nz o.cz false hsh _).mono ?_
  rintro e w1 ⟨rfl, hb0⟩
  have HB_1 := Lib.hid (below_ext HB_0.out hb0)
  clear zc0 zc1 zc2 zc3 zc4 zc5 zc6 zc7 zc8
  clear hb0
  obtain ⟨zc0, zc1, zc2, zc3, zc4, zc5, zc6, zc7, zc8⟩ := kC.out _ HB_1
  have hbF := below_ext HBw.out HB_1.out
  go_wp2
  go_ret
  exact ⟨rfl, hbF⟩
set_option maxHeartbeats 3200000 in
theorem rord_5 (o : OrdR) (h1 : 0 ≤ o.num) (h2 : o.num < 100) (h5 : 1 ≤ o.rs.size) (h6 : o.rs.size ≤ 200) (hsh : Hid (shB o.na o.nz = true)) (h3 : ¬ o.np ≤ 8) (w : World) :
    Calls Tryd.prog 31 #[orV o] w fun e' w' => e' = .returned (.bool false) ∧ Below w.heap.size w w' := by
  have dn0 : decide (o.num < 0) = false := by simp; omega
  have dn1 : decide ((100 : Int) ≤ o.num) = false := by simp; omega
  have dr0 : decide ((o.rs.size : Int) < 1) = false := by simp; omega
  have dr1 : decide ((200 : Int) < (o.rs.size : Int)) = false := by simp; omega
  have dp8 : decide ((8 : Int) < (o.np : Int)) = true := by simp; omega
  obtain ⟨w0, HW, HBw, kC⟩ := stOr o w
  have HB_0 : Hid (Below w0.heap.size w0 w0) := Lib.hid (Below.refl _ _)
  go_enter Tryd.func31, Tryd.ntmps31
  go_upto_region 1 with (fail)
  rw [HW.out]
  obtain ⟨zc0, zc1, zc2, zc3, zc4, zc5, zc6, zc7, zc8⟩ := kC.out _ HB_0
  go_wp2_with fail
  refine (rshort_any o.A o.na o.ca o.C o.Z o.nz o.cz true hsh _).mono ?_
  rintro e w1 ⟨rfl, hb0⟩
  have HB_1 := Lib.hid (below_ext HB_0.out hb0)
  clear zc0 zc1 zc2 zc3 zc4 zc5 zc6 zc7 zc8
  clear hb0
  obtain ⟨zc0, zc1, zc2, zc3, zc4, zc5, zc6, zc7, zc8⟩ := kC.out _ HB_1
  have hbF := below_ext HBw.out HB_1.out
  go_wp2
  go_ret
  exact ⟨rfl, hbF⟩
set_option maxHeartbeats 3200000 in
theorem rord_6 (o : OrdR) (h1 : 0 ≤ o.num) (h2 : o.num < 100) (h5 : 1 ≤ o.rs.size) (h6 : o.rs.size ≤ 200) (hsh : Hid (shB o.na o.nz = true)) (h3 : o.np ≤ 8) (h4 : ¬ 0 ≤ o.key) (w : World) :
    Calls Tryd.prog 31 #[orV o] w fun e' w' => e' = .returned (.bool false) ∧ Below w.heap.size w w' := by
  have dn0 : decide (o.num < 0) = false := by simp; omega
  have dn1 : decide ((100 : Int) ≤ o.num) = false := by simp; omega
  have dr0 : decide ((o.rs.size : Int) < 1) = false := by simp; omega
  have dr1 : decide ((200 : Int) < (o.rs.size : Int)) = false := by simp; omega
  have dp8 : decide ((8 : Int) < (o.np : Int)) = false := by simp; omega
  have dk0 : decide (o.key < 0) = true := by simp; omega
  obtain ⟨w0, HW, HBw, kC⟩ := stOr o w
  have HB_0 : Hid (Below w0.heap.size w0 w0) := Lib.hid (Below.refl _ _)
  go_enter Tryd.func31, Tryd.ntmps31
  go_upto_region 1 with (fail)
  rw [HW.out]
  obtain ⟨zc0, zc1, zc2, zc3, zc4, zc5, zc6, zc7, zc8⟩ := kC.out _ HB_0
  go_wp2_with fail
  refine (rshort_any o.A o.na o.ca o.C o.Z o.nz o.cz true hsh _).mono ?_
  rintro e w1 ⟨rfl, hb0⟩
  have HB_1 := Lib.hid (below_ext HB_0.out hb0)
  clear zc0 zc1 zc2 zc3 zc4 zc5 zc6 zc7 zc8
  clear hb0
  obtain ⟨zc0, zc1, zc2, zc3, zc4, zc5, zc6, zc7, zc8⟩ := kC.out _ HB_1
  have hbF := below_ext HBw.out HB_1.out
  go_wp2
  go_ret
  exact ⟨rfl, hbF⟩
set_option maxHeartbeats 12800000 in
theorem rord_7 (o : OrdR) (h1 : 0 ≤ o.num) (h2 : o.num < 100) (h5 : 1 ≤ o.rs.size) (h6 : o.rs.size ≤ 200) (hsh : Hid (shB o.na o.nz = true)) (h3 : o.np ≤ 8) (h4 : 0 ≤ o.key) (w : World) (ho : Hid (OrdOk w o)) :
    Calls Tryd.prog 31 #[orV o] w fun e' w' => e' = .returned (.bool (ptsB o.ps o.np)) ∧ Below w.heap.size w w' := by
  have dn0 : decide (o.num < 0) = false := by simp; omega
  have dn1 : decide ((100 : Int) ≤ o.num) = false := by simp; omega
  have dr0 : decide ((o.rs.size : Int) < 1) = false := by simp; omega
  have dr1 : decide ((200 : Int) < (o.rs.size : Int)) = false := by simp; omega
  have dp8 : decide ((8 : Int) < (o.np : Int)) = false := by simp; omega
  have dk0 : decide (o.key < 0) = false := by simp; omega
  obtain ⟨w0, HW, HBw, kC⟩ := stOr o w
  have kO := Lib.hid (show ∀ u : World, Hid (Below w0.heap.size w0 u) → Hid (OrdOk u o) from fun u h => Lib.hid ((ho.out.below) (below_ext HBw.out h.out)))
  have HB_0 : Hid (Below w0.heap.size w0 w0) := Lib.hid (Below.refl _ _)
  clear ho
  go_enter Tryd.func31, Tryd.ntmps31
  go_upto_region 1 with (fail)
  rw [HW.out]
  obtain ⟨zc0, zc1, zc2, zc3, zc4, zc5, zc6, zc7, zc8⟩ := kC.out _ HB_0
  go_wp2_with fail
  refine (rshort_any o.A o.na o.ca o.C o.Z o.nz o.cz true hsh _).mono ?_
  rintro e w1 ⟨rfl, hb0⟩
  have HB_1 := Lib.hid (below_ext HB_0.out hb0)
  clear zc0 zc1 zc2 zc3 zc4 zc5 zc6 zc7 zc8
  clear hb0
  obtain ⟨zc0, zc1, zc2, zc3, zc4, zc5, zc6, zc7, zc8⟩ := kC.out _ HB_1
  go_wp2
  clear zc0 zc1 zc2 zc3 zc4 zc5 zc6 zc7 zc8
  go_loopw [3] (fun i wr => ∃ k : Nat, k ≤ o.np ∧ i = .int .i64 k ∧ Hid (ptsB o.ps k = true) ∧ Hid (Below w0.heap.size w0 wr)) (fun i _ => o.np - (intOf i).toNat)
  case atStart => exact ⟨0, by omega, rfl, Lib.hid rfl, HB_1⟩
  case round =>
    obtain ⟨k, hk, rfl, HR, HBr⟩ := hrel
    by_cases hlt : k < o.np
    · skip
      obtain ⟨ok1, ok2, ⟨ok3, okc⟩, ok4, ok5, ok6⟩ := (kO.out _ HBr).out
      have hkl : k < o.ps.length := by rw [ok3]; exact hlt
      obtain ⟨b, f, hA, j0, j1, j2, j3, j4, j5⟩ := ok6 k hkl
      clear j5
      have HPA := Lib.hid ok6
      have HKP : Hid (k ≤ o.ps.length) := Lib.hid (by omega)
      have hkc : k ≤ o.cp := by omega
      clear ok1 ok2 ok3 ok4 ok5 ok6 hkl
      obtain ⟨p, hp⟩ : ∃ p, o.ps.getD k noPart = p := ⟨_, rfl⟩
      have HPP := Lib.hid hp
      rw [hp] at j0 j1 j2 j3 j4
      obtain ⟨LA, hLA⟩ : ∃ x, o.L = x := ⟨_, rfl⟩
      have HLA := Lib.hid hLA
      rw [hLA] at hA HPA
      subst hA
      clear hp hLA
      by_cases hx0 : p.ix < 1
      · skip
        have dx0 : decide (p.ix < 1) = true := by simp; omega
        have HF : Hid (ptsB o.ps o.np = false) := Lib.hid (ptsB_hit (k := k) (by rw [prtB, HPP.out]; simp; omega) hlt)
        clear HR
        have HB_wr_1 : Hid (Below wr.heap.size wr wr) := Lib.hid (Below.refl _ _)
        have kP := Lib.hid (show ∀ u : World, Hid (Below wr.heap.size wr u) → Hid (Pa u (some ⟨b, f, none⟩) o.ps) from fun u h => Lib.hid (HPA.out.below h.out))
        obtain ⟨zc0, zc1, zc2, zc3, zc4, zc5, zc6, zc7, zc8⟩ := kC.out _ HBr
        rw [HLA.out] at zc7
        have kC := Lib.hid (show ∀ u : World, Hid (Below w0.heap.size w0 u) → u.cell? ⟨w.heap.size, 0, none⟩ = some (.int .i64 o.num) ∧ u.cell? ⟨w.heap.size, 1, none⟩ = some (.string o.rs) ∧ u.cell? ⟨w.heap.size, 2, none⟩ = some (.int .i64 o.E1) ∧ u.cell? ⟨w.heap.size, 3, none⟩ = some (.int .i64 o.E2) ∧ u.cell? ⟨w.heap.size, 4, none⟩ = some (.slice o.A o.na o.ca) ∧ u.cell? ⟨w.heap.size, 5, none⟩ = some (.int .i64 o.C) ∧ u.cell? ⟨w.heap.size, 6, none⟩ = some (.slice o.Z o.nz o.cz) ∧ u.cell? ⟨w.heap.size, 7, none⟩ = some (.slice (some ⟨b, f, none⟩) o.np o.cp) ∧ u.cell? ⟨w.heap.size, 8, none⟩ = some (.int .i64 o.key) from fun u h => by
          have hk := kC.out u h
          rw [HLA.out] at hk
          exact hk)
        have hq := below_box0 wr (ptO p)
        have HB_2 := Lib.hid (below_ext HBr.out hq)
        have HB_wr_2 := Lib.hid (below_ext HB_wr_1.out hq)
        have hc : (wr.alloc (ptO p)).cell? ⟨wr.heap.size, 0, none⟩ = some (.int .i64 p.ix) ∧ (wr.alloc (ptO p)).cell? ⟨wr.heap.size, 1, none⟩ = some (.int .i64 p.v) ∧ (wr.alloc (ptO p)).cell? ⟨wr.heap.size, 2, none⟩ = some (.slice p.A p.na p.ca) ∧ (wr.alloc (ptO p)).cell? ⟨wr.heap.size, 3, none⟩ = some (.int .i64 p.C) ∧ (wr.alloc (ptO p)).cell? ⟨wr.heap.size, 4, none⟩ = some (.slice p.Z p.nz p.cz) := ⟨allocs_cell rfl (by rfl), allocs_cell rfl (by rfl), allocs_cell rfl (by rfl), allocs_cell rfl (by rfl), allocs_cell rfl (by rfl)⟩
        have HC2 := Lib.hid hc
        clear hq
        obtain ⟨zc0x, zc1x, zc2x, zc3x, zc4x, zc5x, zc6x, zc7x, zc8x⟩ := kC.out _ HB_2
        obtain ⟨zq0, zq1, zq2, zq3, zq4⟩ := hc
        go_upto_region 7 with (fail)
        obtain ⟨w2, hw⟩ : ∃ x, (wr.alloc (ptO p)) = x := ⟨_, rfl⟩
        rw [hw] at HC2 HB_2 HB_wr_2 ⊢
        have HSN2 : Hid (w2.heap.size = wr.heap.size + 1) := Lib.hid (by rw [← hw]; simp)
        clear zc0 zc1 zc2 zc3 zc4 zc5 zc6 zc7 zc8 zc0x zc1x zc2x zc3x zc4x zc5x zc6x zc7x zc8x zq0 zq1 zq2 zq3 zq4
        clear hw
        have HB_w2_2 : Hid (Below w2.heap.size w2 w2) := Lib.hid (Below.refl _ _)
        have kS := Lib.hid (show ∀ u : World, Hid (Below w2.heap.size w2 u) → u.cell? ⟨wr.heap.size, 0, none⟩ = some (.int .i64 p.ix) ∧ u.cell? ⟨wr.heap.size, 1, none⟩ = some (.int .i64 p.v) ∧ u.cell? ⟨wr.heap.size, 2, none⟩ = some (.slice p.A p.na p.ca) ∧ u.cell? ⟨wr.heap.size, 3, none⟩ = some (.int .i64 p.C) ∧ u.cell? ⟨wr.heap.size, 4, none⟩ = some (.slice p.Z p.nz p.cz) from fun u h => ⟨cell_below HC2.out.1 h.out, cell_below HC2.out.2.1 h.out, cell_below HC2.out.2.2.1 h.out, cell_below HC2.out.2.2.2.1 h.out, cell_below HC2.out.2.2.2.2 h.out⟩)
        obtain ⟨zc0, zc1, zc2, zc3, zc4, zc5, zc6, zc7, zc8⟩ := kC.out _ HB_2
        obtain ⟨kS_0, kS_1, kS_2, kS_3, kS_4⟩ := kS.out _ HB_w2_2
        clear j0 j1 j2 j3 j4
        clear zc0 zc1 zc2 zc3 zc4 zc5 zc6 zc7 zc8 kS_0 kS_1 kS_2 kS_3 kS_4
        obtain ⟨zc0, zc1, zc2, zc3, zc4, zc5, zc6, zc7, zc8⟩ := kC.out _ HB_2
        obtain ⟨kS_0, kS_1, kS_2, kS_3, kS_4⟩ := kS.out _ HB_w2_2
        clear zc0 zc1 zc2 zc3 zc4 zc5 zc6 zc7 zc8 kS_0 kS_1 kS_2 kS_3 kS_4
        have hBx3 := Lib.hid (show ∀ u u2 : World, Hid (Below w0.heap.size w0 u ∧ Below wr.heap.size wr u ∧ Below w2.heap.size w2 u) → Below u.heap.size u u2 → Hid (Below w0.heap.size w0 u2 ∧ Below wr.heap.size wr u2 ∧ Below w2.heap.size w2 u2) from fun u u2 h1 h2 => Lib.hid ⟨(below_ext h1.out.1 h2), (below_ext h1.out.2.1 h2), (below_ext h1.out.2.2 h2)⟩)
        have hS3 := Lib.hid (show ∀ u : World, Hid (Below w0.heap.size w0 u ∧ Below wr.heap.size wr u ∧ Below w2.heap.size w2 u) → (u.cell? ⟨w.heap.size, 0, none⟩ = some (.int .i64 o.num) ∧ u.cell? ⟨w.heap.size, 1, none⟩ = some (.string o.rs) ∧ u.cell? ⟨w.heap.size, 2, none⟩ = some (.int .i64 o.E1) ∧ u.cell? ⟨w.heap.size, 3, none⟩ = some (.int .i64 o.E2) ∧ u.cell? ⟨w.heap.size, 4, none⟩ = some (.slice o.A o.na o.ca) ∧ u.cell? ⟨w.heap.size, 5, none⟩ = some (.int .i64 o.C) ∧ u.cell? ⟨w.heap.size, 6, none⟩ = some (.slice o.Z o.nz o.cz) ∧ u.cell? ⟨w.heap.size, 7, none⟩ = some (.slice (some ⟨b, f, none⟩) o.np o.cp) ∧ u.cell? ⟨w.heap.size, 8, none⟩ = some (.int .i64 o.key) ∧ u.cell? ⟨wr.heap.size, 0, none⟩ = some (.int .i64 p.ix) ∧ u.cell? ⟨wr.heap.size, 1, none⟩ = some (.int .i64 p.v) ∧ u.cell? ⟨wr.heap.size, 2, none⟩ = some (.slice p.A p.na p.ca) ∧ u.cell? ⟨wr.heap.size, 3, none⟩ = some (.int .i64 p.C) ∧ u.cell? ⟨wr.heap.size, 4, none⟩ = some (.slice p.Z p.nz p.cz) ∧ Hid (Below w0.heap.size w0 u ∧ Below wr.heap.size wr u ∧ Below w2.heap.size w2 u)) from fun u h1 => by
          obtain ⟨y0, y1, y2, y3, y4, y5, y6, y7, y8⟩ := kC.out _ (Lib.hid h1.out.1)
          obtain ⟨kS_0, kS_1, kS_2, kS_3, kS_4⟩ := kS.out _ (Lib.hid h1.out.2.2)
          exact ⟨y0, y1, y2, y3, y4, y5, y6, y7, y8, kS_0, kS_1, kS_2, kS_3, kS_4, h1⟩)
        have HBA3 : Hid (Below w0.heap.size w0 w2 ∧ Below wr.heap.size wr w2 ∧ Below w2.heap.size w2 w2) := Lib.hid ⟨HB_2.out, HB_wr_2.out, HB_w2_2.out⟩
        refine wp_region_T (S := fun w' => w'.cell? ⟨w.heap.size, 0, none⟩ = some (.int .i64 o.num) ∧ w'.cell? ⟨w.heap.size, 1, none⟩ = some (.string o.rs) ∧ w'.cell? ⟨w.heap.size, 2, none⟩ = some (.int .i64 o.E1) ∧ w'.cell? ⟨w.heap.size, 3, none⟩ = some (.int .i64 o.E2) ∧ w'.cell? ⟨w.heap.size, 4, none⟩ = some (.slice o.A o.na o.ca) ∧ w'.cell? ⟨w.heap.size, 5, none⟩ = some (.int .i64 o.C) ∧ w'.cell? ⟨w.heap.size, 6, none⟩ = some (.slice o.Z o.nz o.cz) ∧ w'.cell? ⟨w.heap.size, 7, none⟩ = some (.slice (some ⟨b, f, none⟩) o.np o.cp) ∧ w'.cell? ⟨w.heap.size, 8, none⟩ = some (.int .i64 o.key) ∧ w'.cell? ⟨wr.heap.size, 0, none⟩ = some (.int .i64 p.ix) ∧ w'.cell? ⟨wr.heap.size, 1, none⟩ = some (.int .i64 p.v) ∧ w'.cell? ⟨wr.heap.size, 2, none⟩ = some (.slice p.A p.na p.ca) ∧ w'.cell? ⟨wr.heap.size, 3, none⟩ = some (.int .i64 p.C) ∧ w'.cell? ⟨wr.heap.size, 4, none⟩ = some (.slice p.Z p.nz p.cz) ∧ Hid (Below w0.heap.size w0 w' ∧ Below wr.heap.size wr w' ∧ Below w2.heap.size w2 w')) (E := []) (by kernel_rfl) (hS3.out _ (hBx3.out _ _ HBA3 ((Below.refl _ _).drew))) (fun hHeld => ?_)
        refine tkV 0 ?_
        try simp only [qq1, qq2, qq3, Act.put, qq4, qq5, qq6]
        refine tkV 1 ?_
        try simp only [qq1, qq2, qq3, Act.put, qq4, qq5, qq6]
        refine tkV 2 ?_
        try simp only [qq1, qq2, qq3, Act.put, qq4, qq5, qq6]
        refine tkV 3 ?_
        try simp only [qq1, qq2, qq3, Act.put, qq4, qq5, qq6]
        refine tkU 4 ?_
        try simp only [qq1, qq2, qq3, Act.put, qq4, qq5, qq6]
        refine tkU 5 ?_
        try simp only [qq1, qq2, qq3, Act.put, qq4, qq5, qq6]
        refine tkU 6 ?_
        try simp only [qq1, qq2, qq3, Act.put, qq4, qq5, qq6]
        refine tkV 7 ?_
        try simp only [qq1, qq2, qq3, Act.put, qq4, qq5, qq6]
        refine tkV 8 ?_
        try simp only [qq1, qq2, qq3, Act.put, qq4, qq5, qq6]
        refine tkU 9 ?_
        try simp only [qq1, qq2, qq3, Act.put, qq4, qq5, qq6]
        refine tkU 10 ?_
        try simp only [qq1, qq2, qq3, Act.put, qq4, qq5, qq6]
        refine tkU 11 ?_
        try simp only [qq1, qq2, qq3, Act.put, qq4, qq5, qq6]
        refine tkU 12 ?_
        try simp only [qq1, qq2, qq3, Act.put, qq4, qq5, qq6]
        refine tkU 13 ?_
        try simp only [qq1, qq2, qq3, Act.put, qq4, qq5, qq6]
        refine tkU 14 ?_
        try simp only [qq1, qq2, qq3, Act.put, qq4, qq5, qq6]
        refine tkU 15 ?_
        try simp only [qq1, qq2, qq3, Act.put, qq4, qq5, qq6]
        refine tkV 16 ?_
        try simp only [qq1, qq2, qq3, Act.put, qq4, qq5, qq6]
        refine tkV 17 ?_
        try simp only [qq1, qq2, qq3, Act.put, qq4, qq5, qq6]
        refine tkU 18 ?_
        try simp only [qq1, qq2, qq3, Act.put, qq4, qq5, qq6]
        refine tkU 19 ?_
        try simp only [qq1, qq2, qq3, Act.put, qq4, qq5, qq6]
        refine tkU 20 ?_
        try simp only [qq1, qq2, qq3, Act.put, qq4, qq5, qq6]
        refine tkU 21 ?_
        try simp only [qq1, qq2, qq3, Act.put, qq4, qq5, qq6]
        refine tkV 22 ?_
        try simp only [qq1, qq2, qq3, Act.put, qq4, qq5, qq6]
        refine wpT_done (by kernel_rfl) ?_ _
        obtain ⟨x0, x1, x2, x3, x4, x5, x6, x7, x8, x9, x10, x11, x12, x13, FB3⟩ := hHeld
        clear x0 x1 x2 x3 x4 x5 x6 x7 x8 x9 x10 x11 x12 x13 hS3 hBx3 HBA3
        have HL3_w0 := Lib.hid FB3.out.1
        have HL3_wr := Lib.hid FB3.out.2.1
        have HL3_w2 := Lib.hid FB3.out.2.2
        obtain ⟨zc0, zc1, zc2, zc3, zc4, zc5, zc6, zc7, zc8⟩ := kC.out _ HL3_w0
        obtain ⟨kS_0, kS_1, kS_2, kS_3, kS_4⟩ := kS.out _ HL3_w2
        have hbF := below_ext HBw.out HL3_w0.out
        go_wp2
        go_ret
        exact ⟨(by rw [HF.out]; try rfl), hbF⟩
      · skip
        by_cases hx1 : 8 < p.ix
        · skip
          have dx0 : decide (p.ix < 1) = false := by simp; omega
          have dx1 : decide ((8 : Int) < p.ix) = true := by simp; omega
          have HF : Hid (ptsB o.ps o.np = false) := Lib.hid (ptsB_hit (k := k) (by rw [prtB, HPP.out]; simp; omega) hlt)
          clear HR
          have HB_wr_1 : Hid (Below wr.heap.size wr wr) := Lib.hid (Below.refl _ _)
          have kP := Lib.hid (show ∀ u : World, Hid (Below wr.heap.size wr u) → Hid (Pa u (some ⟨b, f, none⟩) o.ps) from fun u h => Lib.hid (HPA.out.below h.out))
          obtain ⟨zc0, zc1, zc2, zc3, zc4, zc5, zc6, zc7, zc8⟩ := kC.out _ HBr
          rw [HLA.out] at zc7
          have kC := Lib.hid (show ∀ u : World, Hid (Below w0.heap.size w0 u) → u.cell? ⟨w.heap.size, 0, none⟩ = some (.int .i64 o.num) ∧ u.cell? ⟨w.heap.size, 1, none⟩ = some (.string o.rs) ∧ u.cell? ⟨w.heap.size, 2, none⟩ = some (.int .i64 o.E1) ∧ u.cell? ⟨w.heap.size, 3, none⟩ = some (.int .i64 o.E2) ∧ u.cell? ⟨w.heap.size, 4, none⟩ = some (.slice o.A o.na o.ca) ∧ u.cell? ⟨w.heap.size, 5, none⟩ = some (.int .i64 o.C) ∧ u.cell? ⟨w.heap.size, 6, none⟩ = some (.slice o.Z o.nz o.cz) ∧ u.cell? ⟨w.heap.size, 7, none⟩ = some (.slice (some ⟨b, f, none⟩) o.np o.cp) ∧ u.cell? ⟨w.heap.size, 8, none⟩ = some (.int .i64 o.key) from fun u h => by
            have hk := kC.out u h
            rw [HLA.out] at hk
            exact hk)
          have hq := below_box0 wr (ptO p)
          have HB_2 := Lib.hid (below_ext HBr.out hq)
          have HB_wr_2 := Lib.hid (below_ext HB_wr_1.out hq)
          have hc : (wr.alloc (ptO p)).cell? ⟨wr.heap.size, 0, none⟩ = some (.int .i64 p.ix) ∧ (wr.alloc (ptO p)).cell? ⟨wr.heap.size, 1, none⟩ = some (.int .i64 p.v) ∧ (wr.alloc (ptO p)).cell? ⟨wr.heap.size, 2, none⟩ = some (.slice p.A p.na p.ca) ∧ (wr.alloc (ptO p)).cell? ⟨wr.heap.size, 3, none⟩ = some (.int .i64 p.C) ∧ (wr.alloc (ptO p)).cell? ⟨wr.heap.size, 4, none⟩ = some (.slice p.Z p.nz p.cz) := ⟨allocs_cell rfl (by rfl), allocs_cell rfl (by rfl), allocs_cell rfl (by rfl), allocs_cell rfl (by rfl), allocs_cell rfl (by rfl)⟩
          have HC2 := Lib.hid hc
          clear hq
          obtain ⟨zc0x, zc1x, zc2x, zc3x, zc4x, zc5x, zc6x, zc7x, zc8x⟩ := kC.out _ HB_2
          obtain ⟨zq0, zq1, zq2, zq3, zq4⟩ := hc
          go_upto_region 7 with (fail)
          obtain ⟨w2, hw⟩ : ∃ x, (wr.alloc (ptO p)) = x := ⟨_, rfl⟩
          rw [hw] at HC2 HB_2 HB_wr_2 ⊢
          have HSN2 : Hid (w2.heap.size = wr.heap.size + 1) := Lib.hid (by rw [← hw]; simp)
          clear zc0 zc1 zc2 zc3 zc4 zc5 zc6 zc7 zc8 zc0x zc1x zc2x zc3x zc4x zc5x zc6x zc7x zc8x zq0 zq1 zq2 zq3 zq4
          clear hw
          have HB_w2_2 : Hid (Below w2.heap.size w2 w2) := Lib.hid (Below.refl _ _)
          have kS := Lib.hid (show ∀ u : World, Hid (Below w2.heap.size w2 u) → u.cell? ⟨wr.heap.size, 0, none⟩ = some (.int .i64 p.ix) ∧ u.cell? ⟨wr.heap.size, 1, none⟩ = some (.int .i64 p.v) ∧ u.cell? ⟨wr.heap.size, 2, none⟩ = some (.slice p.A p.na p.ca) ∧ u.cell? ⟨wr.heap.size, 3, none⟩ = some (.int .i64 p.C) ∧ u.cell? ⟨wr.heap.size, 4, none⟩ = some (.slice p.Z p.nz p.cz) from fun u h => ⟨cell_below HC2.out.1 h.out, cell_below HC2.out.2.1 h.out, cell_below HC2.out.2.2.1 h.out, cell_below HC2.out.2.2.2.1 h.out, cell_below HC2.out.2.2.2.2 h.out⟩)
          obtain ⟨zc0, zc1, zc2, zc3, zc4, zc5, zc6, zc7, zc8⟩ := kC.out _ HB_2
          obtain ⟨kS_0, kS_1, kS_2, kS_3, kS_4⟩ := kS.out _ HB_w2_2
          clear j0 j1 j2 j3 j4
          clear zc0 zc1 zc2 zc3 zc4 zc5 zc6 zc7 zc8 kS_0 kS_1 kS_2 kS_3 kS_4
          obtain ⟨zc0, zc1, zc2, zc3, zc4, zc5, zc6, zc7, zc8⟩ := kC.out _ HB_2
          obtain ⟨kS_0, kS_1, kS_2, kS_3, kS_4⟩ := kS.out _ HB_w2_2
          clear zc0 zc1 zc2 zc3 zc4 zc5 zc6 zc7 zc8 kS_0 kS_1 kS_2 kS_3 kS_4
          have hBx3 := Lib.hid (show ∀ u u2 : World, Hid (Below w0.heap.size w0 u ∧ Below wr.heap.size wr u ∧ Below w2.heap.size w2 u) → Below u.heap.size u u2 → Hid (Below w0.heap.size w0 u2 ∧ Below wr.heap.size wr u2 ∧ Below w2.heap.size w2 u2) from fun u u2 h1 h2 => Lib.hid ⟨(below_ext h1.out.1 h2), (below_ext h1.out.2.1 h2), (below_ext h1.out.2.2 h2)⟩)
          have hS3 := Lib.hid (show ∀ u : World, Hid (Below w0.heap.size w0 u ∧ Below wr.heap.size wr u ∧ Below w2.heap.size w2 u) → (u.cell? ⟨w.heap.size, 0, none⟩ = some (.int .i64 o.num) ∧ u.cell? ⟨w.heap.size, 1, none⟩ = some (.string o.rs) ∧ u.cell? ⟨w.heap.size, 2, none⟩ = some (.int .i64 o.E1) ∧ u.cell? ⟨w.heap.size, 3, none⟩ = some (.int .i64 o.E2) ∧ u.cell? ⟨w.heap.size, 4, none⟩ = some (.slice o.A o.na o.ca) ∧ u.cell? ⟨w.heap.size, 5, none⟩ = some (.int .i64 o.C) ∧ u.cell? ⟨w.heap.size, 6, none⟩ = some (.slice o.Z o.nz o.cz) ∧ u.cell? ⟨w.heap.size, 7, none⟩ = some (.slice (some ⟨b, f, none⟩) o.np o.cp) ∧ u.cell? ⟨w.heap.size, 8, none⟩ = some (.int .i64 o.key) ∧ u.cell? ⟨wr.heap.size, 0, none⟩ = some (.int .i64 p.ix) ∧ u.cell? ⟨wr.heap.size, 1, none⟩ = some (.int .i64 p.v) ∧ u.cell? ⟨wr.heap.size, 2, none⟩ = some (.slice p.A p.na p.ca) ∧ u.cell? ⟨wr.heap.size, 3, none⟩ = some (.int .i64 p.C) ∧ u.cell? ⟨wr.heap.size, 4, none⟩ = some (.slice p.Z p.nz p.cz) ∧ Hid (Below w0.heap.size w0 u ∧ Below wr.heap.size wr u ∧ Below w2.heap.size w2 u)) from fun u h1 => by
            obtain ⟨y0, y1, y2, y3, y4, y5, y6, y7, y8⟩ := kC.out _ (Lib.hid h1.out.1)
            obtain ⟨kS_0, kS_1, kS_2, kS_3, kS_4⟩ := kS.out _ (Lib.hid h1.out.2.2)
            exact ⟨y0, y1, y2, y3, y4, y5, y6, y7, y8, kS_0, kS_1, kS_2, kS_3, kS_4, h1⟩)
          have HBA3 : Hid (Below w0.heap.size w0 w2 ∧ Below wr.heap.size wr w2 ∧ Below w2.heap.size w2 w2) := Lib.hid ⟨HB_2.out, HB_wr_2.out, HB_w2_2.out⟩
          refine wp_region_T (S := fun w' => w'.cell? ⟨w.heap.size, 0, none⟩ = some (.int .i64 o.num) ∧ w'.cell? ⟨w.heap.size, 1, none⟩ = some (.string o.rs) ∧ w'.cell? ⟨w.heap.size, 2, none⟩ = some (.int .i64 o.E1) ∧ w'.cell? ⟨w.heap.size, 3, none⟩ = some (.int .i64 o.E2) ∧ w'.cell? ⟨w.heap.size, 4, none⟩ = some (.slice o.A o.na o.ca) ∧ w'.cell? ⟨w.heap.size, 5, none⟩ = some (.int .i64 o.C) ∧ w'.cell? ⟨w.heap.size, 6, none⟩ = some (.slice o.Z o.nz o.cz) ∧ w'.cell? ⟨w.heap.size, 7, none⟩ = some (.slice (some ⟨b, f, none⟩) o.np o.cp) ∧ w'.cell? ⟨w.heap.size, 8, none⟩ = some (.int .i64 o.key) ∧ w'.cell? ⟨wr.heap.size, 0, none⟩ = some (.int .i64 p.ix) ∧ w'.cell? ⟨wr.heap.size, 1, none⟩ = some (.int .i64 p.v) ∧ w'.cell? ⟨wr.heap.size, 2, none⟩ = some (.slice p.A p.na p.ca) ∧ w'.cell? ⟨wr.heap.size, 3, none⟩ = some (.int .i64 p.C) ∧ w'.cell? ⟨wr.heap.size, 4, none⟩ = some (.slice p.Z p.nz p.cz) ∧ Hid (Below w0.heap.size w0 w' ∧ Below wr.heap.size wr w' ∧ Below w2.heap.size w2 w')) (E := []) (by kernel_rfl) (hS3.out _ (hBx3.out _ _ HBA3 ((Below.refl _ _).drew))) (fun hHeld => ?_)
          refine tkV 0 ?_
          try simp only [qq1, qq2, qq3, Act.put, qq4, qq5, qq6]
          refine tkV 1 ?_
          try simp only [qq1, qq2, qq3, Act.put, qq4, qq5, qq6]
          refine tkV 2 ?_
          try simp only [qq1, qq2, qq3, Act.put, qq4, qq5, qq6]
          refine tkV 3 ?_
          try simp only [qq1, qq2, qq3, Act.put, qq4, qq5, qq6]
          refine tkV 4 ?_
          try simp only [qq1, qq2, qq3, Act.put, qq4, qq5, qq6]
          refine tkV 5 ?_
          try simp only [qq1, qq2, qq3, Act.put, qq4, qq5, qq6]
          refine tkV 6 ?_
          try simp only [qq1, qq2, qq3, Act.put, qq4, qq5, qq6]
          refine tkV 7 ?_
          try simp only [qq1, qq2, qq3, Act.put, qq4, qq5, qq6]
          refine tkV 8 ?_
          try simp only [qq1, qq2, qq3, Act.put, qq4, qq5, qq6]
          refine tkU 9 ?_
          try simp only [qq1, qq2, qq3, Act.put, qq4, qq5, qq6]
          refine tkU 10 ?_
          try simp only [qq1, qq2, qq3, Act.put, qq4, qq5, qq6]
          refine tkU 11 ?_
          try simp only [qq1, qq2, qq3, Act.put, qq4, qq5, qq6]
          refine tkU 12 ?_
          try simp only [qq1, qq2, qq3, Act.put, qq4, qq5, qq6]
          refine tkU 13 ?_
          try simp only [qq1, qq2, qq3, Act.put, qq4, qq5, qq6]
          refine tkU 14 ?_
          try simp only [qq1, qq2, qq3, Act.put, qq4, qq5, qq6]
          refine tkU 15 ?_
          try simp only [qq1, qq2, qq3, Act.put, qq4, qq5, qq6]
          refine tkV 16 ?_
          try simp only [qq1, qq2, qq3, Act.put, qq4, qq5, qq6]
          refine tkV 17 ?_
          try simp only [qq1, qq2, qq3, Act.put, qq4, qq5, qq6]
          refine tkU 18 ?_
          try simp only [qq1, qq2, qq3, Act.put, qq4, qq5, qq6]
          refine tkU 19 ?_
          try simp only [qq1, qq2, qq3, Act.put, qq4, qq5, qq6]
          refine tkU 20 ?_
          try simp only [qq1, qq2, qq3, Act.put, qq4, qq5, qq6]
          refine tkU 21 ?_
          try simp only [qq1, qq2, qq3, Act.put, qq4, qq5, qq6]
          refine tkV 22 ?_
          try simp only [qq1, qq2, qq3, Act.put, qq4, qq5, qq6]
          refine wpT_done (by kernel_rfl) ?_ _
          obtain ⟨x0, x1, x2, x3, x4, x5, x6, x7, x8, x9, x10, x11, x12, x13, FB3⟩ := hHeld
          clear x0 x1 x2 x3 x4 x5 x6 x7 x8 x9 x10 x11 x12 x13 hS3 hBx3 HBA3
          have HL3_w0 := Lib.hid FB3.out.1
          have HL3_wr := Lib.hid FB3.out.2.1
          have HL3_w2 := Lib.hid FB3.out.2.2
          obtain ⟨zc0, zc1, zc2, zc3, zc4, zc5, zc6, zc7, zc8⟩ := kC.out _ HL3_w0
          obtain ⟨kS_0, kS_1, kS_2, kS_3, kS_4⟩ := kS.out _ HL3_w2
          have hbF := below_ext HBw.out HL3_w0.out
          go_wp2
          go_ret
          exact ⟨(by rw [HF.out]; try rfl), hbF⟩
        · skip
          cases hfr : frB o.ps p.ix k with
          | true =>
            cases hss : shB p.na p.nz with
            | true =>
              have dx0 : decide (p.ix < 1) = false := by simp; omega
              have dx1 : decide ((8 : Int) < p.ix) = false := by simp; omega
              have HS : Hid (ptsB o.ps (k + 1) = true) := Lib.hid (by rw [ptsB, HR.out, prtB, HPP.out]; simp [hfr, hss]; omega)
              have HFR := Lib.hid hfr
              have HSS := Lib.hid hss
              clear hfr hss HR
              have HB_wr_1 : Hid (Below wr.heap.size wr wr) := Lib.hid (Below.refl _ _)
              have kP := Lib.hid (show ∀ u : World, Hid (Below wr.heap.size wr u) → Hid (Pa u (some ⟨b, f, none⟩) o.ps) from fun u h => Lib.hid (HPA.out.below h.out))
              obtain ⟨zc0, zc1, zc2, zc3, zc4, zc5, zc6, zc7, zc8⟩ := kC.out _ HBr
              rw [HLA.out] at zc7
              have kC := Lib.hid (show ∀ u : World, Hid (Below w0.heap.size w0 u) → u.cell? ⟨w.heap.size, 0, none⟩ = some (.int .i64 o.num) ∧ u.cell? ⟨w.heap.size, 1, none⟩ = some (.string o.rs) ∧ u.cell? ⟨w.heap.size, 2, none⟩ = some (.int .i64 o.E1) ∧ u.cell? ⟨w.heap.size, 3, none⟩ = some (.int .i64 o.E2) ∧ u.cell? ⟨w.heap.size, 4, none⟩ = some (.slice o.A o.na o.ca) ∧ u.cell? ⟨w.heap.size, 5, none⟩ = some (.int .i64 o.C) ∧ u.cell? ⟨w.heap.size, 6, none⟩ = some (.slice o.Z o.nz o.cz) ∧ u.cell? ⟨w.heap.size, 7, none⟩ = some (.slice (some ⟨b, f, none⟩) o.np o.cp) ∧ u.cell? ⟨w.heap.size, 8, none⟩ = some (.int .i64 o.key) from fun u h => by
                have hk := kC.out u h
                rw [HLA.out] at hk
                exact hk)
              have hq := below_box0 wr (ptO p)
              have HB_2 := Lib.hid (below_ext HBr.out hq)
              have HB_wr_2 := Lib.hid (below_ext HB_wr_1.out hq)
              have hc : (wr.alloc (ptO p)).cell? ⟨wr.heap.size, 0, none⟩ = some (.int .i64 p.ix) ∧ (wr.alloc (ptO p)).cell? ⟨wr.heap.size, 1, none⟩ = some (.int .i64 p.v) ∧ (wr.alloc (ptO p)).cell? ⟨wr.heap.size, 2, none⟩ = some (.slice p.A p.na p.ca) ∧ (wr.alloc (ptO p)).cell? ⟨wr.heap.size, 3, none⟩ = some (.int .i64 p.C) ∧ (wr.alloc (ptO p)).cell? ⟨wr.heap.size, 4, none⟩ = some (.slice p.Z p.nz p.cz) := ⟨allocs_cell rfl (by rfl), allocs_cell rfl (by rfl), allocs_cell rfl (by rfl), allocs_cell rfl (by rfl), allocs_cell rfl (by rfl)⟩
              have HC2 := Lib.hid hc
              clear hq
              obtain ⟨zc0x, zc1x, zc2x, zc3x, zc4x, zc5x, zc6x, zc7x, zc8x⟩ := kC.out _ HB_2
              obtain ⟨zq0, zq1, zq2, zq3, zq4⟩ := hc
              go_upto_region 7 with (fail)
              obtain ⟨w2, hw⟩ : ∃ x, (wr.alloc (ptO p)) = x := ⟨_, rfl⟩
              rw [hw] at HC2 HB_2 HB_wr_2 ⊢
              have HSN2 : Hid (w2.heap.size = wr.heap.size + 1) := Lib.hid (by rw [← hw]; simp)
              clear zc0 zc1 zc2 zc3 zc4 zc5 zc6 zc7 zc8 zc0x zc1x zc2x zc3x zc4x zc5x zc6x zc7x zc8x zq0 zq1 zq2 zq3 zq4
              clear hw
              have HB_w2_2 : Hid (Below w2.heap.size w2 w2) := Lib.hid (Below.refl _ _)
              have kS := Lib.hid (show ∀ u : World, Hid (Below w2.heap.size w2 u) → u.cell? ⟨wr.heap.size, 0, none⟩ = some (.int .i64 p.ix) ∧ u.cell? ⟨wr.heap.size, 1, none⟩ = some (.int .i64 p.v) ∧ u.cell? ⟨wr.heap.size, 2, none⟩ = some (.slice p.A p.na p.ca) ∧ u.cell? ⟨wr.heap.size, 3, none⟩ = some (.int .i64 p.C) ∧ u.cell? ⟨wr.heap.size, 4, none⟩ = some (.slice p.Z p.nz p.cz) from fun u h => ⟨cell_below HC2.out.1 h.out, cell_below HC2.out.2.1 h.out, cell_below HC2.out.2.2.1 h.out, cell_below HC2.out.2.2.2.1 h.out, cell_below HC2.out.2.2.2.2 h.out⟩)
              obtain ⟨zc0, zc1, zc2, zc3, zc4, zc5, zc6, zc7, zc8⟩ := kC.out _ HB_2
              obtain ⟨kS_0, kS_1, kS_2, kS_3, kS_4⟩ := kS.out _ HB_w2_2
              clear j0 j1 j2 j3 j4
              clear zc0 zc1 zc2 zc3 zc4 zc5 zc6 zc7 zc8 kS_0 kS_1 kS_2 kS_3 kS_4
              obtain ⟨zc0, zc1, zc2, zc3, zc4, zc5, zc6, zc7, zc8⟩ := kC.out _ HB_2
              obtain ⟨kS_0, kS_1, kS_2, kS_3, kS_4⟩ := kS.out _ HB_w2_2
              clear zc0 zc1 zc2 zc3 zc4 zc5 zc6 zc7 zc8 kS_0 kS_1 kS_2 kS_3 kS_4
              have hBx3 := Lib.hid (show ∀ u u2 : World, Hid (Below w0.heap.size w0 u ∧ Below wr.heap.size wr u ∧ Below w2.heap.size w2 u) → Below u.heap.size u u2 → Hid (Below w0.heap.size w0 u2 ∧ Below wr.heap.size wr u2 ∧ Below w2.heap.size w2 u2) from fun u u2 h1 h2 => Lib.hid ⟨(below_ext h1.out.1 h2), (below_ext h1.out.2.1 h2), (below_ext h1.out.2.2 h2)⟩)
              have hS3 := Lib.hid (show ∀ u : World, Hid (Below w0.heap.size w0 u ∧ Below wr.heap.size wr u ∧ Below w2.heap.size w2 u) → (u.cell? ⟨w.heap.size, 0, none⟩ = some (.int .i64 o.num) ∧ u.cell? ⟨w.heap.size, 1, none⟩ = some (.string o.rs) ∧ u.cell? ⟨w.heap.size, 2, none⟩ = some (.int .i64 o.E1) ∧ u.cell? ⟨w.heap.size, 3, none⟩ = some (.int .i64 o.E2) ∧ u.cell? ⟨w.heap.size, 4, none⟩ = some (.slice o.A o.na o.ca) ∧ u.cell? ⟨w.heap.size, 5, none⟩ = some (.int .i64 o.C) ∧ u.cell? ⟨w.heap.size, 6, none⟩ = some (.slice o.Z o.nz o.cz) ∧ u.cell? ⟨w.heap.size, 7, none⟩ = some (.slice (some ⟨b, f, none⟩) o.np o.cp) ∧ u.cell? ⟨w.heap.size, 8, none⟩ = some (.int .i64 o.key) ∧ u.cell? ⟨wr.heap.size, 0, none⟩ = some (.int .i64 p.ix) ∧ u.cell? ⟨wr.heap.size, 1, none⟩ = some (.int .i64 p.v) ∧ u.cell? ⟨wr.heap.size, 2, none⟩ = some (.slice p.A p.na p.ca) ∧ u.cell? ⟨wr.heap.size, 3, none⟩ = some (.int .i64 p.C) ∧ u.cell? ⟨wr.heap.size, 4, none⟩ = some (.slice p.Z p.nz p.cz) ∧ Hid (Below w0.heap.size w0 u ∧ Below wr.heap.size wr u ∧ Below w2.heap.size w2 u)) from fun u h1 => by
                obtain ⟨y0, y1, y2, y3, y4, y5, y6, y7, y8⟩ := kC.out _ (Lib.hid h1.out.1)
                obtain ⟨kS_0, kS_1, kS_2, kS_3, kS_4⟩ := kS.out _ (Lib.hid h1.out.2.2)
                exact ⟨y0, y1, y2, y3, y4, y5, y6, y7, y8, kS_0, kS_1, kS_2, kS_3, kS_4, h1⟩)
              have HBA3 : Hid (Below w0.heap.size w0 w2 ∧ Below wr.heap.size wr w2 ∧ Below w2.heap.size w2 w2) := Lib.hid ⟨HB_2.out, HB_wr_2.out, HB_w2_2.out⟩
              refine wp_region_T (S := fun w' => w'.cell? ⟨w.heap.size, 0, none⟩ = some (.int .i64 o.num) ∧ w'.cell? ⟨w.heap.size, 1, none⟩ = some (.string o.rs) ∧ w'.cell? ⟨w.heap.size, 2, none⟩ = some (.int .i64 o.E1) ∧ w'.cell? ⟨w.heap.size, 3, none⟩ = some (.int .i64 o.E2) ∧ w'.cell? ⟨w.heap.size, 4, none⟩ = some (.slice o.A o.na o.ca) ∧ w'.cell? ⟨w.heap.size, 5, none⟩ = some (.int .i64 o.C) ∧ w'.cell? ⟨w.heap.size, 6, none⟩ = some (.slice o.Z o.nz o.cz) ∧ w'.cell? ⟨w.heap.size, 7, none⟩ = some (.slice (some ⟨b, f, none⟩) o.np o.cp) ∧ w'.cell? ⟨w.heap.size, 8, none⟩ = some (.int .i64 o.key) ∧ w'.cell? ⟨wr.heap.size, 0, none⟩ = some (.int .i64 p.ix) ∧ w'.cell? ⟨wr.heap.size, 1, none⟩ = some (.int .i64 p.v) ∧ w'.cell? ⟨wr.heap.size, 2, none⟩ = some (.slice p.A p.na p.ca) ∧ w'.cell? ⟨wr.heap.size, 3, none⟩ = some (.int .i64 p.C) ∧ w'.cell? ⟨wr.heap.size, 4, none⟩ = some (.slice p.Z p.nz p.cz) ∧ Hid (Below w0.heap.size w0 w' ∧ Below wr.heap.size wr w' ∧ Below w2.heap.size w2 w')) (E := []) (by kernel_rfl) (hS3.out _ (hBx3.out _ _ HBA3 ((Below.refl _ _).drew))) (fun hHeld => ?_)
              refine tkV 0 ?_
              try simp only [qq1, qq2, qq3, Act.put, qq4, qq5, qq6]
              refine tkV 1 ?_
              try simp only [qq1, qq2, qq3, Act.put, qq4, qq5, qq6]
              refine tkV 2 ?_
              try simp only [qq1, qq2, qq3, Act.put, qq4, qq5, qq6]
              refine tkV 3 ?_
              try simp only [qq1, qq2, qq3, Act.put, qq4, qq5, qq6]
              refine tkV 4 ?_
              try simp only [qq1, qq2, qq3, Act.put, qq4, qq5, qq6]
              refine tkV 5 ?_
              try simp only [qq1, qq2, qq3, Act.put, qq4, qq5, qq6]
              refine tkV 6 ?_
              try simp only [qq1, qq2, qq3, Act.put, qq4, qq5, qq6]
              refine tkV 7 ?_
              try simp only [qq1, qq2, qq3, Act.put, qq4, qq5, qq6]
              refine tkV 8 ?_
              try simp only [qq1, qq2, qq3, Act.put, qq4, qq5, qq6]
              refine tkV 9 ?_
              try simp only [qq1, qq2, qq3, Act.put, qq4, qq5, qq6]
              refine tkV 10 ?_
              try simp only [qq1, qq2, qq3, Act.put, qq4, qq5, qq6]
              refine tkV 11 ?_
              try simp only [qq1, qq2, qq3, Act.put, qq4, qq5, qq6]
              refine tkV 12 ?_
              try simp only [qq1, qq2, qq3, Act.put, qq4, qq5, qq6]
              refine tkV 13 ?_
              try simp only [qq1, qq2, qq3, Act.put, qq4, qq5, qq6]
              refine tkV 14 ?_
              try simp only [qq1, qq2, qq3, Act.put, qq4, qq5, qq6]
              refine wpT_one (i := 15) (by kernel_rfl) rfl (fun K hK => ?_)
              go_simp
              refine (has_any (some ⟨b, f, none⟩) o.ps k o.cp p.ix true HFR HKP (by omega) _ (kP.out _ (Lib.hid (hHeld.2.2.2.2.2.2.2.2.2.2.2.2.2.2).out.2.1))).mono ?_
              rintro e wA ⟨rfl, hbA⟩
              refine hK.out _ _ ?_ (fun hHeld => ?_)
              · exact hS3.out _ (hBx3.out _ _ hHeld.2.2.2.2.2.2.2.2.2.2.2.2.2.2 hbA)
              clear hK K
              try simp only [qq1, qq2, qq3, Act.put, qq4, qq5, qq6]
              refine tkV 16 ?_
              try simp only [qq1, qq2, qq3, Act.put, qq4, qq5, qq6]
              refine tkV 17 ?_
              try simp only [qq1, qq2, qq3, Act.put, qq4, qq5, qq6]
              refine tkV 18 ?_
              try simp only [qq1, qq2, qq3, Act.put, qq4, qq5, qq6]
              refine tkV 19 ?_
              try simp only [qq1, qq2, qq3, Act.put, qq4, qq5, qq6]
              refine wpT_one (i := 20) (by kernel_rfl) rfl (fun K hK => ?_)
              go_simp
              refine (rshort_any p.A p.na p.ca p.C p.Z p.nz p.cz true HSS _).mono ?_
              rintro e wA ⟨rfl, hbA⟩
              refine hK.out _ _ ?_ (fun hHeld => ?_)
              · exact hS3.out _ (hBx3.out _ _ hHeld.2.2.2.2.2.2.2.2.2.2.2.2.2.2 hbA)
              clear hK K
              try simp only [qq1, qq2, qq3, Act.put, qq4, qq5, qq6]
              refine tkV 21 ?_
              try simp only [qq1, qq2, qq3, Act.put, qq4, qq5, qq6]
              refine tkV 22 ?_
              try simp only [qq1, qq2, qq3, Act.put, qq4, qq5, qq6]
              refine wpT_done (by kernel_rfl) ?_ _
              obtain ⟨x0, x1, x2, x3, x4, x5, x6, x7, x8, x9, x10, x11, x12, x13, FB3⟩ := hHeld
              clear x0 x1 x2 x3 x4 x5 x6 x7 x8 x9 x10 x11 x12 x13 hS3 hBx3 HBA3
              have HL3_w0 := Lib.hid FB3.out.1
              have HL3_wr := Lib.hid FB3.out.2.1
              have HL3_w2 := Lib.hid FB3.out.2.2
              obtain ⟨zc0, zc1, zc2, zc3, zc4, zc5, zc6, zc7, zc8⟩ := kC.out _ HL3_w0
              obtain ⟨kS_0, kS_1, kS_2, kS_3, kS_4⟩ := kS.out _ HL3_w2
              go_wp2
              go_roundw
              case rel => exact ⟨k + 1, by omega, by go_num, HS, HL3_w0⟩
              case measure => simp [intOf]; omega
            | false =>
              have dx0 : decide (p.ix < 1) = false := by simp; omega
              have dx1 : decide ((8 : Int) < p.ix) = false := by simp; omega
              have HF : Hid (ptsB o.ps o.np = false) := Lib.hid (ptsB_hit (k := k) (by rw [prtB, HPP.out]; simp [hss]) hlt)
              have HFR := Lib.hid hfr
              have HSS := Lib.hid hss
              clear hfr hss HR
              have HB_wr_1 : Hid (Below wr.heap.size wr wr) := Lib.hid (Below.refl _ _)
              have kP := Lib.hid (show ∀ u : World, Hid (Below wr.heap.size wr u) → Hid (Pa u (some ⟨b, f, none⟩) o.ps) from fun u h => Lib.hid (HPA.out.below h.out))
              obtain ⟨zc0, zc1, zc2, zc3, zc4, zc5, zc6, zc7, zc8⟩ := kC.out _ HBr
              rw [HLA.out] at zc7
              have kC := Lib.hid (show ∀ u : World, Hid (Below w0.heap.size w0 u) → u.cell? ⟨w.heap.size, 0, none⟩ = some (.int .i64 o.num) ∧ u.cell? ⟨w.heap.size, 1, none⟩ = some (.string o.rs) ∧ u.cell? ⟨w.heap.size, 2, none⟩ = some (.int .i64 o.E1) ∧ u.cell? ⟨w.heap.size, 3, none⟩ = some (.int .i64 o.E2) ∧ u.cell? ⟨w.heap.size, 4, none⟩ = some (.slice o.A o.na o.ca) ∧ u.cell? ⟨w.heap.size, 5, none⟩ = some (.int .i64 o.C) ∧ u.cell? ⟨w.heap.size, 6, none⟩ = some (.slice o.Z o.nz o.cz) ∧ u.cell? ⟨w.heap.size, 7, none⟩ = some (.slice (some ⟨b, f, none⟩) o.np o.cp) ∧ u.cell? ⟨w.heap.size, 8, none⟩ = some (.int .i64 o.key) from fun u h => by
                have hk := kC.out u h
                rw [HLA.out] at hk
                exact hk)
              have hq := below_box0 wr (ptO p)
              have HB_2 := Lib.hid (below_ext HBr.out hq)
              have HB_wr_2 := Lib.hid (below_ext HB_wr_1.out hq)
              have hc : (wr.alloc (ptO p)).cell? ⟨wr.heap.size, 0, none⟩ = some (.int .i64 p.ix) ∧ (wr.alloc (ptO p)).cell? ⟨wr.heap.size, 1, none⟩ = some (.int .i64 p.v) ∧ (wr.alloc (ptO p)).cell? ⟨wr.heap.size, 2, none⟩ = some (.slice p.A p.na p.ca) ∧ (wr.alloc (ptO p)).cell? ⟨wr.heap.size, 3, none⟩ = some (.int .i64 p.C) ∧ (wr.alloc (ptO p)).cell? ⟨wr.heap.size, 4, none⟩ = some (.slice p.Z p.nz p.cz) := ⟨allocs_cell rfl (by rfl), allocs_cell rfl (by rfl), allocs_cell rfl (by rfl), allocs_cell rfl (by rfl), allocs_cell rfl (by rfl)⟩
              have HC2 := Lib.hid hc
              clear hq
              obtain ⟨zc0x, zc1x, zc2x, zc3x, zc4x, zc5x, zc6x, zc7x, zc8x⟩ := kC.out _ HB_2
              obtain ⟨zq0, zq1, zq2, zq3, zq4⟩ := hc
              go_upto_region 7 with (fail)
              obtain ⟨w2, hw⟩ : ∃ x, (wr.alloc (ptO p)) = x := ⟨_, rfl⟩
              rw [hw] at HC2 HB_2 HB_wr_2 ⊢
              have HSN2 : Hid (w2.heap.size = wr.heap.size + 1) := Lib.hid (by rw [← hw]; simp)
              clear zc0 zc1 zc2 zc3 zc4 zc5 zc6 zc7 zc8 zc0x zc1x zc2x zc3x zc4x zc5x zc6x zc7x zc8x zq0 zq1 zq2 zq3 zq4
              clear hw
              have HB_w2_2 : Hid (Below w2.heap.size w2 w2) := Lib.hid (Below.refl _ _)
              have kS := Lib.hid (show ∀ u : World, Hid (Below w2.heap.size w2 u) → u.cell? ⟨wr.heap.size, 0, none⟩ = some (.int .i64 p.ix) ∧ u.cell? ⟨wr.heap.size, 1, none⟩ = some (.int .i64 p.v) ∧ u.cell? ⟨wr.heap.size, 2, none⟩ = some (.slice p.A p.na p.ca) ∧ u.cell? ⟨wr.heap.size, 3, none⟩ = some (.int .i64 p.C) ∧ u.cell? ⟨wr.heap.size, 4, none⟩ = some (.slice p.Z p.nz p.cz) from fun u h => ⟨cell_below HC2.out.1 h.out, cell_below HC2.out.2.1 h.out, cell_below HC2.out.2.2.1 h.out, cell_below HC2.out.2.2.2.1 h.out, cell_below HC2.out.2.2.2.2 h.out⟩)
              obtain ⟨zc0, zc1, zc2, zc3, zc4, zc5, zc6, zc7, zc8⟩ := kC.out _ HB_2
              obtain ⟨kS_0, kS_1, kS_2, kS_3, kS_4⟩ := kS.out _ HB_w2_2
              clear j0 j1 j2 j3 j4
              clear zc0 zc1 zc2 zc3 zc4 zc5 zc6 zc7 zc8 kS_0 kS_1 kS_2 kS_3 kS_4
              obtain ⟨zc0, zc1, zc2, zc3, zc4, zc5, zc6, zc7, zc8⟩ := kC.out _ HB_2
              obtain ⟨kS_0, kS_1, kS_2, kS_3, kS_4⟩ := kS.out _ HB_w2_2
              clear zc0 zc1 zc2 zc3 zc4 zc5 zc6 zc7 zc8 kS_0 kS_1 kS_2 kS_3 kS_4
              have hBx3 := Lib.hid (show ∀ u u2 : World, Hid (Below w0.heap.size w0 u ∧ Below wr.heap.size wr u ∧ Below w2.heap.size w2 u) → Below u.heap.size u u2 → Hid (Below w0.heap.size w0 u2 ∧ Below wr.heap.size wr u2 ∧ Below w2.heap.size w2 u2) from fun u u2 h1 h2 => Lib.hid ⟨(below_ext h1.out.1 h2), (below_ext h1.out.2.1 h2), (below_ext h1.out.2.2 h2)⟩)
              have hS3 := Lib.hid (show ∀ u : World, Hid (Below w0.heap.size w0 u ∧ Below wr.heap.size wr u ∧ Below w2.heap.size w2 u) → (u.cell? ⟨w.heap.size, 0, none⟩ = some (.int .i64 o.num) ∧ u.cell? ⟨w.heap.size, 1, none⟩ = some (.string o.rs) ∧ u.cell? ⟨w.heap.size, 2, none⟩ = some (.int .i64 o.E1) ∧ u.cell? ⟨w.heap.size, 3, none⟩ = some (.int .i64 o.E2) ∧ u.cell? ⟨w.heap.size, 4, none⟩ = some (.slice o.A o.na o.ca) ∧ u.cell? ⟨w.heap.size, 5, none⟩ = some (.int .i64 o.C) ∧ u.cell? ⟨w.heap.size, 6, none⟩ = some (.slice o.Z o.nz o.cz) ∧ u.cell? ⟨w.heap.size, 7, none⟩ = some (.slice (some ⟨b, f, none⟩) o.np o.cp) ∧ u.cell? ⟨w.heap.size, 8, none⟩ = some (.int .i64 o.key) ∧ u.cell? ⟨wr.heap.size, 0, none⟩ = some (.int .i64 p.ix) ∧ u.cell? ⟨wr.heap.size, 1, none⟩ = some (.int .i64 p.v) ∧ u.cell? ⟨wr.heap.size, 2, none⟩ = some (.slice p.A p.na p.ca) ∧ u.cell? ⟨wr.heap.size, 3, none⟩ = some (.int .i64 p.C) ∧ u.cell? ⟨wr.heap.size, 4, none⟩ = some (.slice p.Z p.nz p.cz) ∧ Hid (Below w0.heap.size w0 u ∧ Below wr.heap.size wr u ∧ Below w2.heap.size w2 u)) from fun u h1 => by
                obtain ⟨y0, y1, y2, y3, y4, y5, y6, y7, y8⟩ := kC.out _ (Lib.hid h1.out.1)
                obtain ⟨kS_0, kS_1, kS_2, kS_3, kS_4⟩ := kS.out _ (Lib.hid h1.out.2.2)
                exact ⟨y0, y1, y2, y3, y4, y5, y6, y7, y8, kS_0, kS_1, kS_2, kS_3, kS_4, h1⟩)
              have HBA3 : Hid (Below w0.heap.size w0 w2 ∧ Below wr.heap.size wr w2 ∧ Below w2.heap.size w2 w2) := Lib.hid ⟨HB_2.out, HB_wr_2.out, HB_w2_2.out⟩
              refine wp_region_T (S := fun w' => w'.cell? ⟨w.heap.size, 0, none⟩ = some (.int .i64 o.num) ∧ w'.cell? ⟨w.heap.size, 1, none⟩ = some (.string o.rs) ∧ w'.cell? ⟨w.heap.size, 2, none⟩ = some (.int .i64 o.E1) ∧ w'.cell? ⟨w.heap.size, 3, none⟩ = some (.int .i64 o.E2) ∧ w'.cell? ⟨w.heap.size, 4, none⟩ = some (.slice o.A o.na o.ca) ∧ w'.cell? ⟨w.heap.size, 5, none⟩ = some (.int .i64 o.C) ∧ w'.cell? ⟨w.heap.size, 6, none⟩ = some (.slice o.Z o.nz o.cz) ∧ w'.cell? ⟨w.heap.size, 7, none⟩ = some (.slice (some ⟨b, f, none⟩) o.np o.cp) ∧ w'.cell? ⟨w.heap.size, 8, none⟩ = some (.int .i64 o.key) ∧ w'.cell? ⟨wr.heap.size, 0, none⟩ = some (.int .i64 p.ix) ∧ w'.cell? ⟨wr.heap.size, 1, none⟩ = some (.int .i64 p.v) ∧ w'.cell? ⟨wr.heap.size, 2, none⟩ = some (.slice p.A p.na p.ca) ∧ w'.cell? ⟨wr.heap.size, 3, none⟩ = some (.int .i64 p.C) ∧ w'.cell? ⟨wr.heap.size, 4, none⟩ = some (.slice p.Z p.nz p.cz) ∧ Hid (Below w0.heap.size w0 w' ∧ Below wr.heap.size wr w' ∧ Below w2.heap.size w2 w')) (E := []) (by kernel_rfl) (hS3.out _ (hBx3.out _ _ HBA3 ((Below.refl _ _).drew))) (fun hHeld => ?_)
              refine tkV 0 ?_
              try simp only [qq1, qq2, qq3, Act.put, qq4, qq5, qq6]
              refine tkV 1 ?_
              try simp only [qq1, qq2, qq3, Act.put, qq4, qq5, qq6]
              refine tkV 2 ?_
              try simp only [qq1, qq2, qq3, Act.put, qq4, qq5, qq6]
              refine tkV 3 ?_
              try simp only [qq1, qq2, qq3, Act.put, qq4, qq5, qq6]
              refine tkV 4 ?_
              try simp only [qq1, qq2, qq3, Act.put, qq4, qq5, qq6]
              refine tkV 5 ?_
              try simp only [qq1, qq2, qq3, Act.put, qq4, qq5, qq6]
              refine tkV 6 ?_
              try simp only [qq1, qq2, qq3, Act.put, qq4, qq5, qq6]
              refine tkV 7 ?_
              try simp only [qq1, qq2, qq3, Act.put, qq4, qq5, qq6]
              refine tkV 8 ?_
              try simp only [qq1, qq2, qq3, Act.put, qq4, qq5, qq6]
              refine tkV 9 ?_
              try simp only [qq1, qq2, qq3, Act.put, qq4, qq5, qq6]
              refine tkV 10 ?_
              try simp only [qq1, qq2, qq3, Act.put, qq4, qq5, qq6]
              refine tkV 11 ?_
              try simp only [qq1, qq2, qq3, Act.put, qq4, qq5, qq6]
              refine tkV 12 ?_
              try simp only [qq1, qq2, qq3, Act.put, qq4, qq5, qq6]
              refine tkV 13 ?_
              try simp only [qq1, qq2, qq3, Act.put, qq4, qq5, qq6]
              refine tkV 14 ?_
              try simp only [qq1, qq2, qq3, Act.put, qq4, qq5, qq6]
              refine wpT_one (i := 15) (by kernel_rfl) rfl (fun K hK => ?_)
              go_simp
              refine (has_any (some ⟨b, f, none⟩) o.ps k o.cp p.ix true HFR HKP (by omega) _ (kP.out _ (Lib.hid (hHeld.2.2.2.2.2.2.2.2.2.2.2.2.2.2).out.2.1))).mono ?_
              rintro e wA ⟨rfl, hbA⟩
              refine hK.out _ _ ?_ (fun hHeld => ?_)
              · exact hS3.out _ (hBx3.out _ _ hHeld.2.2.2.2.2.2.2.2.2.2.2.2.2.2 hbA)
              clear hK K
              try simp only [qq1, qq2, qq3, Act.put, qq4, qq5, qq6]
              refine tkV 16 ?_
              try simp only [qq1, qq2, qq3, Act.put, qq4, qq5, qq6]
              refine tkV 17 ?_
              try simp only [qq1, qq2, qq3, Act.put, qq4, qq5, qq6]
              refine tkV 18 ?_
              try simp only [qq1, qq2, qq3, Act.put, qq4, qq5, qq6]
              refine tkV 19 ?_
              try simp only [qq1, qq2, qq3, Act.put, qq4, qq5, qq6]
              refine wpT_one (i := 20) (by kernel_rfl) rfl (fun K hK => ?_)
              go_simp
              refine (rshort_any p.A p.na p.ca p.C p.Z p.nz p.cz false HSS _).mono ?_
              rintro e wA ⟨rfl, hbA⟩
              refine hK.out _ _ ?_ (fun hHeld => ?_)
              · exact hS3.out _ (hBx3.out _ _ hHeld.2.2.2.2.2.2.2.2.2.2.2.2.2.2 hbA)
              clear hK K
              try simp only [qq1, qq2, qq3, Act.put, qq4, qq5, qq6]
              refine tkV 21 ?_
              try simp only [qq1, qq2, qq3, Act.put, qq4, qq5, qq6]
              refine tkV 22 ?_
              try simp only [qq1, qq2, qq3, Act.put, qq4, qq5, qq6]
              refine wpT_done (by kernel_rfl) ?_ _
              obtain ⟨x0, x1, x2, x3, x4, x5, x6, x7, x8, x9, x10, x11, x12, x13, FB3⟩ := hHeld
              clear x0 x1 x2 x3 x4 x5 x6 x7 x8 x9 x10 x11 x12 x13 hS3 hBx3 HBA3
              have HL3_w0 := Lib.hid FB3.out.1
              have HL3_wr := Lib.hid FB3.out.2.1
              have HL3_w2 := Lib.hid FB3.out.2.2
              obtain ⟨zc0, zc1, zc2, zc3, zc4, zc5, zc6, zc7, zc8⟩ := kC.out _ HL3_w0
              obtain ⟨kS_0, kS_1, kS_2, kS_3, kS_4⟩ := kS.out _ HL3_w2
              have hbF := below_ext HBw.out HL3_w0.out
              go_wp2
              go_ret
              exact ⟨(by rw [HF.out]; try rfl), hbF⟩
          | false =>
            have dx0 : decide (p.ix < 1) = false := by simp; omega
            have dx1 : decide ((8 : Int) < p.ix) = false := by simp; omega
            have HF : Hid (ptsB o.ps o.np = false) := Lib.hid (ptsB_hit (k := k) (by rw [prtB, HPP.out]; simp [hfr]) hlt)
            have HFR := Lib.hid hfr
            clear hfr HR
            have HB_wr_1 : Hid (Below wr.heap.size wr wr) := Lib.hid (Below.refl _ _)
            have kP := Lib.hid (show ∀ u : World, Hid (Below wr.heap.size wr u) → Hid (Pa u (some ⟨b, f, none⟩) o.ps) from fun u h => Lib.hid (HPA.out.below h.out))
            obtain ⟨zc0, zc1, zc2, zc3, zc4, zc5, zc6, zc7, zc8⟩ := kC.out _ HBr
            rw [HLA.out] at zc7
            have kC := Lib.hid (show ∀ u : World, Hid (Below w0.heap.size w0 u) → u.cell? ⟨w.heap.size, 0, none⟩ = some (.int .i64 o.num) ∧ u.cell? ⟨w.heap.size, 1, none⟩ = some (.string o.rs) ∧ u.cell? ⟨w.heap.size, 2, none⟩ = some (.int .i64 o.E1) ∧ u.cell? ⟨w.heap.size, 3, none⟩ = some (.int .i64 o.E2) ∧ u.cell? ⟨w.heap.size, 4, none⟩ = some (.slice o.A o.na o.ca) ∧ u.cell? ⟨w.heap.size, 5, none⟩ = some (.int .i64 o.C) ∧ u.cell? ⟨w.heap.size, 6, none⟩ = some (.slice o.Z o.nz o.cz) ∧ u.cell? ⟨w.heap.size, 7, none⟩ = some (.slice (some ⟨b, f, none⟩) o.np o.cp) ∧ u.cell? ⟨w.heap.size, 8, none⟩ = some (.int .i64 o.key) from fun u h => by
              have hk := kC.out u h
              rw [HLA.out] at hk
              exact hk)
            have hq := below_box0 wr (ptO p)
            have HB_2 := Lib.hid (below_ext HBr.out hq)
            have HB_wr_2 := Lib.hid (below_ext HB_wr_1.out hq)
            have hc : (wr.alloc (ptO p)).cell? ⟨wr.heap.size, 0, none⟩ = some (.int .i64 p.ix) ∧ (wr.alloc (ptO p)).cell? ⟨wr.heap.size, 1, none⟩ = some (.int .i64 p.v) ∧ (wr.alloc (ptO p)).cell? ⟨wr.heap.size, 2, none⟩ = some (.slice p.A p.na p.ca) ∧ (wr.alloc (ptO p)).cell? ⟨wr.heap.size, 3, none⟩ = some (.int .i64 p.C) ∧ (wr.alloc (ptO p)).cell? ⟨wr.heap.size, 4, none⟩ = some (.slice p.Z p.nz p.cz) := ⟨allocs_cell rfl (by rfl), allocs_cell rfl (by rfl), allocs_cell rfl (by rfl), allocs_cell rfl (by rfl), allocs_cell rfl (by rfl)⟩
            have HC2 := Lib.hid hc
            clear hq
            obtain ⟨zc0x, zc1x, zc2x, zc3x, zc4x, zc5x, zc6x, zc7x, zc8x⟩ := kC.out _ HB_2
            obtain ⟨zq0, zq1, zq2, zq3, zq4⟩ := hc
            go_upto_region 7 with (fail)
            obtain ⟨w2, hw⟩ : ∃ x, (wr.alloc (ptO p)) = x := ⟨_, rfl⟩
            rw [hw] at HC2 HB_2 HB_wr_2 ⊢
            have HSN2 : Hid (w2.heap.size = wr.heap.size + 1) := Lib.hid (by rw [← hw]; simp)
            clear zc0 zc1 zc2 zc3 zc4 zc5 zc6 zc7 zc8 zc0x zc1x zc2x zc3x zc4x zc5x zc6x zc7x zc8x zq0 zq1 zq2 zq3 zq4
            clear hw
            have HB_w2_2 : Hid (Below w2.heap.size w2 w2) := Lib.hid (Below.refl _ _)
            have kS := Lib.hid (show ∀ u : World, Hid (Below w2.heap.size w2 u) → u.cell? ⟨wr.heap.size, 0, none⟩ = some (.int .i64 p.ix) ∧ u.cell? ⟨wr.heap.size, 1, none⟩ = some (.int .i64 p.v) ∧ u.cell? ⟨wr.heap.size, 2, none⟩ = some (.slice p.A p.na p.ca) ∧ u.cell? ⟨wr.heap.size, 3, none⟩ = some (.int .i64 p.C) ∧ u.cell? ⟨wr.heap.size, 4, none⟩ = some (.slice p.Z p.nz p.cz) from fun u h => ⟨cell_below HC2.out.1 h.out, cell_below HC2.out.2.1 h.out, cell_below HC2.out.2.2.1 h.out, cell_below HC2.out.2.2.2.1 h.out, cell_below HC2.out.2.2.2.2 h.out⟩)
            obtain ⟨zc0, zc1, zc2, zc3, zc4, zc5, zc6, zc7, zc8⟩ := kC.out _ HB_2
            obtain ⟨kS_0, kS_1, kS_2, kS_3, kS_4⟩ := kS.out _ HB_w2_2
            clear j0 j1 j2 j3 j4
            clear zc0 zc1 zc2 zc3 zc4 zc5 zc6 zc7 zc8 kS_0 kS_1 kS_2 kS_3 kS_4
            obtain ⟨zc0, zc1, zc2, zc3, zc4, zc5, zc6, zc7, zc8⟩ := kC.out _ HB_2
            obtain ⟨kS_0, kS_1, kS_2, kS_3, kS_4⟩ := kS.out _ HB_w2_2
            clear zc0 zc1 zc2 zc3 zc4 zc5 zc6 zc7 zc8 kS_0 kS_1 kS_2 kS_3 kS_4
            have hBx3 := Lib.hid (show ∀ u u2 : World, Hid (Below w0.heap.size w0 u ∧ Below wr.heap.size wr u ∧ Below w2.heap.size w2 u) → Below u.heap.size u u2 → Hid (Below w0.heap.size w0 u2 ∧ Below wr.heap.size wr u2 ∧ Below w2.heap.size w2 u2) from fun u u2 h1 h2 => Lib.hid ⟨(below_ext h1.out.1 h2), (below_ext h1.out.2.1 h2), (below_ext h1.out.2.2 h2)⟩)
            have hS3 := Lib.hid (show ∀ u : World, Hid (Below w0.heap.size w0 u ∧ Below wr.heap.size wr u ∧ Below w2.heap.size w2 u) → (u.cell? ⟨w.heap.size, 0, none⟩ = some (.int .i64 o.num) ∧ u.cell? ⟨w.heap.size, 1, none⟩ = some (.string o.rs) ∧ u.cell? ⟨w.heap.size, 2, none⟩ = some (.int .i64 o.E1) ∧ u.cell? ⟨w.heap.size, 3, none⟩ = some (.int .i64 o.E2) ∧ u.cell? ⟨w.heap.size, 4, none⟩ = some (.slice o.A o.na o.ca) ∧ u.cell? ⟨w.heap.size, 5, none⟩ = some (.int .i64 o.C) ∧ u.cell? ⟨w.heap.size, 6, none⟩ = some (.slice o.Z o.nz o.cz) ∧ u.cell? ⟨w.heap.size, 7, none⟩ = some (.slice (some ⟨b, f, none⟩) o.np o.cp) ∧ u.cell? ⟨w.heap.size, 8, none⟩ = some (.int .i64 o.key) ∧ u.cell? ⟨wr.heap.size, 0, none⟩ = some (.int .i64 p.ix) ∧ u.cell? ⟨wr.heap.size, 1, none⟩ = some (.int .i64 p.v) ∧ u.cell? ⟨wr.heap.size, 2, none⟩ = some (.slice p.A p.na p.ca) ∧ u.cell? ⟨wr.heap.size, 3, none⟩ = some (.int .i64 p.C) ∧ u.cell? ⟨wr.heap.size, 4, none⟩ = some (.slice p.Z p.nz p.cz) ∧ Hid (Below w0.heap.size w0 u ∧ Below wr.heap.size wr u ∧ Below w2.heap.size w2 u)) from fun u h1 => by
              obtain ⟨y0, y1, y2, y3, y4, y5, y6, y7, y8⟩ := kC.out _ (Lib.hid h1.out.1)
              obtain ⟨kS_0, kS_1, kS_2, kS_3, kS_4⟩ := kS.out _ (Lib.hid h1.out.2.2)
              exact ⟨y0, y1, y2, y3, y4, y5, y6, y7, y8, kS_0, kS_1, kS_2, kS_3, kS_4, h1⟩)
            have HBA3 : Hid (Below w0.heap.size w0 w2 ∧ Below wr.heap.size wr w2 ∧ Below w2.heap.size w2 w2) := Lib.hid ⟨HB_2.out, HB_wr_2.out, HB_w2_2.out⟩
            refine wp_region_T (S := fun w' => w'.cell? ⟨w.heap.size, 0, none⟩ = some (.int .i64 o.num) ∧ w'.cell? ⟨w.heap.size, 1, none⟩ = some (.string o.rs) ∧ w'.cell? ⟨w.heap.size, 2, none⟩ = some (.int .i64 o.E1) ∧ w'.cell? ⟨w.heap.size, 3, none⟩ = some (.int .i64 o.E2) ∧ w'.cell? ⟨w.heap.size, 4, none⟩ = some (.slice o.A o.na o.ca) ∧ w'.cell? ⟨w.heap.size, 5, none⟩ = some (.int .i64 o.C) ∧ w'.cell? ⟨w.heap.size, 6, none⟩ = some (.slice o.Z o.nz o.cz) ∧ w'.cell? ⟨w.heap.size, 7, none⟩ = some (.slice (some ⟨b, f, none⟩) o.np o.cp) ∧ w'.cell? ⟨w.heap.size, 8, none⟩ = some (.int .i64 o.key) ∧ w'.cell? ⟨wr.heap.size, 0, none⟩ = some (.int .i64 p.ix) ∧ w'.cell? ⟨wr.heap.size, 1, none⟩ = some (.int .i64 p.v) ∧ w'.cell? ⟨wr.heap.size, 2, none⟩ = some (.slice p.A p.na p.ca) ∧ w'.cell? ⟨wr.heap.size, 3, none⟩ = some (.int .i64 p.C) ∧ w'.cell? ⟨wr.heap.size, 4, none⟩ = some (.slice p.Z p.nz p.cz) ∧ Hid (Below w0.heap.size w0 w' ∧ Below wr.heap.size wr w' ∧ Below w2.heap.size w2 w')) (E := []) (by kernel_rfl) (hS3.out _ (hBx3.out _ _ HBA3 ((Below.refl _ _).drew))) (fun hHeld => ?_)
            refine tkV 0 ?_
            try simp only [qq1, qq2, qq3, Act.put, qq4, qq5, qq6]
            refine tkV 1 ?_
            try simp only [qq1, qq2, qq3, Act.put, qq4, qq5, qq6]
            refine tkV 2 ?_
            try simp only [qq1, qq2, qq3, Act.put, qq4, qq5, qq6]
            refine tkV 3 ?_
            try simp only [qq1, qq2, qq3, Act.put, qq4, qq5, qq6]
            refine tkV 4 ?_
            try simp only [qq1, qq2, qq3, Act.put, qq4, qq5, qq6]
            refine tkV 5 ?_
            try simp only [qq1, qq2, qq3, Act.put, qq4, qq5, qq6]
            refine tkV 6 ?_
            try simp only [qq1, qq2, qq3, Act.put, qq4, qq5, qq6]
            refine tkV 7 ?_
            try simp only [qq1, qq2, qq3, Act.put, qq4, qq5, qq6]
            refine tkV 8 ?_
            try simp only [qq1, qq2, qq3, Act.put, qq4, qq5, qq6]
            refine tkV 9 ?_
            try simp only [qq1, qq2, qq3, Act.put, qq4, qq5, qq6]
            refine tkV 10 ?_
            try simp only [qq1, qq2, qq3, Act.put, qq4, qq5, qq6]
            refine tkV 11 ?_
            try simp only [qq1, qq2, qq3, Act.put, qq4, qq5, qq6]
            refine tkV 12 ?_
            try simp only [qq1, qq2, qq3, Act.put, qq4, qq5, qq6]
            refine tkV 13 ?_
            try simp only [qq1, qq2, qq3, Act.put, qq4, qq5, qq6]
            refine tkV 14 ?_
            try simp only [qq1, qq2, qq3, Act.put, qq4, qq5, qq6]
            refine wpT_one (i := 15) (by kernel_rfl) rfl (fun K hK => ?_)
            go_simp
            refine (has_any (some ⟨b, f, none⟩) o.ps k o.cp p.ix false HFR HKP (by omega) _ (kP.out _ (Lib.hid (hHeld.2.2.2.2.2.2.2.2.2.2.2.2.2.2).out.2.1))).mono ?_
            rintro e wA ⟨rfl, hbA⟩
            refine hK.out _ _ ?_ (fun hHeld => ?_)
            · exact hS3.out _ (hBx3.out _ _ hHeld.2.2.2.2.2.2.2.2.2.2.2.2.2.2 hbA)
            clear hK K
            try simp only [qq1, qq2, qq3, Act.put, qq4, qq5, qq6]
            refine tkV 16 ?_
            try simp only [qq1, qq2, qq3, Act.put, qq4, qq5, qq6]
            refine tkV 17 ?_
            try simp only [qq1, qq2, qq3, Act.put, qq4, qq5, qq6]
            refine tkU 18 ?_
            try simp only [qq1, qq2, qq3, Act.put, qq4, qq5, qq6]
            refine tkU 19 ?_
            try simp only [qq1, qq2, qq3, Act.put, qq4, qq5, qq6]
            refine tkU 20 ?_
            try simp only [qq1, qq2, qq3, Act.put, qq4, qq5, qq6]
            refine tkU 21 ?_
            try simp only [qq1, qq2, qq3, Act.put, qq4, qq5, qq6]
            refine tkV 22 ?_
            try simp only [qq1, qq2, qq3, Act.put, qq4, qq5, qq6]
            refine wpT_done (by kernel_rfl) ?_ _
            obtain ⟨x0, x1, x2, x3, x4, x5, x6, x7, x8, x9, x10, x11, x12, x13, FB3⟩ := hHeld
            clear x0 x1 x2 x3 x4 x5 x6 x7 x8 x9 x10 x11 x12 x13 hS3 hBx3 HBA3
            have HL3_w0 := Lib.hid FB3.out.1
            have HL3_wr := Lib.hid FB3.out.2.1
            have HL3_w2 := Lib.hid FB3.out.2.2
            obtain ⟨zc0, zc1, zc2, zc3, zc4, zc5, zc6, zc7, zc8⟩ := kC.out _ HL3_w0
            obtain ⟨kS_0, kS_1, kS_2, kS_3, kS_4⟩ := kS.out _ HL3_w2
            have hbF := below_ext HBw.out HL3_w0.out
            go_wp2
            go_ret
            exact ⟨(by rw [HF.out]; try rfl), hbF⟩
    · skip
      have hke : k = o.np := by omega
      have HF : Hid (ptsB o.ps o.np = true) := Lib.hid (by rw [← hke]; exact HR.out)
      obtain ⟨zc0, zc1, zc2, zc3, zc4, zc5, zc6, zc7, zc8⟩ := kC.out _ HBr
      have hbF := below_ext HBw.out HBr.out
      rw [hke]
      go_wp2
      go_ret
      exact ⟨(by rw [HF.out]; try rfl), hbF⟩
theorem rorder_any (o : OrdR) (r : Bool) (hr : Hid (ordB o = r)) (w : World) (ho : Hid (OrdOk w o)) :
    Calls Tryd.prog 31 #[orV o] w fun e' w' => e' = .returned (.bool r) ∧ Below w.heap.size w w' := by
  rw [← hr.out]
  unfold ordB
  by_cases h1 : 0 ≤ o.num
  · rw [decide_eq_true h1, Bool.true_and]
    by_cases h2 : o.num < 100
    · rw [decide_eq_true h2, Bool.true_and]
      unfold rsB
      by_cases h5 : 1 ≤ o.rs.size
      · rw [decide_eq_true h5, Bool.true_and]
        by_cases h6 : o.rs.size ≤ 200
        · rw [decide_eq_true h6, Bool.true_and]
          cases hsh : shB o.na o.nz with
          | false => exact rord_4 o h1 h2 h5 h6 (Lib.hid hsh) w
          | true =>
            by_cases h3 : o.np ≤ 8
            · rw [decide_eq_true h3]
              by_cases h4 : 0 ≤ o.key
              · rw [decide_eq_true h4]
                exact rord_7 o h1 h2 h5 h6 (Lib.hid hsh) h3 h4 w ho
              · rw [decide_eq_false h4]
                exact rord_6 o h1 h2 h5 h6 (Lib.hid hsh) h3 h4 w
            · rw [decide_eq_false h3]
              exact rord_5 o h1 h2 h5 h6 (Lib.hid hsh) h3 w
        · rw [decide_eq_false h6]
          exact rord_3b o h1 h2 h5 (by omega) w
      · rw [decide_eq_false h5]
        exact rord_3a o h1 h2 (by omega) w
    · rw [decide_eq_false h2]
      exact rord_2 o h1 (by omega) w
  · rw [decide_eq_false h1]
    exact rord_1 o (by omega) w
set_option maxHeartbeats 12800000 in
theorem rpart_any (p : PartR) (hna : Hid (p.al.length = p.na)) (hnz : Hid (p.zs.length = p.nz)) (hb1 : p.na ≤ 1000) (hb2 : p.nz ≤ 1000) (w : World) (hA : Hid (Sl w p.A p.al)) (hZ : Hid (Sl w p.Z p.zs)) :
    Calls Tryd.prog 60 #[ptV p] w (ItOutS (pIt p) w) := by
  obtain ⟨w0, hW⟩ : ∃ W, ((w.alloc (ptO p)).alloc (.cells #[.int .i64 0, .int .i64 0, .slice none 0 0, .slice none 0 0] 69)) = W := ⟨_, rfl⟩
  have HBw : Hid (Below w.heap.size w w0) := Lib.hid (by rw [← hW]; exact below_two (Below.refl _ _))
  have hc : w0.cell? ⟨w.heap.size, 0, none⟩ = some (.int .i64 p.ix) ∧ w0.cell? ⟨w.heap.size, 1, none⟩ = some (.int .i64 p.v) ∧ w0.cell? ⟨w.heap.size, 2, none⟩ = some (.slice p.A p.na p.ca) ∧ w0.cell? ⟨w.heap.size, 3, none⟩ = some (.int .i64 p.C) ∧ w0.cell? ⟨w.heap.size, 4, none⟩ = some (.slice p.Z p.nz p.cz) ∧ Own w0 ⟨w.heap.size + 1, 0, none⟩ (.int .i64 0) ∧ Own w0 ⟨w.heap.size + 1, 1, none⟩ (.int .i64 0) ∧ Own w0 ⟨w.heap.size + 1, 2, none⟩ (.slice none 0 0) ∧ Own w0 ⟨w.heap.size + 1, 3, none⟩ (.slice none 0 0) := by rw [← hW]; exact ⟨cell_below (allocs_cell (by simp) (by rfl)) (below_box0 _ _), cell_below (allocs_cell (by simp) (by rfl)) (below_box0 _ _), cell_below (allocs_cell (by simp) (by rfl)) (below_box0 _ _), cell_below (allocs_cell (by simp) (by rfl)) (below_box0 _ _), cell_below (allocs_cell (by simp) (by rfl)) (below_box0 _ _), allocs_own (by simp) (by rfl), allocs_own (by simp) (by rfl), allocs_own (by simp) (by rfl), allocs_own (by simp) (by rfl)⟩
  have kC := Lib.hid (show ∀ u : World, Hid (Below w0.heap.size w0 u) → u.cell? ⟨w.heap.size, 0, none⟩ = some (.int .i64 p.ix) ∧ u.cell? ⟨w.heap.size, 1, none⟩ = some (.int .i64 p.v) ∧ u.cell? ⟨w.heap.size, 2, none⟩ = some (.slice p.A p.na p.ca) ∧ u.cell? ⟨w.heap.size, 3, none⟩ = some (.int .i64 p.C) ∧ u.cell? ⟨w.heap.size, 4, none⟩ = some (.slice p.Z p.nz p.cz) ∧ Own u ⟨w.heap.size + 1, 0, none⟩ (.int .i64 0) ∧ Own u ⟨w.heap.size + 1, 1, none⟩ (.int .i64 0) ∧ Own u ⟨w.heap.size + 1, 2, none⟩ (.slice none 0 0) ∧ Own u ⟨w.heap.size + 1, 3, none⟩ (.slice none 0 0) from fun u h => ⟨cell_below hc.1 h.out, cell_below hc.2.1 h.out, cell_below hc.2.2.1 h.out, cell_below hc.2.2.2.1 h.out, cell_below hc.2.2.2.2.1 h.out, (hc.2.2.2.2.2.1).below h.out, (hc.2.2.2.2.2.2.1).below h.out, (hc.2.2.2.2.2.2.2.1).below h.out, (hc.2.2.2.2.2.2.2.2).below h.out⟩)
  have kA := Lib.hid (show ∀ u : World, Hid (Below w0.heap.size w0 u) → Hid (Sl u p.A p.al) from fun u h => Lib.hid ((hA.out.below) (below_ext HBw.out h.out)))
  have kZ := Lib.hid (show ∀ u : World, Hid (Below w0.heap.size w0 u) → Hid (Sl u p.Z p.zs) from fun u h => Lib.hid ((hZ.out.below) (below_ext HBw.out h.out)))
  have HB_0 : Hid (Below w0.heap.size w0 w0) := Lib.hid (Below.refl _ _)
  have HW := Lib.hid hW
  have kRB := Lib.hid (show ∀ u : World, Hid (Below w0.heap.size w0 u) → Hid (u.heap[w.heap.size + 1]? = some (.cells #[.int .i64 0, .int .i64 0, .slice none 0 0, .slice none 0 0] 69)) from fun u h => Lib.hid (blk_below (by rw [← hW]; exact heap_alloc2_new _ _ _) h.out))
  clear hW hc hA hZ
  go_enter Tryd.func60, Tryd.ntmps60
  go_wp2_with fail
  rw [HW.out]
  obtain ⟨zc0, zc1, zc2, zc3, zc4, ⟨zc5, zf5⟩, ⟨zc6, zf6⟩, ⟨zc7, zf7⟩, ⟨zc8, zf8⟩⟩ := kC.out _ HB_0
  have HSZ0 : Hid (w0.heap.size = w.heap.size + 2) := Lib.hid (by rw [← HW.out]; simp)
  go_upto_region 1 with (fail)
  clear zc0 zc1 zc2 zc3 zc4 zc5 zf5 zc6 zf6 zc7 zf7 zc8 zf8
  have hBx := Lib.hid (show ∀ u u2 : World, Hid (Below w0.heap.size w0 u) → Below u.heap.size u u2 → Hid (Below w0.heap.size w0 u2) from fun u u2 h1 h2 => Lib.hid (below_ext h1.out h2))
  have hS := Lib.hid (show ∀ u : World, Hid (Below w0.heap.size w0 u) → (u.cell? ⟨w.heap.size, 0, none⟩ = some (.int .i64 p.ix) ∧ u.cell? ⟨w.heap.size, 1, none⟩ = some (.int .i64 p.v) ∧ u.cell? ⟨w.heap.size, 2, none⟩ = some (.slice p.A p.na p.ca) ∧ u.cell? ⟨w.heap.size, 3, none⟩ = some (.int .i64 p.C) ∧ u.cell? ⟨w.heap.size, 4, none⟩ = some (.slice p.Z p.nz p.cz) ∧ Own u ⟨w.heap.size + 1, 0, none⟩ (.int .i64 0) ∧ Own u ⟨w.heap.size + 1, 1, none⟩ (.int .i64 0) ∧ Own u ⟨w.heap.size + 1, 2, none⟩ (.slice none 0 0) ∧ Own u ⟨w.heap.size + 1, 3, none⟩ (.slice none 0 0)) from fun u h1 => by
    obtain ⟨y0, y1, y2, y3, y4, y5, y6, y7, y8⟩ := kC.out _ (Lib.hid h1.out)
    exact ⟨y0, y1, y2, y3, y4, y5, y6, y7, y8⟩)
  have HBA : Hid (Below w0.heap.size w0 w0) := Lib.hid HB_0.out
  have HBD := hBx.out _ _ HBA (Below.refl _ _).drew
  refine wp_region_T (S := fun w' => w'.cell? ⟨w.heap.size, 0, none⟩ = some (.int .i64 p.ix) ∧ w'.cell? ⟨w.heap.size, 1, none⟩ = some (.int .i64 p.v) ∧ w'.cell? ⟨w.heap.size, 2, none⟩ = some (.slice p.A p.na p.ca) ∧ w'.cell? ⟨w.heap.size, 3, none⟩ = some (.int .i64 p.C) ∧ w'.cell? ⟨w.heap.size, 4, none⟩ = some (.slice p.Z p.nz p.cz) ∧ Own w' ⟨w.heap.size + 1, 0, none⟩ (.int .i64 0) ∧ Own w' ⟨w.heap.size + 1, 1, none⟩ (.int .i64 0) ∧ Own w' ⟨w.heap.size + 1, 2, none⟩ (.slice none 0 0) ∧ Own w' ⟨w.heap.size + 1, 3, none⟩ (.slice none 0 0)) (E := [20]) (by kernel_rfl) (hS.out _ HBD) (fun hHeld => ?_)
  obtain ⟨wD, hwD⟩ : ∃ u, w0.drew = u := ⟨_, rfl⟩
  rw [hwD] at HBD hHeld ⊢
  have HSZD : Hid (w0.heap.size ≤ wD.heap.size) := Lib.hid (by rw [← hwD]; exact Nat.le_refl _)
  clear hwD
  refine tkV 0 ?_
  try simp only [qq1, qq2, qq3, Act.put, qq4, qq5, qq6]
  refine tkV 1 ?_
  try simp only [qq1, qq2, qq3, Act.put, qq4, qq5, qq6]
  refine tkV 2 ?_
  try simp only [qq1, qq2, qq3, Act.put, qq4, qq5, qq6]
  refine tkV 3 ?_
  try simp only [qq1, qq2, qq3, Act.put, qq4, qq5, qq6]
  refine tkV 6 ?_
  try simp only [qq1, qq2, qq3, Act.put, qq4, qq5, qq6]
  refine tkV 7 ?_
  try simp only [qq1, qq2, qq3, Act.put, qq4, qq5, qq6]
  refine tkV 8 ?_
  try simp only [qq1, qq2, qq3, Act.put, qq4, qq5, qq6]
  refine tkV 10 ?_
  try simp only [qq1, qq2, qq3, Act.put, qq4, qq5, qq6]
  refine tkV 11 ?_
  try simp only [qq1, qq2, qq3, Act.put, qq4, qq5, qq6]
  refine tkV 12 ?_
  try simp only [qq1, qq2, qq3, Act.put, qq4, qq5, qq6]
  refine tkV 14 ?_
  try simp only [qq1, qq2, qq3, Act.put, qq4, qq5, qq6]
  refine tkV 15 ?_
  try simp only [qq1, qq2, qq3, Act.put, qq4, qq5, qq6]
  refine tkV 16 ?_
  try simp only [qq1, qq2, qq3, Act.put, qq4, qq5, qq6]
  refine wpT_frame (fun T a0 hT ha0 => ?_)
  clear hHeld
  have G4_5_9_13_17_18_19 : ∀ (gE : Nat) (cE : Ic) (cA : Ic) (cZ : Ic) (gL : Nat) (u : World), (Hid (Below w0.heap.size w0 u)) → (Hid (IB2 u gE (p.ix) (p.v))) → (Hid (ItS w0.heap.size u (.lst ([p.ix, p.v].map .int)) cE)) → (Hid (ItS w0.heap.size u (.lst ((p.al).map .int)) cA)) → (Hid (ItS w0.heap.size u (.lst ((p.zs).map .int)) cZ)) → (Hid (u.heap[gL]? = some (.cells #[.int .i64 cE.kind, .int .i64 cE.n, .slice cE.B cE.nb cE.cb, .slice cE.L cE.nl cE.cl, .int .i64 cA.kind, .int .i64 cA.n, .slice cA.B cA.nb cA.cb, .slice cA.L cA.nl cA.cl, .int .i64 1, .int .i64 p.C, .slice none 0 0, .slice none 0 0, .int .i64 cZ.kind, .int .i64 cZ.n, .slice cZ.B cZ.nb cZ.cb, .slice cZ.L cZ.nl cZ.cl] 69))) → (Hid (w0.heap.size ≤ gL)) → T 1 #[true, true, true, true, true, true, true, true, true, true, true, true, true, true, true, true, true, true, true, true, false] (((((((a0.put (some 7) (.slice (some ⟨gE, 0, none⟩) 2 2)).put (some 8) (.agg #[.int .i64 cE.kind, .int .i64 cE.n, .slice cE.B cE.nb cE.cb, .slice cE.L cE.nl cE.cl])).put (some 12) (.agg #[.int .i64 cA.kind, .int .i64 cA.n, .slice cA.B cA.nb cA.cb, .slice cA.L cA.nl cA.cl])).put (some 16) (.agg #[.int .i64 1, .int .i64 (p.C), .slice none 0 0, .slice none 0 0])).put (some 20) (.agg #[.int .i64 cZ.kind, .int .i64 cZ.n, .slice cZ.B cZ.nb cZ.cb, .slice cZ.L cZ.nl cZ.cl])).put (some 21) (.slice (some ⟨gL, 0, none⟩) 4 4)).put (some 22) (.agg #[.int .i64 3, .int .i64 (0), .slice none 0 0, .slice (some ⟨gL, 0, none⟩) 4 4])) u := by
    intro gE cE cA cZ gL u FB FE HE HA HZ FL FLl
    have hHeld := hS.out _ FB
    rw [hT, ha0]
    try simp only [qq1, qq2, qq3, Act.put, qq4, qq5, qq6]
    have HE_w0 := Lib.hid FB.out
    have FNIL := kRB.out _ (Lib.hid FB.out)
    refine wpT_pass (i := 20) (by kernel_rfl) (by simp) rfl (fun K hK => ?_)
    rw [show (if Region.wanted _ _ = true then _ else _ : Prop) = _ from if_pos rfl]
    refine wp_store_row 69 _ _ rfl (w.heap.size + 1) (Ic.cs (Ic.mk 3 0 none 0 0 (some ⟨gL, 0, none⟩) 4 4)) rfl rfl 69 _ FNIL.out (ic_info _) rfl (ic_one _) ?_
    refine hK.out _ _ ?_
    clear hK K
    try simp only [qq1, qq2, qq3, Act.put, qq4, qq5, qq6]
    refine wpT_done (by kernel_rfl) ?_ _
    have hit : ItS w0.heap.size u (pIt p) (Ic.mk 3 0 none 0 0 (some ⟨gL, 0, none⟩) 4 4) := its_blk (fun k9 => match k9 with | 0 => cE | 1 => cA | 2 => icInt p.C | _ => cZ) FL.out FLl.out rfl (fun k9 hk => by
        rcases (show k9 = 0 ∨ k9 = 1 ∨ k9 = 2 ∨ k9 = 3 by omega) with rfl | rfl | rfl | rfl <;> exact ⟨rfl, rfl, rfl, rfl⟩) (fun k9 hk => by
        rcases (show k9 = 0 ∨ k9 = 1 ∨ k9 = 2 ∨ k9 = 3 by omega) with rfl | rfl | rfl | rfl
        · exact HE.out
        · exact HA.out
        · exact its_int _ _ _
        · exact HZ.out)
    have hit2 := (hit.setRow (g := w.heap.size + 1) (by have := HSZ0.out; omega) (Ic.cs (Ic.mk 3 0 none 0 0 (some ⟨gL, 0, none⟩) 4 4))).mono (lo' := w.heap.size) (by have := HSZ0.out; omega)
    have hbF := below_setRow' (below_ext HBw.out FB.out) (cs := Ic.cs (Ic.mk 3 0 none 0 0 (some ⟨gL, 0, none⟩) 4 4)) (Nat.le_add_right w.heap.size 1)
    have hrw := setRow_heap _ _ _ (Ic.cs (Ic.mk 3 0 none 0 0 (some ⟨gL, 0, none⟩) 4 4)) _ _ FNIL.out
    go_wp2
    exact bodyPost_ret (v := (Ic.mk 3 0 none 0 0 (some ⟨gL, 0, none⟩) 4 4).val) (results_cell1 (p := 2) (ty := 69) rfl _ _ ⟨w.heap.size + 1, 0, none⟩ _ rfl (run_loadVar_row _ _ _ _ _ _ _ hrw Tryd.underlying69 rfl (ic_info _))) rfl ⟨_, rfl, hit2, hbF⟩
  have G4_5_9_13_17_18 : ∀ (gE : Nat) (cE : Ic) (cA : Ic) (cZ : Ic) (gL : Nat) (u : World), (Hid (Below w0.heap.size w0 u)) → (Hid (IB2 u gE (p.ix) (p.v))) → (Hid (ItS w0.heap.size u (.lst ([p.ix, p.v].map .int)) cE)) → (Hid (ItS w0.heap.size u (.lst ((p.al).map .int)) cA)) → (Hid (ItS w0.heap.size u (.lst ((p.zs).map .int)) cZ)) → (Hid (u.heap[gL]? = some (.cells #[.int .i64 cE.kind, .int .i64 cE.n, .slice cE.B cE.nb cE.cb, .slice cE.L cE.nl cE.cl, .int .i64 cA.kind, .int .i64 cA.n, .slice cA.B cA.nb cA.cb, .slice cA.L cA.nl cA.cl, .int .i64 1, .int .i64 p.C, .slice none 0 0, .slice none 0 0, .int .i64 cZ.kind, .int .i64 cZ.n, .slice cZ.B cZ.nb cZ.cb, .slice cZ.L cZ.nl cZ.cl] 69))) → (Hid (w0.heap.size ≤ gL)) → T 2 #[true, true, true, true, true, true, true, true, true, true, true, true, true, true, true, true, true, true, true, false, false] ((((((a0.put (some 7) (.slice (some ⟨gE, 0, none⟩) 2 2)).put (some 8) (.agg #[.int .i64 cE.kind, .int .i64 cE.n, .slice cE.B cE.nb cE.cb, .slice cE.L cE.nl cE.cl])).put (some 12) (.agg #[.int .i64 cA.kind, .int .i64 cA.n, .slice cA.B cA.nb cA.cb, .slice cA.L cA.nl cA.cl])).put (some 16) (.agg #[.int .i64 1, .int .i64 (p.C), .slice none 0 0, .slice none 0 0])).put (some 20) (.agg #[.int .i64 cZ.kind, .int .i64 cZ.n, .slice cZ.B cZ.nb cZ.cb, .slice cZ.L cZ.nl cZ.cl])).put (some 21) (.slice (some ⟨gL, 0, none⟩) 4 4)) u := by
    intro gE cE cA cZ gL u FB FE HE HA HZ FL FLl
    have hHeld := hS.out _ FB
    rw [hT, ha0]
    try simp only [qq1, qq2, qq3, Act.put, qq4, qq5, qq6]
    refine wpT_one (i := 19) (by kernel_rfl) rfl (fun K hK => ?_)
    go_simp
    refine (rlist_it (some ⟨gL, 0, none⟩) 4 4 _).mono ?_
    rintro e wB ⟨rfl, hq⟩
    have FB2 := hBx.out _ _ FB hq
    refine hK.out _ _ ?_ (fun hHeld => ?_)
    · exact hS.out _ FB2
    clear hK K hHeld
    try simp only [qq1, qq2, qq3, Act.put, qq4, qq5, qq6]
    have hG := G4_5_9_13_17_18_19 gE cE cA cZ gL wB FB2 (Lib.hid (FE.out.below hq)) (Lib.hid (HE.out.kept hq)) (Lib.hid (HA.out.kept hq)) (Lib.hid (HZ.out.kept hq)) (Lib.hid (blk_below FL.out hq)) (FLl)
    rw [hT, ha0] at hG
    (try simp only [qq1, qq2, qq3, Act.put, qq4, qq5, qq6] at hG)
    exact hG
  have G4_5_9_13_17 : ∀ (gE : Nat) (cE : Ic) (cA : Ic) (cZ : Ic) (u : World), (Hid (Below w0.heap.size w0 u)) → (Hid (IB2 u gE (p.ix) (p.v))) → (Hid (ItS w0.heap.size u (.lst ([p.ix, p.v].map .int)) cE)) → (Hid (ItS w0.heap.size u (.lst ((p.al).map .int)) cA)) → (Hid (ItS w0.heap.size u (.lst ((p.zs).map .int)) cZ)) → T 3 #[true, true, true, true, true, true, true, true, true, true, true, true, true, true, true, true, true, true, false, false, false] (((((a0.put (some 7) (.slice (some ⟨gE, 0, none⟩) 2 2)).put (some 8) (.agg #[.int .i64 cE.kind, .int .i64 cE.n, .slice cE.B cE.nb cE.cb, .slice cE.L cE.nl cE.cl])).put (some 12) (.agg #[.int .i64 cA.kind, .int .i64 cA.n, .slice cA.B cA.nb cA.cb, .slice cA.L cA.nl cA.cl])).put (some 16) (.agg #[.int .i64 1, .int .i64 (p.C), .slice none 0 0, .slice none 0 0])).put (some 20) (.agg #[.int .i64 cZ.kind, .int .i64 cZ.n, .slice cZ.B cZ.nb cZ.cb, .slice cZ.L cZ.nl cZ.cl])) u := by
    intro gE cE cA cZ u FB FE HE HA HZ
    have hHeld := hS.out _ FB
    rw [hT, ha0]
    try simp only [qq1, qq2, qq3, Act.put, qq4, qq5, qq6]
    refine wpT_one (i := 18) (by kernel_rfl) rfl (fun K hK => ?_)
    go_simp
    have FB2 := hBx.out _ _ FB (below_box0 u (.cells #[.int .i64 cE.kind, .int .i64 cE.n, .slice cE.B cE.nb cE.cb, .slice cE.L cE.nl cE.cl, .int .i64 cA.kind, .int .i64 cA.n, .slice cA.B cA.nb cA.cb, .slice cA.L cA.nl cA.cl, .int .i64 1, .int .i64 p.C, .slice none 0 0, .slice none 0 0, .int .i64 cZ.kind, .int .i64 cZ.n, .slice cZ.B cZ.nb cZ.cb, .slice cZ.L cZ.nl cZ.cl] 69))
    refine hK.out _ _ ?_ (fun hHeld => ?_)
    · exact hS.out _ FB2
    clear hK K hHeld
    try simp only [qq1, qq2, qq3, Act.put, qq4, qq5, qq6]
    have hG := G4_5_9_13_17_18 gE cE cA cZ u.heap.size (u.alloc (.cells #[.int .i64 cE.kind, .int .i64 cE.n, .slice cE.B cE.nb cE.cb, .slice cE.L cE.nl cE.cl, .int .i64 cA.kind, .int .i64 cA.n, .slice cA.B cA.nb cA.cb, .slice cA.L cA.nl cA.cl, .int .i64 1, .int .i64 p.C, .slice none 0 0, .slice none 0 0, .int .i64 cZ.kind, .int .i64 cZ.n, .slice cZ.B cZ.nb cZ.cb, .slice cZ.L cZ.nl cZ.cl] 69)) FB2 (Lib.hid (FE.out.below (below_box0 u (.cells #[.int .i64 cE.kind, .int .i64 cE.n, .slice cE.B cE.nb cE.cb, .slice cE.L cE.nl cE.cl, .int .i64 cA.kind, .int .i64 cA.n, .slice cA.B cA.nb cA.cb, .slice cA.L cA.nl cA.cl, .int .i64 1, .int .i64 p.C, .slice none 0 0, .slice none 0 0, .int .i64 cZ.kind, .int .i64 cZ.n, .slice cZ.B cZ.nb cZ.cb, .slice cZ.L cZ.nl cZ.cl] 69)))) (Lib.hid (HE.out.kept (below_box0 u (.cells #[.int .i64 cE.kind, .int .i64 cE.n, .slice cE.B cE.nb cE.cb, .slice cE.L cE.nl cE.cl, .int .i64 cA.kind, .int .i64 cA.n, .slice cA.B cA.nb cA.cb, .slice cA.L cA.nl cA.cl, .int .i64 1, .int .i64 p.C, .slice none 0 0, .slice none 0 0, .int .i64 cZ.kind, .int .i64 cZ.n, .slice cZ.B cZ.nb cZ.cb, .slice cZ.L cZ.nl cZ.cl] 69)))) (Lib.hid (HA.out.kept (below_box0 u (.cells #[.int .i64 cE.kind, .int .i64 cE.n, .slice cE.B cE.nb cE.cb, .slice cE.L cE.nl cE.cl, .int .i64 cA.kind, .int .i64 cA.n, .slice cA.B cA.nb cA.cb, .slice cA.L cA.nl cA.cl, .int .i64 1, .int .i64 p.C, .slice none 0 0, .slice none 0 0, .int .i64 cZ.kind, .int .i64 cZ.n, .slice cZ.B cZ.nb cZ.cb, .slice cZ.L cZ.nl cZ.cl] 69)))) (Lib.hid (HZ.out.kept (below_box0 u (.cells #[.int .i64 cE.kind, .int .i64 cE.n, .slice cE.B cE.nb cE.cb, .slice cE.L cE.nl cE.cl, .int .i64 cA.kind, .int .i64 cA.n, .slice cA.B cA.nb cA.cb, .slice cA.L cA.nl cA.cl, .int .i64 1, .int .i64 p.C, .slice none 0 0, .slice none 0 0, .int .i64 cZ.kind, .int .i64 cZ.n, .slice cZ.B cZ.nb cZ.cb, .slice cZ.L cZ.nl cZ.cl] 69)))) (Lib.hid (heap_alloc_new u _)) (Lib.hid (by have := FB.out.size; omega))
    rw [hT, ha0] at hG
    (try simp only [qq1, qq2, qq3, Act.put, qq4, qq5, qq6] at hG)
    exact hG
  have G4_5_9_13 : ∀ (gE : Nat) (cE : Ic) (cA : Ic) (u : World), (Hid (Below w0.heap.size w0 u)) → (Hid (IB2 u gE (p.ix) (p.v))) → (Hid (ItS w0.heap.size u (.lst ([p.ix, p.v].map .int)) cE)) → (Hid (ItS w0.heap.size u (.lst ((p.al).map .int)) cA)) → T 4 #[true, true, true, true, true, true, true, true, true, true, true, true, true, true, true, true, true, false, false, false, false] ((((a0.put (some 7) (.slice (some ⟨gE, 0, none⟩) 2 2)).put (some 8) (.agg #[.int .i64 cE.kind, .int .i64 cE.n, .slice cE.B cE.nb cE.cb, .slice cE.L cE.nl cE.cl])).put (some 12) (.agg #[.int .i64 cA.kind, .int .i64 cA.n, .slice cA.B cA.nb cA.cb, .slice cA.L cA.nl cA.cl])).put (some 16) (.agg #[.int .i64 1, .int .i64 (p.C), .slice none 0 0, .slice none 0 0])) u := by
    intro gE cE cA u FB FE HE HA
    have hHeld := hS.out _ FB
    rw [hT, ha0]
    try simp only [qq1, qq2, qq3, Act.put, qq4, qq5, qq6]
    refine wpT_one (i := 17) (by kernel_rfl) rfl (fun K hK => ?_)
    go_simp
    refine (rints_any p.Z p.zs p.nz p.cz hnz (by omega) _ (kZ.out _ (Lib.hid FB.out))).mono ?_
    rintro e wB ⟨cB, rfl, hit, hq⟩
    have FB2 := hBx.out _ _ FB hq
    refine hK.out _ _ ?_ (fun hHeld => ?_)
    · exact hS.out _ FB2
    clear hK K hHeld
    try simp only [qq1, qq2, qq3, Act.put, qq4, qq5, qq6]
    have hG := G4_5_9_13_17 gE cE cA cB wB FB2 (Lib.hid (FE.out.below hq)) (Lib.hid (HE.out.kept hq)) (Lib.hid (HA.out.kept hq)) (Lib.hid (hit.mono (by have := FB.out.size; omega)))
    rw [hT, ha0] at hG
    (try simp only [qq1, qq2, qq3, Act.put, qq4, qq5, qq6] at hG)
    exact hG
  have G4_5_9 : ∀ (gE : Nat) (cE : Ic) (cA : Ic) (u : World), (Hid (Below w0.heap.size w0 u)) → (Hid (IB2 u gE (p.ix) (p.v))) → (Hid (ItS w0.heap.size u (.lst ([p.ix, p.v].map .int)) cE)) → (Hid (ItS w0.heap.size u (.lst ((p.al).map .int)) cA)) → T 5 #[true, true, true, true, true, true, true, true, true, true, true, true, true, false, true, true, true, false, false, false, false] (((a0.put (some 7) (.slice (some ⟨gE, 0, none⟩) 2 2)).put (some 8) (.agg #[.int .i64 cE.kind, .int .i64 cE.n, .slice cE.B cE.nb cE.cb, .slice cE.L cE.nl cE.cl])).put (some 12) (.agg #[.int .i64 cA.kind, .int .i64 cA.n, .slice cA.B cA.nb cA.cb, .slice cA.L cA.nl cA.cl])) u := by
    intro gE cE cA u FB FE HE HA
    have hHeld := hS.out _ FB
    rw [hT, ha0]
    try simp only [qq1, qq2, qq3, Act.put, qq4, qq5, qq6]
    refine wpT_one (i := 13) (by kernel_rfl) rfl (fun K hK => ?_)
    go_simp
    refine (rinteger_it p.C _).mono ?_
    rintro e wB ⟨rfl, hq⟩
    have FB2 := hBx.out _ _ FB hq
    refine hK.out _ _ ?_ (fun hHeld => ?_)
    · exact hS.out _ FB2
    clear hK K hHeld
    try simp only [qq1, qq2, qq3, Act.put, qq4, qq5, qq6]
    have hG := G4_5_9_13 gE cE cA wB FB2 (Lib.hid (FE.out.below hq)) (Lib.hid (HE.out.kept hq)) (Lib.hid (HA.out.kept hq))
    rw [hT, ha0] at hG
    (try simp only [qq1, qq2, qq3, Act.put, qq4, qq5, qq6] at hG)
    exact hG
  have G4_5 : ∀ (gE : Nat) (cE : Ic) (u : World), (Hid (Below w0.heap.size w0 u)) → (Hid (IB2 u gE (p.ix) (p.v))) → (Hid (ItS w0.heap.size u (.lst ([p.ix, p.v].map .int)) cE)) → T 6 #[true, true, true, true, true, true, true, true, true, false, true, true, true, false, true, true, true, false, false, false, false] ((a0.put (some 7) (.slice (some ⟨gE, 0, none⟩) 2 2)).put (some 8) (.agg #[.int .i64 cE.kind, .int .i64 cE.n, .slice cE.B cE.nb cE.cb, .slice cE.L cE.nl cE.cl])) u := by
    intro gE cE u FB FE HE
    have hHeld := hS.out _ FB
    rw [hT, ha0]
    try simp only [qq1, qq2, qq3, Act.put, qq4, qq5, qq6]
    refine wpT_one (i := 9) (by kernel_rfl) rfl (fun K hK => ?_)
    go_simp
    refine (rints_any p.A p.al p.na p.ca hna (by omega) _ (kA.out _ (Lib.hid FB.out))).mono ?_
    rintro e wB ⟨cB, rfl, hit, hq⟩
    have FB2 := hBx.out _ _ FB hq
    refine hK.out _ _ ?_ (fun hHeld => ?_)
    · exact hS.out _ FB2
    clear hK K hHeld
    try simp only [qq1, qq2, qq3, Act.put, qq4, qq5, qq6]
    have hG := G4_5_9 gE cE cB wB FB2 (Lib.hid (FE.out.below hq)) (Lib.hid (HE.out.kept hq)) (Lib.hid (hit.mono (by have := FB.out.size; omega)))
    rw [hT, ha0] at hG
    (try simp only [qq1, qq2, qq3, Act.put, qq4, qq5, qq6] at hG)
    exact hG
  have G4 : ∀ (gE : Nat) (u : World), (Hid (Below w0.heap.size w0 u)) → (Hid (IB2 u gE (p.ix) (p.v))) → T 7 #[true, true, true, true, true, false, true, true, true, false, true, true, true, false, true, true, true, false, false, false, false] (a0.put (some 7) (.slice (some ⟨gE, 0, none⟩) 2 2)) u := by
    intro gE u FB FE
    have hHeld := hS.out _ FB
    rw [hT, ha0]
    try simp only [qq1, qq2, qq3, Act.put, qq4, qq5, qq6]
    refine wpT_one (i := 5) (by kernel_rfl) rfl (fun K hK => ?_)
    go_simp
    refine (rints_any (some ⟨gE, 0, none⟩) [p.ix, p.v] 2 2 (Lib.hid rfl) (by omega) _ (Lib.hid FE.out.sl)).mono ?_
    rintro e wB ⟨cB, rfl, hit, hq⟩
    have FB2 := hBx.out _ _ FB hq
    refine hK.out _ _ ?_ (fun hHeld => ?_)
    · exact hS.out _ FB2
    clear hK K hHeld
    try simp only [qq1, qq2, qq3, Act.put, qq4, qq5, qq6]
    have hG := G4_5 gE cB wB FB2 (Lib.hid (FE.out.below hq)) (Lib.hid (hit.mono (by have := FB.out.size; omega)))
    rw [hT, ha0] at hG
    (try simp only [qq1, qq2, qq3, Act.put, qq4, qq5, qq6] at hG)
    exact hG
  have G0 : ∀  (u : World), (Hid (Below w0.heap.size w0 u)) → T 8 #[true, true, true, true, false, false, true, true, true, false, true, true, true, false, true, true, true, false, false, false, false] a0 u := by
    intro  u FB
    have hHeld := hS.out _ FB
    rw [hT, ha0]
    try simp only [qq1, qq2, qq3, Act.put, qq4, qq5, qq6]
    refine wpT_one (i := 4) (by kernel_rfl) rfl (fun K hK => ?_)
    go_simp
    have FB2 := hBx.out _ _ FB (below_box0 u (.cells #[.int .i64 (p.ix), .int .i64 (p.v)] 3))
    refine hK.out _ _ ?_ (fun hHeld => ?_)
    · exact hS.out _ FB2
    clear hK K hHeld
    try simp only [qq1, qq2, qq3, Act.put, qq4, qq5, qq6]
    have hG := G4 u.heap.size (u.alloc (.cells #[.int .i64 (p.ix), .int .i64 (p.v)] 3)) FB2 (Lib.hid (IB2.new u (p.ix) (p.v)))
    rw [hT, ha0] at hG
    (try simp only [qq1, qq2, qq3, Act.put, qq4, qq5, qq6] at hG)
    exact hG
  exact G0 _ HBD
set_option maxHeartbeats 51200000 in
theorem ritem_any (o : OrdR) (hs : OrdS o) (w : World) (ho : Hid (OrdOk w o)) :
    Calls Tryd.prog 36 #[orV o] w (ItOutS (oIt o) w) := by
  obtain ⟨w0, hW⟩ : ∃ W, ((w.alloc (orO o)).alloc (.cells #[.int .i64 0, .int .i64 0, .slice none 0 0, .slice none 0 0] 69)) = W := ⟨_, rfl⟩
  have HBw : Hid (Below w.heap.size w w0) := Lib.hid (by rw [← hW]; exact below_two (Below.refl _ _))
  have hc : w0.cell? ⟨w.heap.size, 0, none⟩ = some (.int .i64 o.num) ∧ w0.cell? ⟨w.heap.size, 1, none⟩ = some (.string o.rs) ∧ w0.cell? ⟨w.heap.size, 2, none⟩ = some (.int .i64 o.E1) ∧ w0.cell? ⟨w.heap.size, 3, none⟩ = some (.int .i64 o.E2) ∧ w0.cell? ⟨w.heap.size, 4, none⟩ = some (.slice o.A o.na o.ca) ∧ w0.cell? ⟨w.heap.size, 5, none⟩ = some (.int .i64 o.C) ∧ w0.cell? ⟨w.heap.size, 6, none⟩ = some (.slice o.Z o.nz o.cz) ∧ w0.cell? ⟨w.heap.size, 7, none⟩ = some (.slice o.L o.np o.cp) ∧ w0.cell? ⟨w.heap.size, 8, none⟩ = some (.int .i64 o.key) ∧ Own w0 ⟨w.heap.size + 1, 0, none⟩ (.int .i64 0) ∧ Own w0 ⟨w.heap.size + 1, 1, none⟩ (.int .i64 0) ∧ Own w0 ⟨w.heap.size + 1, 2, none⟩ (.slice none 0 0) ∧ Own w0 ⟨w.heap.size + 1, 3, none⟩ (.slice none 0 0) := by rw [← hW]; exact ⟨cell_below (allocs_cell (by simp) (by rfl)) (below_box0 _ _), cell_below (allocs_cell (by simp) (by rfl)) (below_box0 _ _), cell_below (allocs_cell (by simp) (by rfl)) (below_box0 _ _), cell_below (allocs_cell (by simp) (by rfl)) (below_box0 _ _), cell_below (allocs_cell (by simp) (by rfl)) (below_box0 _ _), cell_below (allocs_cell (by simp) (by rfl)) (below_box0 _ _), cell_below (allocs_cell (by simp) (by rfl)) (below_box0 _ _), cell_below (allocs_cell (by simp) (by rfl)) (below_box0 _ _), cell_below (allocs_cell (by simp) (by rfl)) (below_box0 _ _), allocs_own (by simp) (by rfl), allocs_own (by simp) (by rfl), allocs_own (by simp) (by rfl), allocs_own (by simp) (by rfl)⟩
  have kC := Lib.hid (show ∀ u : World, Hid (Below w0.heap.size w0 u) → u.cell? ⟨w.heap.size, 0, none⟩ = some (.int .i64 o.num) ∧ u.cell? ⟨w.heap.size, 1, none⟩ = some (.string o.rs) ∧ u.cell? ⟨w.heap.size, 2, none⟩ = some (.int .i64 o.E1) ∧ u.cell? ⟨w.heap.size, 3, none⟩ = some (.int .i64 o.E2) ∧ u.cell? ⟨w.heap.size, 4, none⟩ = some (.slice o.A o.na o.ca) ∧ u.cell? ⟨w.heap.size, 5, none⟩ = some (.int .i64 o.C) ∧ u.cell? ⟨w.heap.size, 6, none⟩ = some (.slice o.Z o.nz o.cz) ∧ u.cell? ⟨w.heap.size, 7, none⟩ = some (.slice o.L o.np o.cp) ∧ u.cell? ⟨w.heap.size, 8, none⟩ = some (.int .i64 o.key) ∧ Own u ⟨w.heap.size + 1, 0, none⟩ (.int .i64 0) ∧ Own u ⟨w.heap.size + 1, 1, none⟩ (.int .i64 0) ∧ Own u ⟨w.heap.size + 1, 2, none⟩ (.slice none 0 0) ∧ Own u ⟨w.heap.size + 1, 3, none⟩ (.slice none 0 0) from fun u h => ⟨cell_below hc.1 h.out, cell_below hc.2.1 h.out, cell_below hc.2.2.1 h.out, cell_below hc.2.2.2.1 h.out, cell_below hc.2.2.2.2.1 h.out, cell_below hc.2.2.2.2.2.1 h.out, cell_below hc.2.2.2.2.2.2.1 h.out, cell_below hc.2.2.2.2.2.2.2.1 h.out, cell_below hc.2.2.2.2.2.2.2.2.1 h.out, (hc.2.2.2.2.2.2.2.2.2.1).below h.out, (hc.2.2.2.2.2.2.2.2.2.2.1).below h.out, (hc.2.2.2.2.2.2.2.2.2.2.2.1).below h.out, (hc.2.2.2.2.2.2.2.2.2.2.2.2).below h.out⟩)
  have kO := Lib.hid (show ∀ u : World, Hid (Below w0.heap.size w0 u) → Hid (OrdOk u o) from fun u h => Lib.hid ((ho.out.below) (below_ext HBw.out h.out)))
  have HB_0 : Hid (Below w0.heap.size w0 w0) := Lib.hid (Below.refl _ _)
  have HW := Lib.hid hW
  have kRB := Lib.hid (show ∀ u : World, Hid (Below w0.heap.size w0 u) → Hid (u.heap[w.heap.size + 1]? = some (.cells #[.int .i64 0, .int .i64 0, .slice none 0 0, .slice none 0 0] 69)) from fun u h => Lib.hid (blk_below (by rw [← hW]; exact heap_alloc2_new _ _ _) h.out))
  clear hW hc ho
  go_enter Tryd.func36, Tryd.ntmps36
  go_wp2_with fail
  rw [HW.out]
  obtain ⟨zc0, zc1, zc2, zc3, zc4, zc5, zc6, zc7, zc8, ⟨zc9, zf9⟩, ⟨zc10, zf10⟩, ⟨zc11, zf11⟩, ⟨zc12, zf12⟩⟩ := kC.out _ HB_0
  have HSZ0 : Hid (w0.heap.size = w.heap.size + 2) := Lib.hid (by rw [← HW.out]; simp)
  go_wp2
  clear zc0 zc1 zc2 zc3 zc4 zc5 zc6 zc7 zc8 zc9 zf9 zc10 zf10 zc11 zf11 zc12 zf12
  obtain ⟨i0, hi, hz0, hz1, hz2⟩ := info_parts itemInfo
  obtain ⟨⟨okn, okc⟩, ok8⟩ : (o.ps.length = o.np ∧ o.np ≤ o.cp) ∧ o.ps.length ≤ 8 := ⟨((kO.out _ HB_0).out).2.2.1, hs.n⟩
  go_loopw [3, 4] (fun v i u => ∃ (k : Nat) (cs : List Ic), k ≤ o.np ∧ i = .int .i64 k ∧ Hid (cs.length = k) ∧ Hid (OwnI u w0.heap.size v cs) ∧ Hid (∀ j, j < k → ItG v.ownBlock w0.heap.size u (pIt (o.ps.getD j noPart)) (cs.getD j default)) ∧ Hid (Below w0.heap.size w0 u)) (fun _ i _ => o.np - (intOf i).toNat)
  case atStart => exact ⟨0, [], by omega, rfl, Lib.hid rfl, Lib.hid (ownI_nil _ _), Lib.hid (fun j h => absurd h (by omega)), HB_0⟩
  case round =>
    obtain ⟨k, cs, hk, rfl, HCL, HO, HG, HBr⟩ := hrel
    obtain ⟨v, rfl⟩ : ∃ v9, v9 = u3 := ⟨_, rfl⟩
    by_cases hlt : k < o.np
    · skip
      have hkl : k < o.ps.length := by rw [okn]; exact hlt
      obtain ⟨b, f, hA, j0, j1, j2, j3, j4, j5⟩ := (kO.out _ HBr).out.2.2.2.2.2 k hkl
      have HLA := Lib.hid hA
      have hps := hs.p _ (getP_mem hkl)
      obtain ⟨p, hp⟩ : ∃ p, o.ps.getD k noPart = p := ⟨_, rfl⟩
      have HPP := Lib.hid hp
      rw [hp] at j0 j1 j2 j3 j4 j5 hps
      obtain ⟨x1, x2, x3, x4⟩ := j5
      have HNA := Lib.hid x1
      have HNZ := Lib.hid x2
      have HSA := Lib.hid x3
      have HSZ := Lib.hid x4
      obtain ⟨hps1, hps2⟩ := hps
      have bna : p.na ≤ 20 := by rw [← x1]; exact hps1
      have bnz : p.nz ≤ 20 := by rw [← x2]; exact hps2
      clear hp hA hkl x1 x2 x3 x4 hps1 hps2
      obtain ⟨LA, hLA⟩ : ∃ x, o.L = x := ⟨_, rfl⟩
      rw [hLA] at HLA
      have HLB := Lib.hid hLA
      have hLB2 := HLA.out
      subst hLB2
      clear hLA
      obtain ⟨zc0, zc1, zc2, zc3, zc4, zc5, zc6, zc7, zc8, ⟨zc9, zf9⟩, ⟨zc10, zf10⟩, ⟨zc11, zf11⟩, ⟨zc12, zf12⟩⟩ := kC.out _ HBr
      rw [HLB.out] at zc7
      have HB_wr_0 : Hid (Below wr.heap.size wr wr) := Lib.hid (Below.refl _ _)
      go_wp2_with fail
      refine (rpart_any p HNA HNZ (by omega) (by omega) _ (Lib.hid HSA.out) (Lib.hid HSZ.out)).mono ?_
      rintro e w1 ⟨cP, rfl, hit, hb0⟩
      have HIT := Lib.hid hit
      clear hit
      rw [show cP.val = .agg #[.int .i64 cP.kind, .int .i64 cP.n, .slice cP.B cP.nb cP.cb, .slice cP.L cP.nl cP.cl] from rfl]
      have HB_1 := Lib.hid (below_ext HBr.out hb0)
      have HB_wr_1 := Lib.hid (below_ext HB_wr_0.out hb0)
      clear zc0 zc1 zc2 zc3 zc4 zc5 zc6 zc7 zc8 zc9 zf9 zc10 zf10 zc11 zf11 zc12 zf12
      clear hb0
      clear j0 j1 j2 j3 j4
      have hown : w1.ownsRow w0.heap.size 69 4 v k (cs.flatMap itemCells) := by
        have h := HO.out.keep HB_wr_1.out
        unfold OwnI at h
        rwa [HCL.out] at h
      have hbz := HB_1.out.size
      have b1 : k + 1 ≤ maxLen := by unfold maxLen; omega
      have b2 : (k + 1) * 64 ≤ 140737488355328 := by omega
      have b3 : w0.heap.size ≤ (w1.alloc (.cells #[.int .i64 cP.kind, .int .i64 cP.n, .slice cP.B cP.nb cP.cb, .slice cP.L cP.nl cP.cl] 69)).heap.size := by simp; omega
      go_wp2_with (at_builtin; refine wpList_append_lies rfl _ _ 67 rfl w0.heap.size 69 i0 (.agg #[.int .i64 0, .int .i64 0, .slice none 0 0, .slice none 0 0]) 4 64 Tryd.underlying67 hi hz0 hz1 hz2 rfl (by decide) v _ _ rfl (hown.alloc _) ⟨w1.heap.size, 0, none⟩ 1 1 [.int .i64 cP.kind, .int .i64 cP.n, .slice cP.B cP.nb cP.cb, .slice cP.L cP.nl cP.cl] rfl rfl (World.news_of_block (cs := #[.int .i64 cP.kind, .int .i64 cP.n, .slice cP.B cP.nb cP.cb, .slice cP.L cP.nl cP.cl]) (t := 69) (fr := (0, 0)) (heap_alloc_new w1 _)) (by simp [Value.oneCell']) (by decide) b1 b2 b3 _ rfl ?_; intro gg cap wz hown1 hgrow hgg hlt2)
      have hgz : (w1.alloc (.cells #[.int .i64 cP.kind, .int .i64 cP.n, .slice cP.B cP.nb cP.cb, .slice cP.L cP.nl cP.cl] 69)).heap.size ≤ wz.heap.size := hgrow.size
      have hwr9 := HB_wr_1.out.size
      have hsq : (w1.alloc (.cells #[.int .i64 cP.kind, .int .i64 cP.n, .slice cP.B cP.nb cP.cb, .slice cP.L cP.nl cP.cl] 69)).heap.size = w1.heap.size + 1 := by simp
      have HO4 : Hid (OwnI wz w0.heap.size (.slice (some ⟨gg, 0, none⟩) (k + 1) cap) (cs ++ [cP])) := Lib.hid (OwnI.app HCL.out.symm (by simpa [itemCells] using hown1))
      have hgg2 : ∀ b, ((.slice (some ⟨gg, 0, none⟩) (k + 1) cap) : Value).ownBlock = some b → v.ownBlock = some b ∨ (w1.alloc (.cells #[.int .i64 cP.kind, .int .i64 cP.n, .slice cP.B cP.nb cP.cb, .slice cP.L cP.nl cP.cl] 69)).heap.size ≤ b := fun b e => by
        cases e
        rcases hgg with e | e
        · exact Or.inl e
        · exact Or.inr (show (w1.alloc (.cells #[.int .i64 cP.kind, .int .i64 cP.n, .slice cP.B cP.nb cP.cb, .slice cP.L cP.nl cP.cl] 69)).heap.size ≤ gg by omega)
      have hown_lt : ∀ b, v.ownBlock = some b → b < wr.heap.size := fun b e => (World.ownsRow.lt HO.out b e).2
      have HG4 : Hid (∀ j, j < k + 1 → ItG ((.slice (some ⟨gg, 0, none⟩) (k + 1) cap) : Value).ownBlock w0.heap.size wz (pIt (o.ps.getD j noPart)) ((cs ++ [cP]).getD j default)) := Lib.hid (fun j hj => by
        by_cases e : j = k
        · subst e
          rw [HPP.out, show (cs ++ [cP]).getD j default = cP by rw [List.getD_eq_getElem?_getD, List.getElem?_append_right (by rw [HCL.out]; exact Nat.le_refl _), HCL.out, Nat.sub_self]; rfl]
          exact (((HIT.out.kept (below_box0 _ (.cells #[.int .i64 cP.kind, .int .i64 cP.n, .slice cP.B cP.nb cP.cb, .slice cP.L cP.nl cP.cl] 69))).g (lo := w0.heap.size) (by have := HBr.out.size; omega) (fun b e => hown_lt b e)).grown hgrow hgz hgg2)
        · rw [show (cs ++ [cP]).getD j default = cs.getD j default by rw [List.getD_eq_getElem?_getD, List.getElem?_append_left (by rw [HCL.out]; omega), ← List.getD_eq_getElem?_getD]]
          exact (((HG.out j (by omega)).kept (below_ext HB_wr_1.out (below_box0 _ (.cells #[.int .i64 cP.kind, .int .i64 cP.n, .slice cP.B cP.nb cP.cb, .slice cP.L cP.nl cP.cl] 69)))).grown hgrow hgz hgg2))
      have HB4 : Hid (Below w0.heap.size w0 wz) := Lib.hid ((HB_1.out.alloc (by omega) (.cells #[.int .i64 cP.kind, .int .i64 cP.n, .slice cP.B cP.nb cP.cb, .slice cP.L cP.nl cP.cl] 69)).grown hgrow (by simp; omega) (fun j hj => by have := (World.ownsRow.lt HO.out j hj).1; omega))
      have HCL4 : Hid ((cs ++ [cP]).length = k + 1) := Lib.hid (by rw [List.length_append, HCL.out]; rfl)
      clear hown hown1 hgrow hgg hlt2 hgg2 hown_lt b1 b2 b3
      go_roundw
      case rel => exact ⟨k + 1, _, by omega, by go_num, HCL4, HO4, HG4, HB4⟩
      case measure => simp [intOf]; omega
    · skip
      have hke : k = o.np := by omega
      obtain ⟨L5, cl5, hv5, hit5⟩ := its_own (l := o.ps.map pIt) (lo := w0.heap.size) HO.out HCL.out (by rw [List.length_map, okn, hke]) (Nat.le_refl _) (fun j hj => by
        rw [show (o.ps.map pIt).getD j default = pIt (o.ps.getD j noPart) by rw [List.getD_eq_getElem?_getD, List.getElem?_map, List.getD_eq_getElem?_getD, List.getElem?_eq_getElem (show j < o.ps.length by omega)]; rfl]
        exact (HG.out j hj).s)
      subst hv5
      have HIT5 := Lib.hid hit5
      have HKE := Lib.hid hke
      clear hit5 HO HG hke
      have HB_wr_0 : Hid (Below wr.heap.size wr wr) := Lib.hid (Below.refl _ _)
      have kA := Lib.hid (show ∀ u : World, Hid (Below wr.heap.size wr u) → Hid (Sl u o.A o.al) from fun u h => Lib.hid ((kO.out _ HBr).out.2.2.2.1.below h.out))
      have kZ := Lib.hid (show ∀ u : World, Hid (Below wr.heap.size wr u) → Hid (Sl u o.Z o.zs) from fun u h => Lib.hid ((kO.out _ HBr).out.2.2.2.2.1.below h.out))
      obtain ⟨q1, q2⟩ : Hid (o.al.length = o.na) ∧ Hid (o.zs.length = o.nz) := ⟨Lib.hid (kO.out _ HBr).out.1, Lib.hid (kO.out _ HBr).out.2.1⟩
      have bna : o.na ≤ 20 := by rw [← q1.out]; exact hs.a
      have bnz : o.nz ≤ 20 := by rw [← q2.out]; exact hs.z
      obtain ⟨zc0, zc1, zc2, zc3, zc4, zc5, zc6, zc7, zc8, ⟨zc9, zf9⟩, ⟨zc10, zf10⟩, ⟨zc11, zf11⟩, ⟨zc12, zf12⟩⟩ := kC.out _ HBr
      go_upto_region 6 with (fail)
      clear zc0 zc1 zc2 zc3 zc4 zc5 zc6 zc7 zc8 zc9 zf9 zc10 zf10 zc11 zf11 zc12 zf12
      have hBx := Lib.hid (show ∀ u u2 : World, Hid (Below w0.heap.size w0 u ∧ Below wr.heap.size wr u) → Below u.heap.size u u2 → Hid (Below w0.heap.size w0 u2 ∧ Below wr.heap.size wr u2) from fun u u2 h1 h2 => Lib.hid ⟨(below_ext h1.out.1 h2), (below_ext h1.out.2 h2)⟩)
      have hS := Lib.hid (show ∀ u : World, Hid (Below w0.heap.size w0 u ∧ Below wr.heap.size wr u) → (u.cell? ⟨w.heap.size, 0, none⟩ = some (.int .i64 o.num) ∧ u.cell? ⟨w.heap.size, 1, none⟩ = some (.string o.rs) ∧ u.cell? ⟨w.heap.size, 2, none⟩ = some (.int .i64 o.E1) ∧ u.cell? ⟨w.heap.size, 3, none⟩ = some (.int .i64 o.E2) ∧ u.cell? ⟨w.heap.size, 4, none⟩ = some (.slice o.A o.na o.ca) ∧ u.cell? ⟨w.heap.size, 5, none⟩ = some (.int .i64 o.C) ∧ u.cell? ⟨w.heap.size, 6, none⟩ = some (.slice o.Z o.nz o.cz) ∧ u.cell? ⟨w.heap.size, 7, none⟩ = some (.slice o.L o.np o.cp) ∧ u.cell? ⟨w.heap.size, 8, none⟩ = some (.int .i64 o.key) ∧ Own u ⟨w.heap.size + 1, 0, none⟩ (.int .i64 0) ∧ Own u ⟨w.heap.size + 1, 1, none⟩ (.int .i64 0) ∧ Own u ⟨w.heap.size + 1, 2, none⟩ (.slice none 0 0) ∧ Own u ⟨w.heap.size + 1, 3, none⟩ (.slice none 0 0)) from fun u h1 => by
        obtain ⟨y0, y1, y2, y3, y4, y5, y6, y7, y8, y9, y10, y11, y12⟩ := kC.out _ (Lib.hid h1.out.1)
        exact ⟨y0, y1, y2, y3, y4, y5, y6, y7, y8, y9, y10, y11, y12⟩)
      have HBA : Hid (Below w0.heap.size w0 wr ∧ Below wr.heap.size wr wr) := Lib.hid ⟨HBr.out, HB_wr_0.out⟩
      have HBD := hBx.out _ _ HBA (Below.refl _ _).drew
      refine wp_region_T (S := fun w' => w'.cell? ⟨w.heap.size, 0, none⟩ = some (.int .i64 o.num) ∧ w'.cell? ⟨w.heap.size, 1, none⟩ = some (.string o.rs) ∧ w'.cell? ⟨w.heap.size, 2, none⟩ = some (.int .i64 o.E1) ∧ w'.cell? ⟨w.heap.size, 3, none⟩ = some (.int .i64 o.E2) ∧ w'.cell? ⟨w.heap.size, 4, none⟩ = some (.slice o.A o.na o.ca) ∧ w'.cell? ⟨w.heap.size, 5, none⟩ = some (.int .i64 o.C) ∧ w'.cell? ⟨w.heap.size, 6, none⟩ = some (.slice o.Z o.nz o.cz) ∧ w'.cell? ⟨w.heap.size, 7, none⟩ = some (.slice o.L o.np o.cp) ∧ w'.cell? ⟨w.heap.size, 8, none⟩ = some (.int .i64 o.key) ∧ Own w' ⟨w.heap.size + 1, 0, none⟩ (.int .i64 0) ∧ Own w' ⟨w.heap.size + 1, 1, none⟩ (.int .i64 0) ∧ Own w' ⟨w.heap.size + 1, 2, none⟩ (.slice none 0 0) ∧ Own w' ⟨w.heap.size + 1, 3, none⟩ (.slice none 0 0)) (E := [16]) (by kernel_rfl) (hS.out _ HBD) (fun hHeld => ?_)
      obtain ⟨wD, hwD⟩ : ∃ u, wr.drew = u := ⟨_, rfl⟩
      rw [hwD] at HBD hHeld ⊢
      have HSZD : Hid (wr.heap.size ≤ wD.heap.size) := Lib.hid (by rw [← hwD]; exact Nat.le_refl _)
      clear hwD
      refine tkV 0 ?_
      try simp only [qq1, qq2, qq3, Act.put, qq4, qq5, qq6]
      refine tkV 1 ?_
      try simp only [qq1, qq2, qq3, Act.put, qq4, qq5, qq6]
      refine tkV 3 ?_
      try simp only [qq1, qq2, qq3, Act.put, qq4, qq5, qq6]
      refine tkV 4 ?_
      try simp only [qq1, qq2, qq3, Act.put, qq4, qq5, qq6]
      refine tkV 6 ?_
      try simp only [qq1, qq2, qq3, Act.put, qq4, qq5, qq6]
      refine tkV 7 ?_
      try simp only [qq1, qq2, qq3, Act.put, qq4, qq5, qq6]
      refine tkV 9 ?_
      try simp only [qq1, qq2, qq3, Act.put, qq4, qq5, qq6]
      refine tkV 11 ?_
      try simp only [qq1, qq2, qq3, Act.put, qq4, qq5, qq6]
      refine tkV 12 ?_
      try simp only [qq1, qq2, qq3, Act.put, qq4, qq5, qq6]
      refine wpT_frame (fun T a0 hT ha0 => ?_)
      clear hHeld
      have G2_5_8_10_13_14_15 : ∀ (cR : Ic) (cE : Ic) (gL : Nat) (u : World), (Hid (Below w0.heap.size w0 u ∧ Below wr.heap.size wr u)) → (Hid (ItS w0.heap.size u (.byt (bys o.rs)) cR)) → (Hid (ItS w0.heap.size u (eIt o.E1 o.E2 o.al o.C o.zs) cE)) → (Hid (u.heap[gL]? = some (.cells #[.int .i64 1, .int .i64 o.num, .slice none 0 0, .slice none 0 0, .int .i64 cR.kind, .int .i64 cR.n, .slice cR.B cR.nb cR.cb, .slice cR.L cR.nl cR.cl, .int .i64 cE.kind, .int .i64 cE.n, .slice cE.B cE.nb cE.cb, .slice cE.L cE.nl cE.cl, .int .i64 3, .int .i64 0, .slice none 0 0, .slice L5 k cl5, .int .i64 1, .int .i64 o.key, .slice none 0 0, .slice none 0 0] 69))) → (Hid (w0.heap.size ≤ gL)) → T 1 #[true, true, true, true, true, true, true, true, true, true, true, true, true, true, true, true, false] (((((((a0.put (some 23) (.agg #[.int .i64 1, .int .i64 (o.num), .slice none 0 0, .slice none 0 0])).put (some 26) (.agg #[.int .i64 cR.kind, .int .i64 cR.n, .slice cR.B cR.nb cR.cb, .slice cR.L cR.nl cR.cl])).put (some 29) (.agg #[.int .i64 cE.kind, .int .i64 cE.n, .slice cE.B cE.nb cE.cb, .slice cE.L cE.nl cE.cl])).put (some 31) (.agg #[.int .i64 3, .int .i64 (0), .slice none 0 0, .slice L5 k cl5])).put (some 34) (.agg #[.int .i64 1, .int .i64 (o.key), .slice none 0 0, .slice none 0 0])).put (some 35) (.slice (some ⟨gL, 0, none⟩) 5 5)).put (some 36) (.agg #[.int .i64 3, .int .i64 (0), .slice none 0 0, .slice (some ⟨gL, 0, none⟩) 5 5])) u := by
        intro cR cE gL u FB HR HE FL FLl
        have hHeld := hS.out _ FB
        rw [hT, ha0]
        try simp only [qq1, qq2, qq3, Act.put, qq4, qq5, qq6]
        have HE_w0 := Lib.hid FB.out.1
        have HE_wr := Lib.hid FB.out.2
        have FNIL := kRB.out _ (Lib.hid FB.out.1)
        refine wpT_pass (i := 16) (by kernel_rfl) (by simp) rfl (fun K hK => ?_)
        rw [show (if Region.wanted _ _ = true then _ else _ : Prop) = _ from if_pos rfl]
        refine wp_store_row 69 _ _ rfl (w.heap.size + 1) (Ic.cs (Ic.mk 3 0 none 0 0 (some ⟨gL, 0, none⟩) 5 5)) rfl rfl 69 _ FNIL.out (ic_info _) rfl (ic_one _) ?_
        refine hK.out _ _ ?_
        clear hK K
        try simp only [qq1, qq2, qq3, Act.put, qq4, qq5, qq6]
        refine wpT_done (by kernel_rfl) ?_ _
        have hit : ItS w0.heap.size u (oIt o) (Ic.mk 3 0 none 0 0 (some ⟨gL, 0, none⟩) 5 5) := its_blk (fun k9 => match k9 with | 0 => icInt o.num | 1 => cR | 2 => cE | 3 => ⟨3, 0, none, 0, 0, L5, k, cl5⟩ | _ => icInt o.key) FL.out FLl.out rfl (fun k9 hk => by
            rcases (show k9 = 0 ∨ k9 = 1 ∨ k9 = 2 ∨ k9 = 3 ∨ k9 = 4 by omega) with rfl | rfl | rfl | rfl | rfl <;> exact ⟨rfl, rfl, rfl, rfl⟩) (fun k9 hk => by
            rcases (show k9 = 0 ∨ k9 = 1 ∨ k9 = 2 ∨ k9 = 3 ∨ k9 = 4 by omega) with rfl | rfl | rfl | rfl | rfl
            · exact its_int _ _ _
            · exact HR.out
            · exact HE.out
            · exact HIT5.out.kept FB.out.2
            · exact its_int _ _ _)
        have hit2 := (hit.setRow (g := w.heap.size + 1) (by have := HSZ0.out; omega) (Ic.cs (Ic.mk 3 0 none 0 0 (some ⟨gL, 0, none⟩) 5 5))).mono (lo' := w.heap.size) (by have := HSZ0.out; omega)
        have hbF := below_setRow' (below_ext HBw.out FB.out.1) (cs := Ic.cs (Ic.mk 3 0 none 0 0 (some ⟨gL, 0, none⟩) 5 5)) (Nat.le_add_right w.heap.size 1)
        have hrw := setRow_heap _ _ _ (Ic.cs (Ic.mk 3 0 none 0 0 (some ⟨gL, 0, none⟩) 5 5)) _ _ FNIL.out
        go_wp2
        exact bodyPost_ret (v := (Ic.mk 3 0 none 0 0 (some ⟨gL, 0, none⟩) 5 5).val) (results_cell1 (p := 2) (ty := 69) rfl _ _ ⟨w.heap.size + 1, 0, none⟩ _ rfl (run_loadVar_row _ _ _ _ _ _ _ hrw Tryd.underlying69 rfl (ic_info _))) rfl ⟨_, rfl, hit2, hbF⟩
      have G2_5_8_10_13_14 : ∀ (cR : Ic) (cE : Ic) (gL : Nat) (u : World), (Hid (Below w0.heap.size w0 u ∧ Below wr.heap.size wr u)) → (Hid (ItS w0.heap.size u (.byt (bys o.rs)) cR)) → (Hid (ItS w0.heap.size u (eIt o.E1 o.E2 o.al o.C o.zs) cE)) → (Hid (u.heap[gL]? = some (.cells #[.int .i64 1, .int .i64 o.num, .slice none 0 0, .slice none 0 0, .int .i64 cR.kind, .int .i64 cR.n, .slice cR.B cR.nb cR.cb, .slice cR.L cR.nl cR.cl, .int .i64 cE.kind, .int .i64 cE.n, .slice cE.B cE.nb cE.cb, .slice cE.L cE.nl cE.cl, .int .i64 3, .int .i64 0, .slice none 0 0, .slice L5 k cl5, .int .i64 1, .int .i64 o.key, .slice none 0 0, .slice none 0 0] 69))) → (Hid (w0.heap.size ≤ gL)) → T 2 #[true, true, true, true, true, true, true, true, true, true, true, true, true, true, true, false, false] ((((((a0.put (some 23) (.agg #[.int .i64 1, .int .i64 (o.num), .slice none 0 0, .slice none 0 0])).put (some 26) (.agg #[.int .i64 cR.kind, .int .i64 cR.n, .slice cR.B cR.nb cR.cb, .slice cR.L cR.nl cR.cl])).put (some 29) (.agg #[.int .i64 cE.kind, .int .i64 cE.n, .slice cE.B cE.nb cE.cb, .slice cE.L cE.nl cE.cl])).put (some 31) (.agg #[.int .i64 3, .int .i64 (0), .slice none 0 0, .slice L5 k cl5])).put (some 34) (.agg #[.int .i64 1, .int .i64 (o.key), .slice none 0 0, .slice none 0 0])).put (some 35) (.slice (some ⟨gL, 0, none⟩) 5 5)) u := by
        intro cR cE gL u FB HR HE FL FLl
        have hHeld := hS.out _ FB
        rw [hT, ha0]
        try simp only [qq1, qq2, qq3, Act.put, qq4, qq5, qq6]
        refine wpT_one (i := 15) (by kernel_rfl) rfl (fun K hK => ?_)
        go_simp
        refine (rlist_it (some ⟨gL, 0, none⟩) 5 5 _).mono ?_
        rintro e wB ⟨rfl, hq⟩
        have FB2 := hBx.out _ _ FB hq
        refine hK.out _ _ ?_ (fun hHeld => ?_)
        · exact hS.out _ FB2
        clear hK K hHeld
        try simp only [qq1, qq2, qq3, Act.put, qq4, qq5, qq6]
        have hG := G2_5_8_10_13_14_15 cR cE gL wB FB2 (Lib.hid (HR.out.kept hq)) (Lib.hid (HE.out.kept hq)) (Lib.hid (blk_below FL.out hq)) (FLl)
        rw [hT, ha0] at hG
        (try simp only [qq1, qq2, qq3, Act.put, qq4, qq5, qq6] at hG)
        exact hG
      have G2_5_8_10_13 : ∀ (cR : Ic) (cE : Ic) (u : World), (Hid (Below w0.heap.size w0 u ∧ Below wr.heap.size wr u)) → (Hid (ItS w0.heap.size u (.byt (bys o.rs)) cR)) → (Hid (ItS w0.heap.size u (eIt o.E1 o.E2 o.al o.C o.zs) cE)) → T 3 #[true, true, true, true, true, true, true, true, true, true, true, true, true, true, false, false, false] (((((a0.put (some 23) (.agg #[.int .i64 1, .int .i64 (o.num), .slice none 0 0, .slice none 0 0])).put (some 26) (.agg #[.int .i64 cR.kind, .int .i64 cR.n, .slice cR.B cR.nb cR.cb, .slice cR.L cR.nl cR.cl])).put (some 29) (.agg #[.int .i64 cE.kind, .int .i64 cE.n, .slice cE.B cE.nb cE.cb, .slice cE.L cE.nl cE.cl])).put (some 31) (.agg #[.int .i64 3, .int .i64 (0), .slice none 0 0, .slice L5 k cl5])).put (some 34) (.agg #[.int .i64 1, .int .i64 (o.key), .slice none 0 0, .slice none 0 0])) u := by
        intro cR cE u FB HR HE
        have hHeld := hS.out _ FB
        rw [hT, ha0]
        try simp only [qq1, qq2, qq3, Act.put, qq4, qq5, qq6]
        refine wpT_one (i := 14) (by kernel_rfl) rfl (fun K hK => ?_)
        go_simp
        have FB2 := hBx.out _ _ FB (below_box0 u (.cells #[.int .i64 1, .int .i64 o.num, .slice none 0 0, .slice none 0 0, .int .i64 cR.kind, .int .i64 cR.n, .slice cR.B cR.nb cR.cb, .slice cR.L cR.nl cR.cl, .int .i64 cE.kind, .int .i64 cE.n, .slice cE.B cE.nb cE.cb, .slice cE.L cE.nl cE.cl, .int .i64 3, .int .i64 0, .slice none 0 0, .slice L5 k cl5, .int .i64 1, .int .i64 o.key, .slice none 0 0, .slice none 0 0] 69))
        refine hK.out _ _ ?_ (fun hHeld => ?_)
        · exact hS.out _ FB2
        clear hK K hHeld
        try simp only [qq1, qq2, qq3, Act.put, qq4, qq5, qq6]
        have hG := G2_5_8_10_13_14 cR cE u.heap.size (u.alloc (.cells #[.int .i64 1, .int .i64 o.num, .slice none 0 0, .slice none 0 0, .int .i64 cR.kind, .int .i64 cR.n, .slice cR.B cR.nb cR.cb, .slice cR.L cR.nl cR.cl, .int .i64 cE.kind, .int .i64 cE.n, .slice cE.B cE.nb cE.cb, .slice cE.L cE.nl cE.cl, .int .i64 3, .int .i64 0, .slice none 0 0, .slice L5 k cl5, .int .i64 1, .int .i64 o.key, .slice none 0 0, .slice none 0 0] 69)) FB2 (Lib.hid (HR.out.kept (below_box0 u (.cells #[.int .i64 1, .int .i64 o.num, .slice none 0 0, .slice none 0 0, .int .i64 cR.kind, .int .i64 cR.n, .slice cR.B cR.nb cR.cb, .slice cR.L cR.nl cR.cl, .int .i64 cE.kind, .int .i64 cE.n, .slice cE.B cE.nb cE.cb, .slice cE.L cE.nl cE.cl, .int .i64 3, .int .i64 0, .slice none 0 0, .slice L5 k cl5, .int .i64 1, .int .i64 o.key, .slice none 0 0, .slice none 0 0] 69)))) (Lib.hid (HE.out.kept (below_box0 u (.cells #[.int .i64 1, .int .i64 o.num, .slice none 0 0, .slice none 0 0, .int .i64 cR.kind, .int .i64 cR.n, .slice cR.B cR.nb cR.cb, .slice cR.L cR.nl cR.cl, .int .i64 cE.kind, .int .i64 cE.n, .slice cE.B cE.nb cE.cb, .slice cE.L cE.nl cE.cl, .int .i64 3, .int .i64 0, .slice none 0 0, .slice L5 k cl5, .int .i64 1, .int .i64 o.key, .slice none 0 0, .slice none 0 0] 69)))) (Lib.hid (heap_alloc_new u _)) (Lib.hid (by have := FB.out.1.size; omega))
        rw [hT, ha0] at hG
        (try simp only [qq1, qq2, qq3, Act.put, qq4, qq5, qq6] at hG)
        exact hG
      have G2_5_8_10 : ∀ (cR : Ic) (cE : Ic) (u : World), (Hid (Below w0.heap.size w0 u ∧ Below wr.heap.size wr u)) → (Hid (ItS w0.heap.size u (.byt (bys o.rs)) cR)) → (Hid (ItS w0.heap.size u (eIt o.E1 o.E2 o.al o.C o.zs) cE)) → T 4 #[true, true, true, true, true, true, true, true, true, true, true, true, true, false, false, false, false] ((((a0.put (some 23) (.agg #[.int .i64 1, .int .i64 (o.num), .slice none 0 0, .slice none 0 0])).put (some 26) (.agg #[.int .i64 cR.kind, .int .i64 cR.n, .slice cR.B cR.nb cR.cb, .slice cR.L cR.nl cR.cl])).put (some 29) (.agg #[.int .i64 cE.kind, .int .i64 cE.n, .slice cE.B cE.nb cE.cb, .slice cE.L cE.nl cE.cl])).put (some 31) (.agg #[.int .i64 3, .int .i64 (0), .slice none 0 0, .slice L5 k cl5])) u := by
        intro cR cE u FB HR HE
        have hHeld := hS.out _ FB
        rw [hT, ha0]
        try simp only [qq1, qq2, qq3, Act.put, qq4, qq5, qq6]
        refine wpT_one (i := 13) (by kernel_rfl) rfl (fun K hK => ?_)
        go_simp
        refine (rinteger_it o.key _).mono ?_
        rintro e wB ⟨rfl, hq⟩
        have FB2 := hBx.out _ _ FB hq
        refine hK.out _ _ ?_ (fun hHeld => ?_)
        · exact hS.out _ FB2
        clear hK K hHeld
        try simp only [qq1, qq2, qq3, Act.put, qq4, qq5, qq6]
        have hG := G2_5_8_10_13 cR cE wB FB2 (Lib.hid (HR.out.kept hq)) (Lib.hid (HE.out.kept hq))
        rw [hT, ha0] at hG
        (try simp only [qq1, qq2, qq3, Act.put, qq4, qq5, qq6] at hG)
        exact hG
      have G2_5_8 : ∀ (cR : Ic) (cE : Ic) (u : World), (Hid (Below w0.heap.size w0 u ∧ Below wr.heap.size wr u)) → (Hid (ItS w0.heap.size u (.byt (bys o.rs)) cR)) → (Hid (ItS w0.heap.size u (eIt o.E1 o.E2 o.al o.C o.zs) cE)) → T 5 #[true, true, true, true, true, true, true, true, true, true, false, true, true, false, false, false, false] (((a0.put (some 23) (.agg #[.int .i64 1, .int .i64 (o.num), .slice none 0 0, .slice none 0 0])).put (some 26) (.agg #[.int .i64 cR.kind, .int .i64 cR.n, .slice cR.B cR.nb cR.cb, .slice cR.L cR.nl cR.cl])).put (some 29) (.agg #[.int .i64 cE.kind, .int .i64 cE.n, .slice cE.B cE.nb cE.cb, .slice cE.L cE.nl cE.cl])) u := by
        intro cR cE u FB HR HE
        have hHeld := hS.out _ FB
        rw [hT, ha0]
        try simp only [qq1, qq2, qq3, Act.put, qq4, qq5, qq6]
        refine wpT_one (i := 10) (by kernel_rfl) rfl (fun K hK => ?_)
        go_simp
        refine (rlist_it L5 k cl5 _).mono ?_
        rintro e wB ⟨rfl, hq⟩
        have FB2 := hBx.out _ _ FB hq
        refine hK.out _ _ ?_ (fun hHeld => ?_)
        · exact hS.out _ FB2
        clear hK K hHeld
        try simp only [qq1, qq2, qq3, Act.put, qq4, qq5, qq6]
        have hG := G2_5_8_10 cR cE wB FB2 (Lib.hid (HR.out.kept hq)) (Lib.hid (HE.out.kept hq))
        rw [hT, ha0] at hG
        (try simp only [qq1, qq2, qq3, Act.put, qq4, qq5, qq6] at hG)
        exact hG
      have G2_5 : ∀ (cR : Ic) (u : World), (Hid (Below w0.heap.size w0 u ∧ Below wr.heap.size wr u)) → (Hid (ItS w0.heap.size u (.byt (bys o.rs)) cR)) → T 6 #[true, true, true, true, true, true, true, true, false, true, false, true, true, false, false, false, false] ((a0.put (some 23) (.agg #[.int .i64 1, .int .i64 (o.num), .slice none 0 0, .slice none 0 0])).put (some 26) (.agg #[.int .i64 cR.kind, .int .i64 cR.n, .slice cR.B cR.nb cR.cb, .slice cR.L cR.nl cR.cl])) u := by
        intro cR u FB HR
        have hHeld := hS.out _ FB
        rw [hT, ha0]
        try simp only [qq1, qq2, qq3, Act.put, qq4, qq5, qq6]
        refine wpT_one (i := 8) (by kernel_rfl) rfl (fun K hK => ?_)
        go_simp
        refine (reitem_any o.E1 o.E2 o.A o.na o.ca o.al o.C o.Z o.nz o.cz o.zs q1 q2 (by omega) (by omega) _ (kA.out _ (Lib.hid FB.out.2)) (kZ.out _ (Lib.hid FB.out.2))).mono ?_
        rintro e wB ⟨cB, rfl, hit, hq⟩
        have FB2 := hBx.out _ _ FB hq
        refine hK.out _ _ ?_ (fun hHeld => ?_)
        · exact hS.out _ FB2
        clear hK K hHeld
        try simp only [qq1, qq2, qq3, Act.put, qq4, qq5, qq6]
        have hG := G2_5_8 cR cB wB FB2 (Lib.hid (HR.out.kept hq)) (Lib.hid (hit.mono (by have := FB.out.1.size; omega)))
        rw [hT, ha0] at hG
        (try simp only [qq1, qq2, qq3, Act.put, qq4, qq5, qq6] at hG)
        exact hG
      have G2 : ∀  (u : World), (Hid (Below w0.heap.size w0 u ∧ Below wr.heap.size wr u)) → T 7 #[true, true, true, true, true, false, true, true, false, true, false, true, true, false, false, false, false] (a0.put (some 23) (.agg #[.int .i64 1, .int .i64 (o.num), .slice none 0 0, .slice none 0 0])) u := by
        intro  u FB
        have hHeld := hS.out _ FB
        rw [hT, ha0]
        try simp only [qq1, qq2, qq3, Act.put, qq4, qq5, qq6]
        refine wpT_one (i := 5) (by kernel_rfl) rfl (fun K hK => ?_)
        go_simp
        refine (rtext_it o.rs hs.r0 (by have := hs.r1; omega) _).mono ?_
        rintro e wB ⟨cB, rfl, hit, hq⟩
        have FB2 := hBx.out _ _ FB hq
        refine hK.out _ _ ?_ (fun hHeld => ?_)
        · exact hS.out _ FB2
        clear hK K hHeld
        try simp only [qq1, qq2, qq3, Act.put, qq4, qq5, qq6]
        have hG := G2_5 cB wB FB2 (Lib.hid (hit.mono (by have := FB.out.1.size; omega)))
        rw [hT, ha0] at hG
        (try simp only [qq1, qq2, qq3, Act.put, qq4, qq5, qq6] at hG)
        exact hG
      have G0 : ∀  (u : World), (Hid (Below w0.heap.size w0 u ∧ Below wr.heap.size wr u)) → T 8 #[true, true, false, true, true, false, true, true, false, true, false, true, true, false, false, false, false] a0 u := by
        intro  u FB
        have hHeld := hS.out _ FB
        rw [hT, ha0]
        try simp only [qq1, qq2, qq3, Act.put, qq4, qq5, qq6]
        refine wpT_one (i := 2) (by kernel_rfl) rfl (fun K hK => ?_)
        go_simp
        refine (rinteger_it o.num _).mono ?_
        rintro e wB ⟨rfl, hq⟩
        have FB2 := hBx.out _ _ FB hq
        refine hK.out _ _ ?_ (fun hHeld => ?_)
        · exact hS.out _ FB2
        clear hK K hHeld
        try simp only [qq1, qq2, qq3, Act.put, qq4, qq5, qq6]
        have hG := G2  wB FB2
        rw [hT, ha0] at hG
        (try simp only [qq1, qq2, qq3, Act.put, qq4, qq5, qq6] at hG)
        exact hG
      exact G0 _ HBD
set_option maxHeartbeats 12800000 in
theorem rlink_any (h : List Int) (hl : Hid (h.length = 32)) (hb : Hid (bytesB h = true)) (o : OrdR) (hi : Hid (OrdI o)) (hs : OrdS o) (w : World) (hv : Hid (VarsD w)) (ho : Hid (OrdOk w o)) :
    Calls Tryd.prog 12 #[.agg (arr .u8 h), orV o] w fun e' w' => e' = .returned (.agg (arr .u8 (lnk h o))) ∧ Below w.heap.size w w' := by
  obtain ⟨RR, hRR⟩ : ∃ R, tagged (bys tagTl) (enc (lIt h o)) = R := ⟨_, rfl⟩
  rw [show lnk h o = tagged (bys tagTl) (enc (lIt h o)) from rfl, hRR]
  have HRR : Kp (tagged (bys tagTl) (enc (lIt h o)) = RR) := ⟨hRR⟩
  have HRL : Hid (RR.length = 32) := Lib.hid (by rw [← hRR]; exact tagged_len _ _)
  have HFIT : Hid (fits 8 (lIt h o)) := Lib.hid (fits_l hl.out hb.out hi.out hs)
  have HLEN : Hid ((enc (lIt h o)).length ≤ 16384) := Lib.hid (enc_l hl.out hs)
  clear hRR
  obtain ⟨E, hE⟩ : ∃ E, enc (lIt h o) = E := ⟨_, rfl⟩
  have HEB : Hid (bytesB E = true) := Lib.hid (by rw [← hE]; exact enc_bytes HFIT.out)
  have HEL : Hid (0 < E.length ∧ E.length ≤ 16384) := Lib.hid (by rw [← hE]; exact ⟨enc_pos _, HLEN.out⟩)
  have HEE : Kp (enc (lIt h o) = E) := ⟨hE⟩
  obtain ⟨nE, hnE⟩ : ∃ n, E.length = n := ⟨_, rfl⟩
  have HEN := Lib.hid hnE
  have he0 : 0 < nE := by rw [← hnE]; exact HEL.out.1
  have he1 : nE ≤ 16384 := by rw [← hnE]; exact HEL.out.2
  clear hE hnE
  obtain ⟨w0, hW⟩ : ∃ W, (((w.alloc (.cells (arr .u8 h) 43)).alloc (orO o)).alloc (.cells #[.int .u8 0, .int .u8 0, .int .u8 0, .int .u8 0, .int .u8 0, .int .u8 0, .int .u8 0, .int .u8 0, .int .u8 0, .int .u8 0, .int .u8 0, .int .u8 0, .int .u8 0, .int .u8 0, .int .u8 0, .int .u8 0, .int .u8 0, .int .u8 0, .int .u8 0, .int .u8 0, .int .u8 0, .int .u8 0, .int .u8 0, .int .u8 0, .int .u8 0, .int .u8 0, .int .u8 0, .int .u8 0, .int .u8 0, .int .u8 0, .int .u8 0, .int .u8 0] 43)) = W := ⟨_, rfl⟩
  have HBw : Hid (Below w.heap.size w w0) := Lib.hid (by rw [← hW]; exact (((Below.refl _ _).alloc (Nat.le_refl _) _).alloc (by simp) _).alloc (by simp; omega) _)
  have hc : w0.cell? ⟨w.heap.size + 1, 0, none⟩ = some (.int .i64 o.num) ∧ w0.cell? ⟨w.heap.size + 1, 1, none⟩ = some (.string o.rs) ∧ w0.cell? ⟨w.heap.size + 1, 2, none⟩ = some (.int .i64 o.E1) ∧ w0.cell? ⟨w.heap.size + 1, 3, none⟩ = some (.int .i64 o.E2) ∧ w0.cell? ⟨w.heap.size + 1, 4, none⟩ = some (.slice o.A o.na o.ca) ∧ w0.cell? ⟨w.heap.size + 1, 5, none⟩ = some (.int .i64 o.C) ∧ w0.cell? ⟨w.heap.size + 1, 6, none⟩ = some (.slice o.Z o.nz o.cz) ∧ w0.cell? ⟨w.heap.size + 1, 7, none⟩ = some (.slice o.L o.np o.cp) ∧ w0.cell? ⟨w.heap.size + 1, 8, none⟩ = some (.int .i64 o.key) := by rw [← hW]; exact ⟨cell_below (allocs_cell (by simp) (by rfl)) (below_box0 _ _), cell_below (allocs_cell (by simp) (by rfl)) (below_box0 _ _), cell_below (allocs_cell (by simp) (by rfl)) (below_box0 _ _), cell_below (allocs_cell (by simp) (by rfl)) (below_box0 _ _), cell_below (allocs_cell (by simp) (by rfl)) (below_box0 _ _), cell_below (allocs_cell (by simp) (by rfl)) (below_box0 _ _), cell_below (allocs_cell (by simp) (by rfl)) (below_box0 _ _), cell_below (allocs_cell (by simp) (by rfl)) (below_box0 _ _), cell_below (allocs_cell (by simp) (by rfl)) (below_box0 _ _)⟩
  have kC := Lib.hid (show ∀ u : World, Hid (Below w0.heap.size w0 u) → u.cell? ⟨w.heap.size + 1, 0, none⟩ = some (.int .i64 o.num) ∧ u.cell? ⟨w.heap.size + 1, 1, none⟩ = some (.string o.rs) ∧ u.cell? ⟨w.heap.size + 1, 2, none⟩ = some (.int .i64 o.E1) ∧ u.cell? ⟨w.heap.size + 1, 3, none⟩ = some (.int .i64 o.E2) ∧ u.cell? ⟨w.heap.size + 1, 4, none⟩ = some (.slice o.A o.na o.ca) ∧ u.cell? ⟨w.heap.size + 1, 5, none⟩ = some (.int .i64 o.C) ∧ u.cell? ⟨w.heap.size + 1, 6, none⟩ = some (.slice o.Z o.nz o.cz) ∧ u.cell? ⟨w.heap.size + 1, 7, none⟩ = some (.slice o.L o.np o.cp) ∧ u.cell? ⟨w.heap.size + 1, 8, none⟩ = some (.int .i64 o.key) from fun u h => ⟨cell_below hc.1 h.out, cell_below hc.2.1 h.out, cell_below hc.2.2.1 h.out, cell_below hc.2.2.2.1 h.out, cell_below hc.2.2.2.2.1 h.out, cell_below hc.2.2.2.2.2.1 h.out, cell_below hc.2.2.2.2.2.2.1 h.out, cell_below hc.2.2.2.2.2.2.2.1 h.out, cell_below hc.2.2.2.2.2.2.2.2 h.out⟩)
  have kO := Lib.hid (show ∀ u : World, Hid (Below w0.heap.size w0 u) → Hid (OrdOk u o) from fun u h => Lib.hid ((ho.out.below) (below_ext HBw.out h.out)))
  have kD := Lib.hid (show ∀ u : World, Hid (Below w0.heap.size w0 u) → Hid (VarsD u) from fun u h => Lib.hid ((hv.out.below) (below_ext HBw.out h.out)))
  have HB_0 : Hid (Below w0.heap.size w0 w0) := Lib.hid (Below.refl _ _)
  have HW := Lib.hid hW
  have kHB := Lib.hid (show ∀ u : World, Hid (Below w0.heap.size w0 u) → Hid (Blk .u8 43 u w.heap.size h) from fun u h9 => Lib.hid (Blk.below (by rw [← hW]; exact ((Blk.new w h).old _).old _) h9.out))
  have kRB := Lib.hid (show ∀ u : World, Hid (Below w0.heap.size w0 u) → Hid (Blk .u8 43 u (w.heap.size + 2) (zer 32)) from fun u h9 => Lib.hid (Blk.below (by rw [← hW, zarrh]; exact heap_alloc3_new _ _ _ _) h9.out))
  clear hW hc ho hv
  go_enter Tryd.func12, Tryd.ntmps12
  go_upto_region 1 with (fail)
  rw [HW.out]
  obtain ⟨zc0, zc1, zc2, zc3, zc4, zc5, zc6, zc7, zc8⟩ := kC.out _ HB_0
  have HSZ0 : Hid (w0.heap.size = w.heap.size + 3) := Lib.hid (by rw [← HW.out]; simp)
  have kHg := Lib.hid (show ∀ u : World, Hid (Below w0.heap.size w0 u) → Blk .u8 43 u w.heap.size h from fun u h9 => (kHB.out u h9).out)
  clear zc0 zc1 zc2 zc3 zc4 zc5 zc6 zc7 zc8
  have hBx := Lib.hid (show ∀ u u2 : World, Hid (Below w0.heap.size w0 u) → Below u.heap.size u u2 → Hid (Below w0.heap.size w0 u2) from fun u u2 h1 h2 => Lib.hid (below_ext h1.out h2))
  have hS := Lib.hid (show ∀ u : World, Hid (Below w0.heap.size w0 u) → (u.cell? ⟨w.heap.size + 1, 0, none⟩ = some (.int .i64 o.num) ∧ u.cell? ⟨w.heap.size + 1, 1, none⟩ = some (.string o.rs) ∧ u.cell? ⟨w.heap.size + 1, 2, none⟩ = some (.int .i64 o.E1) ∧ u.cell? ⟨w.heap.size + 1, 3, none⟩ = some (.int .i64 o.E2) ∧ u.cell? ⟨w.heap.size + 1, 4, none⟩ = some (.slice o.A o.na o.ca) ∧ u.cell? ⟨w.heap.size + 1, 5, none⟩ = some (.int .i64 o.C) ∧ u.cell? ⟨w.heap.size + 1, 6, none⟩ = some (.slice o.Z o.nz o.cz) ∧ u.cell? ⟨w.heap.size + 1, 7, none⟩ = some (.slice o.L o.np o.cp) ∧ u.cell? ⟨w.heap.size + 1, 8, none⟩ = some (.int .i64 o.key) ∧ Blk .u8 43 u w.heap.size h) from fun u h1 => by
    obtain ⟨y0, y1, y2, y3, y4, y5, y6, y7, y8⟩ := kC.out _ (Lib.hid h1.out)
    have kHg_0 := kHg.out _ (Lib.hid h1.out)
    exact ⟨y0, y1, y2, y3, y4, y5, y6, y7, y8, kHg_0⟩)
  have HBA : Hid (Below w0.heap.size w0 w0) := Lib.hid HB_0.out
  have HBD := hBx.out _ _ HBA (Below.refl _ _).drew
  refine wp_region_T (S := fun w' => w'.cell? ⟨w.heap.size + 1, 0, none⟩ = some (.int .i64 o.num) ∧ w'.cell? ⟨w.heap.size + 1, 1, none⟩ = some (.string o.rs) ∧ w'.cell? ⟨w.heap.size + 1, 2, none⟩ = some (.int .i64 o.E1) ∧ w'.cell? ⟨w.heap.size + 1, 3, none⟩ = some (.int .i64 o.E2) ∧ w'.cell? ⟨w.heap.size + 1, 4, none⟩ = some (.slice o.A o.na o.ca) ∧ w'.cell? ⟨w.heap.size + 1, 5, none⟩ = some (.int .i64 o.C) ∧ w'.cell? ⟨w.heap.size + 1, 6, none⟩ = some (.slice o.Z o.nz o.cz) ∧ w'.cell? ⟨w.heap.size + 1, 7, none⟩ = some (.slice o.L o.np o.cp) ∧ w'.cell? ⟨w.heap.size + 1, 8, none⟩ = some (.int .i64 o.key) ∧ Blk .u8 43 w' w.heap.size h) (E := [8]) (by kernel_rfl) (hS.out _ HBD) (fun hHeld => ?_)
  obtain ⟨wD, hwD⟩ : ∃ u, w0.drew = u := ⟨_, rfl⟩
  rw [hwD] at HBD hHeld ⊢
  have HSZD : Hid (w0.heap.size ≤ wD.heap.size) := Lib.hid (by rw [← hwD]; exact Nat.le_refl _)
  clear hwD
  refine wpT_take (i := 0) (oi := _) (v := (.agg (arr .u8 h))) rfl (by kernel_rfl) (by kernel_rfl) (by kernel_rfl) (by kernel_rfl) (fun _ _ _ h => h) (Or.inl ⟨by rfl, yields_row 43 _ rfl w.heap.size rfl _ _ _ _ (fun _ hq => hq.2.2.2.2.2.2.2.2.2) Tryd.underlying43 rfl (hash_info hl.out)⟩) (by assumption) ?_
  try simp only [qq1, qq2, qq3, Act.put, qq4, qq5, qq6]
  refine tkV 2 ?_
  try simp only [qq1, qq2, qq3, Act.put, qq4, qq5, qq6]
  refine wpT_frame (fun T a0 hT ha0 => ?_)
  clear hHeld
  have G1_3_4_5_6_7 : ∀ (cB_ : Ic) (cO : Ic) (gL : Nat) (gE : Nat) (cE : Nat) (u : World), (Hid (Below w0.heap.size w0 u)) → (Hid (ItS w0.heap.size u (.byt h) cB_)) → (Hid (ItS w0.heap.size u (oIt o) cO)) → (Hid (u.heap[gL]? = some (.cells #[.int .i64 cB_.kind, .int .i64 cB_.n, .slice cB_.B cB_.nb cB_.cb, .slice cB_.L cB_.nl cB_.cl, .int .i64 cO.kind, .int .i64 cO.n, .slice cO.B cO.nb cO.cb, .slice cO.L cO.nl cO.cl] 69))) → (Hid (w0.heap.size ≤ gL)) → (Hid (Sk .u8 u (some ⟨gE, 0, none⟩) E)) → T 1 #[true, true, true, true, true, true, true, true, false] ((((((a0.put (some 6) (.agg #[.int .i64 cB_.kind, .int .i64 cB_.n, .slice cB_.B cB_.nb cB_.cb, .slice cB_.L cB_.nl cB_.cl])).put (some 8) (.agg #[.int .i64 cO.kind, .int .i64 cO.n, .slice cO.B cO.nb cO.cb, .slice cO.L cO.nl cO.cl])).put (some 9) (.slice (some ⟨gL, 0, none⟩) 2 2)).put (some 10) (.agg #[.int .i64 3, .int .i64 (0), .slice none 0 0, .slice (some ⟨gL, 0, none⟩) 2 2])).put (some 11) (.slice (some ⟨gE, 0, none⟩) nE cE)).put (some 12) (.agg (arr .u8 RR))) u := by
    intro cB_ cO gL gE cE u FB HB HO FL FLl FE
    have hHeld := hS.out _ FB
    rw [hT, ha0]
    try simp only [qq1, qq2, qq3, Act.put, qq4, qq5, qq6]
    have HE_w0 := Lib.hid FB.out
    have FNIL := kRB.out _ (Lib.hid FB.out)
    refine wpT_pass (i := 8) (by kernel_rfl) (by simp) rfl (fun K hK => ?_)
    rw [show (if Region.wanted _ _ = true then _ else _ : Prop) = _ from if_pos rfl]
    refine wp_store_row 43 _ _ rfl (w.heap.size + 2) (arr .u8 RR) rfl rfl 43 _ FNIL.out (hash_info HRL.out) (arrs_sz (l := zer 32) rfl HRL.out) (arr_one _) ?_
    refine hK.out _ _ ?_
    clear hK K
    try simp only [qq1, qq2, qq3, Act.put, qq4, qq5, qq6]
    refine wpT_done (by kernel_rfl) ?_ _
    have hbF := below_setRow' (below_ext HBw.out FB.out) (cs := arr .u8 RR) (Nat.le_add_right w.heap.size 2)
    have hrw := FNIL.out.setRow (l' := RR)
    go_wp2
    exact bodyPost_ret (v := .agg (arr .u8 RR)) (results_cell1 (p := 4) (ty := 43) rfl _ _ ⟨w.heap.size + 2, 0, none⟩ _ rfl (run_loadVar_row _ _ _ _ _ _ _ hrw Tryd.underlying43 rfl (hash_info HRL.out))) rfl ⟨rfl, hbF⟩
  have G1_3_4_5_6 : ∀ (cB_ : Ic) (cO : Ic) (gL : Nat) (gE : Nat) (cE : Nat) (u : World), (Hid (Below w0.heap.size w0 u)) → (Hid (ItS w0.heap.size u (.byt h) cB_)) → (Hid (ItS w0.heap.size u (oIt o) cO)) → (Hid (u.heap[gL]? = some (.cells #[.int .i64 cB_.kind, .int .i64 cB_.n, .slice cB_.B cB_.nb cB_.cb, .slice cB_.L cB_.nl cB_.cl, .int .i64 cO.kind, .int .i64 cO.n, .slice cO.B cO.nb cO.cb, .slice cO.L cO.nl cO.cl] 69))) → (Hid (w0.heap.size ≤ gL)) → (Hid (Sk .u8 u (some ⟨gE, 0, none⟩) E)) → T 2 #[true, true, true, true, true, true, true, false, false] (((((a0.put (some 6) (.agg #[.int .i64 cB_.kind, .int .i64 cB_.n, .slice cB_.B cB_.nb cB_.cb, .slice cB_.L cB_.nl cB_.cl])).put (some 8) (.agg #[.int .i64 cO.kind, .int .i64 cO.n, .slice cO.B cO.nb cO.cb, .slice cO.L cO.nl cO.cl])).put (some 9) (.slice (some ⟨gL, 0, none⟩) 2 2)).put (some 10) (.agg #[.int .i64 3, .int .i64 (0), .slice none 0 0, .slice (some ⟨gL, 0, none⟩) 2 2])).put (some 11) (.slice (some ⟨gE, 0, none⟩) nE cE)) u := by
    intro cB_ cO gL gE cE u FB HB HO FL FLl FE
    have hHeld := hS.out _ FB
    rw [hT, ha0]
    try simp only [qq1, qq2, qq3, Act.put, qq4, qq5, qq6]
    refine wpT_one (i := 7) (by kernel_rfl) rfl (fun K hK => ?_)
    go_simp
    refine (rtagged_any tagTl (by decide) (by decide) gE 0 cE E nE HEN he0 (by omega) HEB _ FE).mono ?_
    rintro e wB ⟨rfl, hq⟩
    rw [← HEE.1, HRR.1]
    have FB2 := hBx.out _ _ FB hq
    refine hK.out _ _ ?_ (fun hHeld => ?_)
    · exact hS.out _ FB2
    clear hK K hHeld
    try simp only [qq1, qq2, qq3, Act.put, qq4, qq5, qq6]
    have hG := G1_3_4_5_6_7 cB_ cO gL gE cE wB FB2 (Lib.hid (HB.out.kept hq)) (Lib.hid (HO.out.kept hq)) (Lib.hid (blk_below FL.out hq)) (FLl) (Lib.hid (FE.out.below hq))
    rw [hT, ha0] at hG
    (try simp only [qq1, qq2, qq3, Act.put, qq4, qq5, qq6] at hG)
    exact hG
  have G1_3_4_5 : ∀ (cB_ : Ic) (cO : Ic) (gL : Nat) (u : World), (Hid (Below w0.heap.size w0 u)) → (Hid (ItS w0.heap.size u (.byt h) cB_)) → (Hid (ItS w0.heap.size u (oIt o) cO)) → (Hid (u.heap[gL]? = some (.cells #[.int .i64 cB_.kind, .int .i64 cB_.n, .slice cB_.B cB_.nb cB_.cb, .slice cB_.L cB_.nl cB_.cl, .int .i64 cO.kind, .int .i64 cO.n, .slice cO.B cO.nb cO.cb, .slice cO.L cO.nl cO.cl] 69))) → (Hid (w0.heap.size ≤ gL)) → T 3 #[true, true, true, true, true, true, false, false, false] ((((a0.put (some 6) (.agg #[.int .i64 cB_.kind, .int .i64 cB_.n, .slice cB_.B cB_.nb cB_.cb, .slice cB_.L cB_.nl cB_.cl])).put (some 8) (.agg #[.int .i64 cO.kind, .int .i64 cO.n, .slice cO.B cO.nb cO.cb, .slice cO.L cO.nl cO.cl])).put (some 9) (.slice (some ⟨gL, 0, none⟩) 2 2)).put (some 10) (.agg #[.int .i64 3, .int .i64 (0), .slice none 0 0, .slice (some ⟨gL, 0, none⟩) 2 2])) u := by
    intro cB_ cO gL u FB HB HO FL FLl
    have hHeld := hS.out _ FB
    rw [hT, ha0]
    try simp only [qq1, qq2, qq3, Act.put, qq4, qq5, qq6]
    refine wpT_one (i := 6) (by kernel_rfl) rfl (fun K hK => ?_)
    go_simp
    have hit : ItR u (lIt h o) (Ic.mk 3 0 none 0 0 (some ⟨gL, 0, none⟩) 2 2) := itr_blk (fun k => match k with | 0 => cB_ | _ => cO) FL.out rfl (fun k hk => by
        rcases (show k = 0 ∨ k = 1 by omega) with rfl | rfl <;> exact ⟨rfl, rfl, rfl, rfl⟩) (fun k hk => by
        rcases (show k = 0 ∨ k = 1 by omega) with rfl | rfl
        · exact HB.out.it
        · exact HO.out.it)
    refine (renc_any 8 (lIt h o) (Ic.mk 3 0 none 0 0 (some ⟨gL, 0, none⟩) 2 2) _ HFIT.out hit HLEN.out).mono ?_
    rintro e wB ⟨v4, rfl, ho4, hq⟩
    rw [HEE.1] at ho4
    obtain ⟨g4, cap4, e4, hg4, -, -, hsk4⟩ := ho4.cells HEL.out.1
    rw [HEN.out] at e4
    subst e4
    clear hit ho4
    have FB2 := hBx.out _ _ FB hq
    refine hK.out _ _ ?_ (fun hHeld => ?_)
    · exact hS.out _ FB2
    clear hK K hHeld
    try simp only [qq1, qq2, qq3, Act.put, qq4, qq5, qq6]
    have hG := G1_3_4_5_6 cB_ cO gL g4 cap4 wB FB2 (Lib.hid (HB.out.kept hq)) (Lib.hid (HO.out.kept hq)) (Lib.hid (blk_below FL.out hq)) (FLl) (Lib.hid hsk4)
    rw [hT, ha0] at hG
    (try simp only [qq1, qq2, qq3, Act.put, qq4, qq5, qq6] at hG)
    exact hG
  have G1_3_4 : ∀ (cB_ : Ic) (cO : Ic) (gL : Nat) (u : World), (Hid (Below w0.heap.size w0 u)) → (Hid (ItS w0.heap.size u (.byt h) cB_)) → (Hid (ItS w0.heap.size u (oIt o) cO)) → (Hid (u.heap[gL]? = some (.cells #[.int .i64 cB_.kind, .int .i64 cB_.n, .slice cB_.B cB_.nb cB_.cb, .slice cB_.L cB_.nl cB_.cl, .int .i64 cO.kind, .int .i64 cO.n, .slice cO.B cO.nb cO.cb, .slice cO.L cO.nl cO.cl] 69))) → (Hid (w0.heap.size ≤ gL)) → T 4 #[true, true, true, true, true, false, false, false, false] (((a0.put (some 6) (.agg #[.int .i64 cB_.kind, .int .i64 cB_.n, .slice cB_.B cB_.nb cB_.cb, .slice cB_.L cB_.nl cB_.cl])).put (some 8) (.agg #[.int .i64 cO.kind, .int .i64 cO.n, .slice cO.B cO.nb cO.cb, .slice cO.L cO.nl cO.cl])).put (some 9) (.slice (some ⟨gL, 0, none⟩) 2 2)) u := by
    intro cB_ cO gL u FB HB HO FL FLl
    have hHeld := hS.out _ FB
    rw [hT, ha0]
    try simp only [qq1, qq2, qq3, Act.put, qq4, qq5, qq6]
    refine wpT_one (i := 5) (by kernel_rfl) rfl (fun K hK => ?_)
    go_simp
    refine (rlist_it (some ⟨gL, 0, none⟩) 2 2 _).mono ?_
    rintro e wB ⟨rfl, hq⟩
    have FB2 := hBx.out _ _ FB hq
    refine hK.out _ _ ?_ (fun hHeld => ?_)
    · exact hS.out _ FB2
    clear hK K hHeld
    try simp only [qq1, qq2, qq3, Act.put, qq4, qq5, qq6]
    have hG := G1_3_4_5 cB_ cO gL wB FB2 (Lib.hid (HB.out.kept hq)) (Lib.hid (HO.out.kept hq)) (Lib.hid (blk_below FL.out hq)) (FLl)
    rw [hT, ha0] at hG
    (try simp only [qq1, qq2, qq3, Act.put, qq4, qq5, qq6] at hG)
    exact hG
  have G1_3 : ∀ (cB_ : Ic) (cO : Ic) (u : World), (Hid (Below w0.heap.size w0 u)) → (Hid (ItS w0.heap.size u (.byt h) cB_)) → (Hid (ItS w0.heap.size u (oIt o) cO)) → T 5 #[true, true, true, true, false, false, false, false, false] ((a0.put (some 6) (.agg #[.int .i64 cB_.kind, .int .i64 cB_.n, .slice cB_.B cB_.nb cB_.cb, .slice cB_.L cB_.nl cB_.cl])).put (some 8) (.agg #[.int .i64 cO.kind, .int .i64 cO.n, .slice cO.B cO.nb cO.cb, .slice cO.L cO.nl cO.cl])) u := by
    intro cB_ cO u FB HB HO
    have hHeld := hS.out _ FB
    rw [hT, ha0]
    try simp only [qq1, qq2, qq3, Act.put, qq4, qq5, qq6]
    refine wpT_one (i := 4) (by kernel_rfl) rfl (fun K hK => ?_)
    go_simp
    have FB2 := hBx.out _ _ FB (below_box0 u (.cells #[.int .i64 cB_.kind, .int .i64 cB_.n, .slice cB_.B cB_.nb cB_.cb, .slice cB_.L cB_.nl cB_.cl, .int .i64 cO.kind, .int .i64 cO.n, .slice cO.B cO.nb cO.cb, .slice cO.L cO.nl cO.cl] 69))
    refine hK.out _ _ ?_ (fun hHeld => ?_)
    · exact hS.out _ FB2
    clear hK K hHeld
    try simp only [qq1, qq2, qq3, Act.put, qq4, qq5, qq6]
    have hG := G1_3_4 cB_ cO u.heap.size (u.alloc (.cells #[.int .i64 cB_.kind, .int .i64 cB_.n, .slice cB_.B cB_.nb cB_.cb, .slice cB_.L cB_.nl cB_.cl, .int .i64 cO.kind, .int .i64 cO.n, .slice cO.B cO.nb cO.cb, .slice cO.L cO.nl cO.cl] 69)) FB2 (Lib.hid (HB.out.kept (below_box0 u (.cells #[.int .i64 cB_.kind, .int .i64 cB_.n, .slice cB_.B cB_.nb cB_.cb, .slice cB_.L cB_.nl cB_.cl, .int .i64 cO.kind, .int .i64 cO.n, .slice cO.B cO.nb cO.cb, .slice cO.L cO.nl cO.cl] 69)))) (Lib.hid (HO.out.kept (below_box0 u (.cells #[.int .i64 cB_.kind, .int .i64 cB_.n, .slice cB_.B cB_.nb cB_.cb, .slice cB_.L cB_.nl cB_.cl, .int .i64 cO.kind, .int .i64 cO.n, .slice cO.B cO.nb cO.cb, .slice cO.L cO.nl cO.cl] 69)))) (Lib.hid (heap_alloc_new u _)) (Lib.hid (by have := FB.out.size; omega))
    rw [hT, ha0] at hG
    (try simp only [qq1, qq2, qq3, Act.put, qq4, qq5, qq6] at hG)
    exact hG
  have G1 : ∀ (cB_ : Ic) (u : World), (Hid (Below w0.heap.size w0 u)) → (Hid (ItS w0.heap.size u (.byt h) cB_)) → T 6 #[true, true, true, false, false, false, false, false, false] (a0.put (some 6) (.agg #[.int .i64 cB_.kind, .int .i64 cB_.n, .slice cB_.B cB_.nb cB_.cb, .slice cB_.L cB_.nl cB_.cl])) u := by
    intro cB_ u FB HB
    have hHeld := hS.out _ FB
    rw [hT, ha0]
    try simp only [qq1, qq2, qq3, Act.put, qq4, qq5, qq6]
    refine wpT_one (i := 3) (by kernel_rfl) rfl (fun K hK => ?_)
    go_simp
    refine (ritem_any o hs _ (kO.out _ (Lib.hid FB.out))).mono ?_
    rintro e wB ⟨cB, rfl, hit, hq⟩
    have FB2 := hBx.out _ _ FB hq
    refine hK.out _ _ ?_ (fun hHeld => ?_)
    · exact hS.out _ FB2
    clear hK K hHeld
    try simp only [qq1, qq2, qq3, Act.put, qq4, qq5, qq6]
    have hG := G1_3 cB_ cB wB FB2 (Lib.hid (HB.out.kept hq)) (Lib.hid (hit.mono (by have := FB.out.size; omega)))
    rw [hT, ha0] at hG
    (try simp only [qq1, qq2, qq3, Act.put, qq4, qq5, qq6] at hG)
    exact hG
  have G0 : ∀  (u : World), (Hid (Below w0.heap.size w0 u)) → T 7 #[true, false, true, false, false, false, false, false, false] a0 u := by
    intro  u FB
    have hHeld := hS.out _ FB
    rw [hT, ha0]
    try simp only [qq1, qq2, qq3, Act.put, qq4, qq5, qq6]
    refine wpT_one (i := 1) (by kernel_rfl) rfl (fun K hK => ?_)
    go_simp
    refine (r31bytes_any h hl _).mono ?_
    rintro e wB ⟨cB, rfl, hit, hq⟩
    have FB2 := hBx.out _ _ FB hq
    refine hK.out _ _ ?_ (fun hHeld => ?_)
    · exact hS.out _ FB2
    clear hK K hHeld
    try simp only [qq1, qq2, qq3, Act.put, qq4, qq5, qq6]
    have hG := G1 cB wB FB2 (Lib.hid (hit.mono (by have := FB.out.size; omega)))
    rw [hT, ha0] at hG
    (try simp only [qq1, qq2, qq3, Act.put, qq4, qq5, qq6] at hG)
    exact hG
  exact G0 _ HBD
end Go.Proofs.YtpmjgkkcckhabaaDoor
