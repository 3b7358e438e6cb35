/- Contracts and lemmas: TlH, TlS, TlS3. -/
import Derived.Test.YtpmjgkkcckhabaaDoorTk6
namespace Go.Proofs.YtpmjgkkcckhabaaDoor
open Go.RowKit SpM
set_option linter.unusedVariables false
set_option linter.unusedSimpArgs false
set_option maxRecDepth 100000
set_option maxHeartbeats 3200000 in
theorem rtval_1 (O : Option Addr) (n c : Nat) (K : Option Addr) (m d : Nat) (h : ¬ n ≤ 100) (hb1 : n ≤ 1000000) (w : World) :
    Calls Tryd.prog 8 #[tlV O n c K m d] w fun e' w' => e' = .returned (.bool false) ∧ Below w.heap.size w w' := by
  have dn : decide ((100 : Int) < (n : Int)) = true := by simp; omega
  obtain ⟨w0, HW, HBw, kC⟩ := stTl O n c K m d w
  have HB_0 : Hid (Below w0.heap.size w0 w0) := Lib.hid (Below.refl _ _)
  go_enter Tryd.func8, Tryd.ntmps8
  go_upto_region 1 with (fail)
  rw [HW.out]
  obtain ⟨zc0, zc1⟩ := kC.out _ HB_0
  have hbF := below_ext HBw.out HB_0.out
  go_wp2
  go_ret
  exact ⟨rfl, hbF⟩
set_option maxHeartbeats 25600000 in
theorem rtval_2 (O : Option Addr) (os : List OrdR) (n c : Nat) (K : Option Addr) (hs : List (List Int)) (m d : Nat) (hn : Hid (os.length = n)) (hm : Hid (hs.length = m)) (hI : ∀ k, k < n → OrdI (orL os k)) (hb1 : n ≤ 1000000) (hb2 : m ≤ 1000000) (h100 : n ≤ 100) (r : Bool) (hr : Kp (trlB os hs = r)) (w : World) (hv : Hid (VarsD w)) (hO : Hid (Os w O os)) (hK : Hid (Hs w K hs)) :
    Calls Tryd.prog 8 #[tlV O n c K m d] w fun e' w' => e' = .returned (.bool r) ∧ Below w.heap.size w w' := by
  have dn : decide ((100 : Int) < (n : Int)) = false := by simp; omega
  obtain ⟨w0, HW, HBw, kC⟩ := stTl O n c K m d w
  have kD := Lib.hid (show ∀ u : World, Hid (Below w0.heap.size w0 u) → Hid (VarsD u) from fun u h => Lib.hid ((hv.out.below) (below_ext HBw.out h.out)))
  have kOs := Lib.hid (show ∀ u : World, Hid (Below w0.heap.size w0 u) → Hid (Os u O os) from fun u h => Lib.hid ((hO.out.below) (below_ext HBw.out h.out)))
  have kHs := Lib.hid (show ∀ u : World, Hid (Below w0.heap.size w0 u) → Hid (Hs u K hs) from fun u h => Lib.hid ((hK.out.below) (below_ext HBw.out h.out)))
  have HB_0 : Hid (Below w0.heap.size w0 w0) := Lib.hid (Below.refl _ _)
  clear hv hO hK
  go_enter Tryd.func8, Tryd.ntmps8
  go_upto_region 1 with (fail)
  rw [HW.out]
  obtain ⟨zc0, zc1⟩ := kC.out _ HB_0
  have HBl := HB_0
  have hq0 := below_box0 w0 (.cells #[.int .u8 0, .int .u8 0, .int .u8 0, .int .u8 0, .int .u8 0, .int .u8 0, .int .u8 0, .int .u8 0, .int .u8 0, .int .u8 0, .int .u8 0, .int .u8 0, .int .u8 0, .int .u8 0, .int .u8 0, .int .u8 0, .int .u8 0, .int .u8 0, .int .u8 0, .int .u8 0, .int .u8 0, .int .u8 0, .int .u8 0, .int .u8 0, .int .u8 0, .int .u8 0, .int .u8 0, .int .u8 0, .int .u8 0, .int .u8 0, .int .u8 0, .int .u8 0] 43)
  have HB_1 := Lib.hid (below_ext HB_0.out hq0)
  clear hq0
  obtain ⟨zc0x, zc1x⟩ := kC.out _ HB_1
  go_wp2
  clear zc0 zc1 zc0x zc1x
  obtain ⟨W, hW⟩ : ∃ x, w0.alloc (.cells #[.int .u8 0, .int .u8 0, .int .u8 0, .int .u8 0, .int .u8 0, .int .u8 0, .int .u8 0, .int .u8 0, .int .u8 0, .int .u8 0, .int .u8 0, .int .u8 0, .int .u8 0, .int .u8 0, .int .u8 0, .int .u8 0, .int .u8 0, .int .u8 0, .int .u8 0, .int .u8 0, .int .u8 0, .int .u8 0, .int .u8 0, .int .u8 0, .int .u8 0, .int .u8 0, .int .u8 0, .int .u8 0, .int .u8 0, .int .u8 0, .int .u8 0, .int .u8 0] 43) = x := ⟨_, rfl⟩
  rw [hW] at HB_1
  have HBX := HB_1
  obtain ⟨B, hB⟩ : ∃ x, w0.heap.size = x := ⟨_, rfl⟩
  have HSB : Hid (W.heap.size = B + 1 ∧ w0.heap.size ≤ B) := Lib.hid ⟨by rw [← hW, ← hB]; simp, by rw [← hB]; exact Nat.le_refl _⟩
  have HK0 : Hid (Blk .u8 43 W B (zer 32)) := Lib.hid (by rw [← hW, ← hB, zarrh]; exact Blk.new _ _)
  rw [hW, hB]
  have HSW := Lib.hid hW
  have HSB2 := Lib.hid hB
  clear hW hB HBl
  go_loopw [5, 6] (fun ce i u => ∃ (k : Nat) (h : List Int), k ≤ n ∧ i = .int .i64 k ∧ ce = .int .i64 (clN os k) ∧ Hid (trS os hs n k = true) ∧ Kp (hbL os k = h) ∧ Hid (Blk .u8 43 u B h) ∧ Hid (Below B W u)) (fun _ i _ => n - (intOf i).toNat)
  case atStart => exact ⟨0, zer 32, by omega, rfl, rfl, Lib.hid rfl, ⟨rfl⟩, HK0, Lib.hid (Below.refl _ _)⟩
  case round =>
    obtain ⟨k, h, hk, rfl, rfl, HST, HHB, HBK, HBr⟩ := hrel
    have HBr0 : Hid (Below w0.heap.size w0 wr) := Lib.hid (HBX.out.trans (HBr.out.mono HSB.out.2))
    have HL : Hid (h.length = 32) := Lib.hid (by rw [← HHB.1]; exact hbL_len _ _)
    have HBY : Hid (bytesB h = true) := Lib.hid (by rw [← HHB.1]; exact hbL_b _ _)
    by_cases hlt : k < n
    · skip
      have hkl : k < os.length := by rw [hn.out]; exact hlt
      obtain ⟨b, f, hA, h9, hok⟩ := (kOs.out _ HBr0).out k hkl
      subst hA
      have hoi := hI k hlt
      have hcl : clN os k = k := cl_eq HST.out hlt
      rw [hcl]
      obtain ⟨o, ho⟩ : ∃ o, os.getD k noOrd = o := ⟨_, rfl⟩
      have HPP : Hid (orL os k = o) := Lib.hid ho
      rw [ho] at h9 hok
      have hoi2 : OrdI o := by rw [← ho]; exact hoi
      have HOI := Lib.hid hoi2
      have HOK := Lib.hid hok
      obtain ⟨j0, j1, j2, j3, j4, j5, j6, j7, j8⟩ := h9
      have dw : IntKind.i64.wrap ((n : Int) - 1) = (n : Int) - 1 := IntWalk.i64_in _ (by omega)
      have dw2 : wrap64 ((n : Int) - 1) = (n : Int) - 1 := IntWalk.wrap64_in _ (by omega)
      have HCL := Lib.hid hcl
      clear ho hoi hoi2 hok hkl hcl
      cases hob : ordB o with
      | true =>
        by_cases hnum : o.num = (k : Int)
        · skip
          by_cases hkey : o.key = 0
          · skip
            by_cases hlast : k + 1 = n
            · skip
              have HOB := Lib.hid hob
              have dn1 : (o.num != (k : Int)) = false := by simpa using hnum
              have dk1 : (o.key == 0) = true := by simpa using hkey
              have dl1 : decide ((k : Int) < (n : Int) - 1) = false := by simp; omega
              have HS2 : Hid (trS os hs n (k + 1) = true) := Lib.hid (by rw [trS, HST.out, trR, HPP.out]; simp [hob, hkey, hnum, hlast])
              have HH2 : Kp (hbL os (k + 1) = h) := ⟨by rw [hbL, HPP.out, if_pos hkey]; exact HHB.1⟩
              have HCN : Hid (clN os (k + 1) = k) := Lib.hid (by simp [clN, HPP.out, hkey, HCL.out])
              clear hob hkey hnum hlast
              have HB_wr_1 : Hid (Below wr.heap.size wr wr) := Lib.hid (Below.refl _ _)
              have kOo := Lib.hid (show ∀ u : World, Hid (Below wr.heap.size wr u) → Hid (OrdOk u o) from fun u h => Lib.hid (HOK.out.below h.out))
              have kBK := Lib.hid (show ∀ u : World, Hid (Below wr.heap.size wr u) → Hid (Blk .u8 43 u B h) from fun u h9 => Lib.hid (HBK.out.below h9.out))
              obtain ⟨zc0, zc1⟩ := kC.out _ HBr0
              have hq := below_box0 wr (orO o)
              have HB_2 := Lib.hid (below_ext HBr0.out hq)
              have HB_wr_2 := Lib.hid (below_ext HB_wr_1.out hq)
              have hc : (wr.alloc (orO o)).cell? ⟨wr.heap.size, 0, none⟩ = some (.int .i64 o.num) ∧ (wr.alloc (orO o)).cell? ⟨wr.heap.size, 1, none⟩ = some (.string o.rs) ∧ (wr.alloc (orO o)).cell? ⟨wr.heap.size, 2, none⟩ = some (.int .i64 o.E1) ∧ (wr.alloc (orO o)).cell? ⟨wr.heap.size, 3, none⟩ = some (.int .i64 o.E2) ∧ (wr.alloc (orO o)).cell? ⟨wr.heap.size, 4, none⟩ = some (.slice o.A o.na o.ca) ∧ (wr.alloc (orO o)).cell? ⟨wr.heap.size, 5, none⟩ = some (.int .i64 o.C) ∧ (wr.alloc (orO o)).cell? ⟨wr.heap.size, 6, none⟩ = some (.slice o.Z o.nz o.cz) ∧ (wr.alloc (orO o)).cell? ⟨wr.heap.size, 7, none⟩ = some (.slice o.L o.np o.cp) ∧ (wr.alloc (orO o)).cell? ⟨wr.heap.size, 8, none⟩ = some (.int .i64 o.key) := ⟨allocs_cell rfl (by rfl), allocs_cell rfl (by rfl), allocs_cell rfl (by rfl), allocs_cell rfl (by rfl), allocs_cell rfl (by rfl), allocs_cell rfl (by rfl), allocs_cell rfl (by rfl), allocs_cell rfl (by rfl), allocs_cell rfl (by rfl)⟩
              have HC2 := Lib.hid hc
              clear hq
              obtain ⟨zc0x, zc1x⟩ := kC.out _ HB_2
              obtain ⟨zq0, zq1, zq2, zq3, zq4, zq5, zq6, zq7, zq8⟩ := hc
              go_wp2_with fail
              obtain ⟨w2, hw⟩ : ∃ x, (wr.alloc (orO o)) = x := ⟨_, rfl⟩
              rw [hw] at HC2 HB_2 HB_wr_2 ⊢
              have HSN2 : Hid (w2.heap.size = wr.heap.size + 1) := Lib.hid (by rw [← hw]; simp)
              clear zc0 zc1 zc0x zc1x zq0 zq1 zq2 zq3 zq4 zq5 zq6 zq7 zq8
              clear hw
              have HB_w2_2 : Hid (Below w2.heap.size w2 w2) := Lib.hid (Below.refl _ _)
              have kS := Lib.hid (show ∀ u : World, Hid (Below w2.heap.size w2 u) → u.cell? ⟨wr.heap.size, 0, none⟩ = some (.int .i64 o.num) ∧ u.cell? ⟨wr.heap.size, 1, none⟩ = some (.string o.rs) ∧ u.cell? ⟨wr.heap.size, 2, none⟩ = some (.int .i64 o.E1) ∧ u.cell? ⟨wr.heap.size, 3, none⟩ = some (.int .i64 o.E2) ∧ u.cell? ⟨wr.heap.size, 4, none⟩ = some (.slice o.A o.na o.ca) ∧ u.cell? ⟨wr.heap.size, 5, none⟩ = some (.int .i64 o.C) ∧ u.cell? ⟨wr.heap.size, 6, none⟩ = some (.slice o.Z o.nz o.cz) ∧ u.cell? ⟨wr.heap.size, 7, none⟩ = some (.slice o.L o.np o.cp) ∧ u.cell? ⟨wr.heap.size, 8, none⟩ = some (.int .i64 o.key) from fun u h => ⟨cell_below HC2.out.1 h.out, cell_below HC2.out.2.1 h.out, cell_below HC2.out.2.2.1 h.out, cell_below HC2.out.2.2.2.1 h.out, cell_below HC2.out.2.2.2.2.1 h.out, cell_below HC2.out.2.2.2.2.2.1 h.out, cell_below HC2.out.2.2.2.2.2.2.1 h.out, cell_below HC2.out.2.2.2.2.2.2.2.1 h.out, cell_below HC2.out.2.2.2.2.2.2.2.2 h.out⟩)
              obtain ⟨zc0, zc1⟩ := kC.out _ HB_2
              obtain ⟨kS_0, kS_1, kS_2, kS_3, kS_4, kS_5, kS_6, kS_7, kS_8⟩ := kS.out _ HB_w2_2
              clear j0 j1 j2 j3 j4 j5 j6 j7 j8
              clear zc0 zc1 kS_0 kS_1 kS_2 kS_3 kS_4 kS_5 kS_6 kS_7 kS_8
              obtain ⟨zc0, zc1⟩ := kC.out _ HB_2
              obtain ⟨kS_0, kS_1, kS_2, kS_3, kS_4, kS_5, kS_6, kS_7, kS_8⟩ := kS.out _ HB_w2_2
              go_wp2_with fail
              refine (rorder_any o true HOB _ (kOo.out _ HB_wr_2)).mono ?_
              rintro e w3 ⟨rfl, hb0⟩
              have HB_3 := Lib.hid (below_ext HB_2.out hb0)
              have HB_wr_3 := Lib.hid (below_ext HB_wr_2.out hb0)
              have HB_w2_3 := Lib.hid (below_ext HB_w2_2.out hb0)
              clear zc0 zc1 kS_0 kS_1 kS_2 kS_3 kS_4 kS_5 kS_6 kS_7 kS_8
              clear hb0
              obtain ⟨zc0, zc1⟩ := kC.out _ HB_3
              obtain ⟨kS_0, kS_1, kS_2, kS_3, kS_4, kS_5, kS_6, kS_7, kS_8⟩ := kS.out _ HB_w2_3
              have HBn : Hid (Below B W w3) := Lib.hid (HBr.out.trans (HB_wr_3.out.mono (by have := HBr.out.size; have := HSB.out.1; omega)))
              have HKn : Hid (Blk .u8 43 w3 B h) := (kBK.out _ HB_wr_3)
              go_wp2
              go_roundw
              case rel => exact ⟨k + 1, h, by omega, by go_num, by rw [HCN.out], HS2, HH2, HKn, HBn⟩
              case measure => simp [intOf]; omega
            · skip
              have HOB := Lib.hid hob
              have dn1 : (o.num != (k : Int)) = false := by simpa using hnum
              have dk1 : (o.key == 0) = true := by simpa using hkey
              have dl1 : decide ((k : Int) < (n : Int) - 1) = true := by simp; omega
              have hl9 : k + 1 ≠ n := hlast
              obtain rfl : r = false := hr.1.symm.trans (trl_hit hn.out hlt (by rw [trR, HPP.out]; simp [hob, hkey, hl9]))
              clear hob hkey hnum hlast hl9
              have HB_wr_1 : Hid (Below wr.heap.size wr wr) := Lib.hid (Below.refl _ _)
              have kOo := Lib.hid (show ∀ u : World, Hid (Below wr.heap.size wr u) → Hid (OrdOk u o) from fun u h => Lib.hid (HOK.out.below h.out))
              have kBK := Lib.hid (show ∀ u : World, Hid (Below wr.heap.size wr u) → Hid (Blk .u8 43 u B h) from fun u h9 => Lib.hid (HBK.out.below h9.out))
              obtain ⟨zc0, zc1⟩ := kC.out _ HBr0
              have hq := below_box0 wr (orO o)
              have HB_2 := Lib.hid (below_ext HBr0.out hq)
              have HB_wr_2 := Lib.hid (below_ext HB_wr_1.out hq)
              have hc : (wr.alloc (orO o)).cell? ⟨wr.heap.size, 0, none⟩ = some (.int .i64 o.num) ∧ (wr.alloc (orO o)).cell? ⟨wr.heap.size, 1, none⟩ = some (.string o.rs) ∧ (wr.alloc (orO o)).cell? ⟨wr.heap.size, 2, none⟩ = some (.int .i64 o.E1) ∧ (wr.alloc (orO o)).cell? ⟨wr.heap.size, 3, none⟩ = some (.int .i64 o.E2) ∧ (wr.alloc (orO o)).cell? ⟨wr.heap.size, 4, none⟩ = some (.slice o.A o.na o.ca) ∧ (wr.alloc (orO o)).cell? ⟨wr.heap.size, 5, none⟩ = some (.int .i64 o.C) ∧ (wr.alloc (orO o)).cell? ⟨wr.heap.size, 6, none⟩ = some (.slice o.Z o.nz o.cz) ∧ (wr.alloc (orO o)).cell? ⟨wr.heap.size, 7, none⟩ = some (.slice o.L o.np o.cp) ∧ (wr.alloc (orO o)).cell? ⟨wr.heap.size, 8, none⟩ = some (.int .i64 o.key) := ⟨allocs_cell rfl (by rfl), allocs_cell rfl (by rfl), allocs_cell rfl (by rfl), allocs_cell rfl (by rfl), allocs_cell rfl (by rfl), allocs_cell rfl (by rfl), allocs_cell rfl (by rfl), allocs_cell rfl (by rfl), allocs_cell rfl (by rfl)⟩
              have HC2 := Lib.hid hc
              clear hq
              obtain ⟨zc0x, zc1x⟩ := kC.out _ HB_2
              obtain ⟨zq0, zq1, zq2, zq3, zq4, zq5, zq6, zq7, zq8⟩ := hc
              go_wp2_with fail
              obtain ⟨w2, hw⟩ : ∃ x, (wr.alloc (orO o)) = x := ⟨_, rfl⟩
              rw [hw] at HC2 HB_2 HB_wr_2 ⊢
              have HSN2 : Hid (w2.heap.size = wr.heap.size + 1) := Lib.hid (by rw [← hw]; simp)
              clear zc0 zc1 zc0x zc1x zq0 zq1 zq2 zq3 zq4 zq5 zq6 zq7 zq8
              clear hw
              have HB_w2_2 : Hid (Below w2.heap.size w2 w2) := Lib.hid (Below.refl _ _)
              have kS := Lib.hid (show ∀ u : World, Hid (Below w2.heap.size w2 u) → u.cell? ⟨wr.heap.size, 0, none⟩ = some (.int .i64 o.num) ∧ u.cell? ⟨wr.heap.size, 1, none⟩ = some (.string o.rs) ∧ u.cell? ⟨wr.heap.size, 2, none⟩ = some (.int .i64 o.E1) ∧ u.cell? ⟨wr.heap.size, 3, none⟩ = some (.int .i64 o.E2) ∧ u.cell? ⟨wr.heap.size, 4, none⟩ = some (.slice o.A o.na o.ca) ∧ u.cell? ⟨wr.heap.size, 5, none⟩ = some (.int .i64 o.C) ∧ u.cell? ⟨wr.heap.size, 6, none⟩ = some (.slice o.Z o.nz o.cz) ∧ u.cell? ⟨wr.heap.size, 7, none⟩ = some (.slice o.L o.np o.cp) ∧ u.cell? ⟨wr.heap.size, 8, none⟩ = some (.int .i64 o.key) from fun u h => ⟨cell_below HC2.out.1 h.out, cell_below HC2.out.2.1 h.out, cell_below HC2.out.2.2.1 h.out, cell_below HC2.out.2.2.2.1 h.out, cell_below HC2.out.2.2.2.2.1 h.out, cell_below HC2.out.2.2.2.2.2.1 h.out, cell_below HC2.out.2.2.2.2.2.2.1 h.out, cell_below HC2.out.2.2.2.2.2.2.2.1 h.out, cell_below HC2.out.2.2.2.2.2.2.2.2 h.out⟩)
              obtain ⟨zc0, zc1⟩ := kC.out _ HB_2
              obtain ⟨kS_0, kS_1, kS_2, kS_3, kS_4, kS_5, kS_6, kS_7, kS_8⟩ := kS.out _ HB_w2_2
              clear j0 j1 j2 j3 j4 j5 j6 j7 j8
              clear zc0 zc1 kS_0 kS_1 kS_2 kS_3 kS_4 kS_5 kS_6 kS_7 kS_8
              obtain ⟨zc0, zc1⟩ := kC.out _ HB_2
              obtain ⟨kS_0, kS_1, kS_2, kS_3, kS_4, kS_5, kS_6, kS_7, kS_8⟩ := kS.out _ HB_w2_2
              go_wp2_with fail
              refine (rorder_any o true HOB _ (kOo.out _ HB_wr_2)).mono ?_
              rintro e w3 ⟨rfl, hb0⟩
              have HB_3 := Lib.hid (below_ext HB_2.out hb0)
              have HB_wr_3 := Lib.hid (below_ext HB_wr_2.out hb0)
              have HB_w2_3 := Lib.hid (below_ext HB_w2_2.out hb0)
              clear zc0 zc1 kS_0 kS_1 kS_2 kS_3 kS_4 kS_5 kS_6 kS_7 kS_8
              clear hb0
              obtain ⟨zc0, zc1⟩ := kC.out _ HB_3
              obtain ⟨kS_0, kS_1, kS_2, kS_3, kS_4, kS_5, kS_6, kS_7, kS_8⟩ := kS.out _ HB_w2_3
              have hbF := below_ext HBw.out HB_3.out
              go_wp2
              go_ret
              exact ⟨rfl, hbF⟩
          · skip
            by_cases hkm : m ≤ k
            · skip
              have HOB := Lib.hid hob
              have dn1 : (o.num != (k : Int)) = false := by simpa using hnum
              have dk1 : (o.key == 0) = false := by simpa using hkey
              obtain ⟨RR, hRR⟩ : ∃ x, lnk h o = x := ⟨_, rfl⟩
              have HRR : Kp (lnk h o = RR) := ⟨hRR⟩
              have HRL : Hid (RR.length = 32) := Lib.hid (by rw [← hRR]; exact lnk_len _ _)
              clear hRR
              have HH2 : Kp (hbL os (k + 1) = RR) := ⟨by rw [hbL, HPP.out, if_neg hkey, HHB.1]; exact HRR.1⟩
              have dm1 : decide ((m : Int) ≤ (k : Int)) = true := by simp; omega
              obtain rfl : r = false := hr.1.symm.trans (trl_hit hn.out hlt (by rw [trR, HPP.out]; simp [hob, hkey, hnum, hm.out]; omega))
              clear hob hkey hnum
              have HB_wr_1 : Hid (Below wr.heap.size wr wr) := Lib.hid (Below.refl _ _)
              have kOo := Lib.hid (show ∀ u : World, Hid (Below wr.heap.size wr u) → Hid (OrdOk u o) from fun u h => Lib.hid (HOK.out.below h.out))
              have kBK := Lib.hid (show ∀ u : World, Hid (Below wr.heap.size wr u) → Hid (Blk .u8 43 u B h) from fun u h9 => Lib.hid (HBK.out.below h9.out))
              obtain ⟨zc0, zc1⟩ := kC.out _ HBr0
              have hq := below_box0 wr (orO o)
              have HB_2 := Lib.hid (below_ext HBr0.out hq)
              have HB_wr_2 := Lib.hid (below_ext HB_wr_1.out hq)
              have hc : (wr.alloc (orO o)).cell? ⟨wr.heap.size, 0, none⟩ = some (.int .i64 o.num) ∧ (wr.alloc (orO o)).cell? ⟨wr.heap.size, 1, none⟩ = some (.string o.rs) ∧ (wr.alloc (orO o)).cell? ⟨wr.heap.size, 2, none⟩ = some (.int .i64 o.E1) ∧ (wr.alloc (orO o)).cell? ⟨wr.heap.size, 3, none⟩ = some (.int .i64 o.E2) ∧ (wr.alloc (orO o)).cell? ⟨wr.heap.size, 4, none⟩ = some (.slice o.A o.na o.ca) ∧ (wr.alloc (orO o)).cell? ⟨wr.heap.size, 5, none⟩ = some (.int .i64 o.C) ∧ (wr.alloc (orO o)).cell? ⟨wr.heap.size, 6, none⟩ = some (.slice o.Z o.nz o.cz) ∧ (wr.alloc (orO o)).cell? ⟨wr.heap.size, 7, none⟩ = some (.slice o.L o.np o.cp) ∧ (wr.alloc (orO o)).cell? ⟨wr.heap.size, 8, none⟩ = some (.int .i64 o.key) := ⟨allocs_cell rfl (by rfl), allocs_cell rfl (by rfl), allocs_cell rfl (by rfl), allocs_cell rfl (by rfl), allocs_cell rfl (by rfl), allocs_cell rfl (by rfl), allocs_cell rfl (by rfl), allocs_cell rfl (by rfl), allocs_cell rfl (by rfl)⟩
              have HC2 := Lib.hid hc
              clear hq
              obtain ⟨zc0x, zc1x⟩ := kC.out _ HB_2
              obtain ⟨zq0, zq1, zq2, zq3, zq4, zq5, zq6, zq7, zq8⟩ := hc
              go_wp2_with fail
              obtain ⟨w2, hw⟩ : ∃ x, (wr.alloc (orO o)) = x := ⟨_, rfl⟩
              rw [hw] at HC2 HB_2 HB_wr_2 ⊢
              have HSN2 : Hid (w2.heap.size = wr.heap.size + 1) := Lib.hid (by rw [← hw]; simp)
              clear zc0 zc1 zc0x zc1x zq0 zq1 zq2 zq3 zq4 zq5 zq6 zq7 zq8
              clear hw
              have HB_w2_2 : Hid (Below w2.heap.size w2 w2) := Lib.hid (Below.refl _ _)
              have kS := Lib.hid (show ∀ u : World, Hid (Below w2.heap.size w2 u) → u.cell? ⟨wr.heap.size, 0, none⟩ = some (.int .i64 o.num) ∧ u.cell? ⟨wr.heap.size, 1, none⟩ = some (.string o.rs) ∧ u.cell? ⟨wr.heap.size, 2, none⟩ = some (.int .i64 o.E1) ∧ u.cell? ⟨wr.heap.size, 3, none⟩ = some (.int .i64 o.E2) ∧ u.cell? ⟨wr.heap.size, 4, none⟩ = some (.slice o.A o.na o.ca) ∧ u.cell? ⟨wr.heap.size, 5, none⟩ = some (.int .i64 o.C) ∧ u.cell? ⟨wr.heap.size, 6, none⟩ = some (.slice o.Z o.nz o.cz) ∧ u.cell? ⟨wr.heap.size, 7, none⟩ = some (.slice o.L o.np o.cp) ∧ u.cell? ⟨wr.heap.size, 8, none⟩ = some (.int .i64 o.key) from fun u h => ⟨cell_below HC2.out.1 h.out, cell_below HC2.out.2.1 h.out, cell_below HC2.out.2.2.1 h.out, cell_below HC2.out.2.2.2.1 h.out, cell_below HC2.out.2.2.2.2.1 h.out, cell_below HC2.out.2.2.2.2.2.1 h.out, cell_below HC2.out.2.2.2.2.2.2.1 h.out, cell_below HC2.out.2.2.2.2.2.2.2.1 h.out, cell_below HC2.out.2.2.2.2.2.2.2.2 h.out⟩)
              obtain ⟨zc0, zc1⟩ := kC.out _ HB_2
              obtain ⟨kS_0, kS_1, kS_2, kS_3, kS_4, kS_5, kS_6, kS_7, kS_8⟩ := kS.out _ HB_w2_2
              clear j0 j1 j2 j3 j4 j5 j6 j7 j8
              clear zc0 zc1 kS_0 kS_1 kS_2 kS_3 kS_4 kS_5 kS_6 kS_7 kS_8
              obtain ⟨zc0, zc1⟩ := kC.out _ HB_2
              obtain ⟨kS_0, kS_1, kS_2, kS_3, kS_4, kS_5, kS_6, kS_7, kS_8⟩ := kS.out _ HB_w2_2
              go_wp2_with fail
              refine (rorder_any o true HOB _ (kOo.out _ HB_wr_2)).mono ?_
              rintro e w3 ⟨rfl, hb0⟩
              have HB_3 := Lib.hid (below_ext HB_2.out hb0)
              have HB_wr_3 := Lib.hid (below_ext HB_wr_2.out hb0)
              have HB_w2_3 := Lib.hid (below_ext HB_w2_2.out hb0)
              clear zc0 zc1 kS_0 kS_1 kS_2 kS_3 kS_4 kS_5 kS_6 kS_7 kS_8
              clear hb0
              obtain ⟨zc0, zc1⟩ := kC.out _ HB_3
              obtain ⟨kS_0, kS_1, kS_2, kS_3, kS_4, kS_5, kS_6, kS_7, kS_8⟩ := kS.out _ HB_w2_3
              have HBk := (kBK.out _ HB_wr_3)
              go_wp2_with ((with_reducible show wpList _ _ _ (⟨some 46, _, _, _, _, _⟩ :: _) _ _); refine wpList_load_row rfl 43 _ rfl B rfl _ _ _ _ HBk.out Tryd.underlying43 rfl (hash_info HL.out) ?_)
              refine (rlink_any h HL HBY o HOI (ordS_of HOB.out HOK.out) _ (kD.out _ HB_3) (kOo.out _ HB_wr_3)).mono ?_
              rintro e w4 ⟨rfl, hb0⟩
              rw [HRR.1]
              have HB_4 := Lib.hid (below_ext HB_3.out hb0)
              have HB_wr_4 := Lib.hid (below_ext HB_wr_3.out hb0)
              have HB_w2_4 := Lib.hid (below_ext HB_w2_3.out hb0)
              clear zc0 zc1 kS_0 kS_1 kS_2 kS_3 kS_4 kS_5 kS_6 kS_7 kS_8
              clear hb0
              obtain ⟨zc0, zc1⟩ := kC.out _ HB_4
              obtain ⟨kS_0, kS_1, kS_2, kS_3, kS_4, kS_5, kS_6, kS_7, kS_8⟩ := kS.out _ HB_w2_4
              have HBk2 := (kBK.out _ HB_wr_4)
              obtain ⟨wz, hwz⟩ : ∃ x, w4.setRow B (arr .u8 RR) = x := ⟨_, rfl⟩
              have HBzB : Hid (Below B W wz) := Lib.hid (by rw [← hwz]; exact below_setRow' (HBr.out.trans (HB_wr_4.out.mono (by have := HBr.out.size; have := HSB.out.1; omega))) (Nat.le_refl _))
              have HBz0 : Hid (Below w0.heap.size w0 wz) := Lib.hid (HBX.out.trans (HBzB.out.mono HSB.out.2))
              have HBKz : Hid (Blk .u8 43 wz B RR) := Lib.hid (by rw [← hwz]; exact HBk2.out.setRow)
              go_upto_region 14 with ((with_reducible show wpList _ _ _ (⟨none, _, _, _, _, _⟩ :: _) _ _); refine wpList_store_row rfl 43 _ _ rfl B (arr .u8 RR) rfl rfl _ _ HBk2.out (hash_info HRL.out) (arrs_sz HL.out HRL.out) (arr_one _) ?_)
              clear zc0 zc1 kS_0 kS_1 kS_2 kS_3 kS_4 kS_5 kS_6 kS_7 kS_8
              rw [hwz]
              clear hwz
              have hSz := Lib.hid (show ∀ u : World, Below wz.heap.size wz u → (u.cell? ⟨w.heap.size, 0, none⟩ = some (.slice (some ⟨b, f, none⟩) n c) ∧ u.cell? ⟨w.heap.size, 1, none⟩ = some (.slice K m d) ∧ Hid (Below wz.heap.size wz u)) from fun u h9 => by
                obtain ⟨y0, y1⟩ := kC.out _ HBz0
                exact ⟨cell_below y0 h9, cell_below y1 h9, Lib.hid h9⟩)
              refine wp_region_T (S := fun w' => w'.cell? ⟨w.heap.size, 0, none⟩ = some (.slice (some ⟨b, f, none⟩) n c) ∧ w'.cell? ⟨w.heap.size, 1, none⟩ = some (.slice K m d) ∧ Hid (Below wz.heap.size wz w')) (E := []) (by kernel_rfl) (hSz.out _ ((Below.refl _ _).drew)) (fun hHeld => ?_)
              refine tkV 0 ?_
              try simp only [qq1, qq2, qq3, Act.put, qq4, qq5, qq6]
              refine tkV 1 ?_
              try simp only [qq1, qq2, qq3, Act.put, qq4, qq5, qq6]
              refine tkV 2 ?_
              try simp only [qq1, qq2, qq3, Act.put, qq4, qq5, qq6]
              refine tkV 3 ?_
              try simp only [qq1, qq2, qq3, Act.put, qq4, qq5, qq6]
              refine tkV 4 ?_
              try simp only [qq1, qq2, qq3, Act.put, qq4, qq5, qq6]
              refine tkV 5 ?_
              try simp only [qq1, qq2, qq3, Act.put, qq4, qq5, qq6]
              refine tkU 6 ?_
              try simp only [qq1, qq2, qq3, Act.put, qq4, qq5, qq6]
              refine tkU 7 ?_
              try simp only [qq1, qq2, qq3, Act.put, qq4, qq5, qq6]
              refine tkU 8 ?_
              try simp only [qq1, qq2, qq3, Act.put, qq4, qq5, qq6]
              refine tkU 9 ?_
              try simp only [qq1, qq2, qq3, Act.put, qq4, qq5, qq6]
              refine tkU 10 ?_
              try simp only [qq1, qq2, qq3, Act.put, qq4, qq5, qq6]
              refine tkU 11 ?_
              try simp only [qq1, qq2, qq3, Act.put, qq4, qq5, qq6]
              refine tkU 12 ?_
              try simp only [qq1, qq2, qq3, Act.put, qq4, qq5, qq6]
              refine tkV 13 ?_
              try simp only [qq1, qq2, qq3, Act.put, qq4, qq5, qq6]
              refine wpT_done (by kernel_rfl) ?_ _
              have HBd := hHeld.2.2
              have HB9 : Hid (Below B W wz.drew) := Lib.hid (HBzB.out.trans (HBd.out.mono (by have := HBzB.out.size; have := HSB.out.1; omega)))
              have hbF := below_ext HBw.out (HBX.out.trans (HB9.out.mono HSB.out.2))
              clear hHeld HBd
              go_wp2
              go_ret
              exact ⟨rfl, hbF⟩
            · skip
              cases hrq : (hsL hs k == lnk h o) with
              | true =>
                have HOB := Lib.hid hob
                have dn1 : (o.num != (k : Int)) = false := by simpa using hnum
                have dk1 : (o.key == 0) = false := by simpa using hkey
                obtain ⟨RR, hRR⟩ : ∃ x, lnk h o = x := ⟨_, rfl⟩
                have HRR : Kp (lnk h o = RR) := ⟨hRR⟩
                have HRL : Hid (RR.length = 32) := Lib.hid (by rw [← hRR]; exact lnk_len _ _)
                clear hRR
                have HH2 : Kp (hbL os (k + 1) = RR) := ⟨by rw [hbL, HPP.out, if_neg hkey, HHB.1]; exact HRR.1⟩
                have dm1 : decide ((m : Int) ≤ (k : Int)) = false := by simp; omega
                have hkm2 : k < m := by omega
                obtain ⟨b2, f2, hA2, hl2, hrg2⟩ := (kHs.out _ HBr0).out k (by rw [hm.out]; omega)
                subst hA2
                obtain ⟨hk9, hhk⟩ : ∃ x, hsL hs k = x := ⟨_, rfl⟩
                rw [hhk] at hl2 hrg2
                have HL2 := Lib.hid hl2
                have HRG := Lib.hid hrg2
                have HHK := Lib.hid hhk
                have hhk9 := hhk
                clear hl2 hrg2 hhk
                rw [hhk9, HRR.1] at hrq
                have hbq : (!(hk9 == RR)) = false := by rw [hrq]; rfl
                have HS2 : Hid (trS os hs n (k + 1) = true) := Lib.hid (by rw [trS, HST.out, trR, HPP.out, HH2.1, HHK.out]; simp [hob, hm.out, hrq, hkey, hnum]; omega)
                have HCN : Hid (clN os (k + 1) = k + 1) := Lib.hid (by simp [clN, HPP.out, hkey, HCL.out])
                clear hob hkey hnum hrq hhk9
                have HB_wr_1 : Hid (Below wr.heap.size wr wr) := Lib.hid (Below.refl _ _)
                have kOo := Lib.hid (show ∀ u : World, Hid (Below wr.heap.size wr u) → Hid (OrdOk u o) from fun u h => Lib.hid (HOK.out.below h.out))
                have kBK := Lib.hid (show ∀ u : World, Hid (Below wr.heap.size wr u) → Hid (Blk .u8 43 u B h) from fun u h9 => Lib.hid (HBK.out.below h9.out))
                obtain ⟨zc0, zc1⟩ := kC.out _ HBr0
                have hq := below_box0 wr (orO o)
                have HB_2 := Lib.hid (below_ext HBr0.out hq)
                have HB_wr_2 := Lib.hid (below_ext HB_wr_1.out hq)
                have hc : (wr.alloc (orO o)).cell? ⟨wr.heap.size, 0, none⟩ = some (.int .i64 o.num) ∧ (wr.alloc (orO o)).cell? ⟨wr.heap.size, 1, none⟩ = some (.string o.rs) ∧ (wr.alloc (orO o)).cell? ⟨wr.heap.size, 2, none⟩ = some (.int .i64 o.E1) ∧ (wr.alloc (orO o)).cell? ⟨wr.heap.size, 3, none⟩ = some (.int .i64 o.E2) ∧ (wr.alloc (orO o)).cell? ⟨wr.heap.size, 4, none⟩ = some (.slice o.A o.na o.ca) ∧ (wr.alloc (orO o)).cell? ⟨wr.heap.size, 5, none⟩ = some (.int .i64 o.C) ∧ (wr.alloc (orO o)).cell? ⟨wr.heap.size, 6, none⟩ = some (.slice o.Z o.nz o.cz) ∧ (wr.alloc (orO o)).cell? ⟨wr.heap.size, 7, none⟩ = some (.slice o.L o.np o.cp) ∧ (wr.alloc (orO o)).cell? ⟨wr.heap.size, 8, none⟩ = some (.int .i64 o.key) := ⟨allocs_cell rfl (by rfl), allocs_cell rfl (by rfl), allocs_cell rfl (by rfl), allocs_cell rfl (by rfl), allocs_cell rfl (by rfl), allocs_cell rfl (by rfl), allocs_cell rfl (by rfl), allocs_cell rfl (by rfl), allocs_cell rfl (by rfl)⟩
                have HC2 := Lib.hid hc
                clear hq
                obtain ⟨zc0x, zc1x⟩ := kC.out _ HB_2
                obtain ⟨zq0, zq1, zq2, zq3, zq4, zq5, zq6, zq7, zq8⟩ := hc
                go_wp2_with fail
                obtain ⟨w2, hw⟩ : ∃ x, (wr.alloc (orO o)) = x := ⟨_, rfl⟩
                rw [hw] at HC2 HB_2 HB_wr_2 ⊢
                have HSN2 : Hid (w2.heap.size = wr.heap.size + 1) := Lib.hid (by rw [← hw]; simp)
                clear zc0 zc1 zc0x zc1x zq0 zq1 zq2 zq3 zq4 zq5 zq6 zq7 zq8
                clear hw
                have HB_w2_2 : Hid (Below w2.heap.size w2 w2) := Lib.hid (Below.refl _ _)
                have kS := Lib.hid (show ∀ u : World, Hid (Below w2.heap.size w2 u) → u.cell? ⟨wr.heap.size, 0, none⟩ = some (.int .i64 o.num) ∧ u.cell? ⟨wr.heap.size, 1, none⟩ = some (.string o.rs) ∧ u.cell? ⟨wr.heap.size, 2, none⟩ = some (.int .i64 o.E1) ∧ u.cell? ⟨wr.heap.size, 3, none⟩ = some (.int .i64 o.E2) ∧ u.cell? ⟨wr.heap.size, 4, none⟩ = some (.slice o.A o.na o.ca) ∧ u.cell? ⟨wr.heap.size, 5, none⟩ = some (.int .i64 o.C) ∧ u.cell? ⟨wr.heap.size, 6, none⟩ = some (.slice o.Z o.nz o.cz) ∧ u.cell? ⟨wr.heap.size, 7, none⟩ = some (.slice o.L o.np o.cp) ∧ u.cell? ⟨wr.heap.size, 8, none⟩ = some (.int .i64 o.key) from fun u h => ⟨cell_below HC2.out.1 h.out, cell_below HC2.out.2.1 h.out, cell_below HC2.out.2.2.1 h.out, cell_below HC2.out.2.2.2.1 h.out, cell_below HC2.out.2.2.2.2.1 h.out, cell_below HC2.out.2.2.2.2.2.1 h.out, cell_below HC2.out.2.2.2.2.2.2.1 h.out, cell_below HC2.out.2.2.2.2.2.2.2.1 h.out, cell_below HC2.out.2.2.2.2.2.2.2.2 h.out⟩)
                obtain ⟨zc0, zc1⟩ := kC.out _ HB_2
                obtain ⟨kS_0, kS_1, kS_2, kS_3, kS_4, kS_5, kS_6, kS_7, kS_8⟩ := kS.out _ HB_w2_2
                clear j0 j1 j2 j3 j4 j5 j6 j7 j8
                clear zc0 zc1 kS_0 kS_1 kS_2 kS_3 kS_4 kS_5 kS_6 kS_7 kS_8
                obtain ⟨zc0, zc1⟩ := kC.out _ HB_2
                obtain ⟨kS_0, kS_1, kS_2, kS_3, kS_4, kS_5, kS_6, kS_7, kS_8⟩ := kS.out _ HB_w2_2
                go_wp2_with fail
                refine (rorder_any o true HOB _ (kOo.out _ HB_wr_2)).mono ?_
                rintro e w3 ⟨rfl, hb0⟩
                have HB_3 := Lib.hid (below_ext HB_2.out hb0)
                have HB_wr_3 := Lib.hid (below_ext HB_wr_2.out hb0)
                have HB_w2_3 := Lib.hid (below_ext HB_w2_2.out hb0)
                clear zc0 zc1 kS_0 kS_1 kS_2 kS_3 kS_4 kS_5 kS_6 kS_7 kS_8
                clear hb0
                obtain ⟨zc0, zc1⟩ := kC.out _ HB_3
                obtain ⟨kS_0, kS_1, kS_2, kS_3, kS_4, kS_5, kS_6, kS_7, kS_8⟩ := kS.out _ HB_w2_3
                have HBk := (kBK.out _ HB_wr_3)
                go_wp2_with ((with_reducible show wpList _ _ _ (⟨some 46, _, _, _, _, _⟩ :: _) _ _); refine wpList_load_row rfl 43 _ rfl B rfl _ _ _ _ HBk.out Tryd.underlying43 rfl (hash_info HL.out) ?_)
                refine (rlink_any h HL HBY o HOI (ordS_of HOB.out HOK.out) _ (kD.out _ HB_3) (kOo.out _ HB_wr_3)).mono ?_
                rintro e w4 ⟨rfl, hb0⟩
                rw [HRR.1]
                have HB_4 := Lib.hid (below_ext HB_3.out hb0)
                have HB_wr_4 := Lib.hid (below_ext HB_wr_3.out hb0)
                have HB_w2_4 := Lib.hid (below_ext HB_w2_3.out hb0)
                clear zc0 zc1 kS_0 kS_1 kS_2 kS_3 kS_4 kS_5 kS_6 kS_7 kS_8
                clear hb0
                obtain ⟨zc0, zc1⟩ := kC.out _ HB_4
                obtain ⟨kS_0, kS_1, kS_2, kS_3, kS_4, kS_5, kS_6, kS_7, kS_8⟩ := kS.out _ HB_w2_4
                have HBk2 := (kBK.out _ HB_wr_4)
                obtain ⟨wz, hwz⟩ : ∃ x, w4.setRow B (arr .u8 RR) = x := ⟨_, rfl⟩
                have HBzB : Hid (Below B W wz) := Lib.hid (by rw [← hwz]; exact below_setRow' (HBr.out.trans (HB_wr_4.out.mono (by have := HBr.out.size; have := HSB.out.1; omega))) (Nat.le_refl _))
                have HBz0 : Hid (Below w0.heap.size w0 wz) := Lib.hid (HBX.out.trans (HBzB.out.mono HSB.out.2))
                have HBKz : Hid (Blk .u8 43 wz B RR) := Lib.hid (by rw [← hwz]; exact HBk2.out.setRow)
                go_upto_region 14 with ((with_reducible show wpList _ _ _ (⟨none, _, _, _, _, _⟩ :: _) _ _); refine wpList_store_row rfl 43 _ _ rfl B (arr .u8 RR) rfl rfl _ _ HBk2.out (hash_info HRL.out) (arrs_sz HL.out HRL.out) (arr_one _) ?_)
                clear zc0 zc1 kS_0 kS_1 kS_2 kS_3 kS_4 kS_5 kS_6 kS_7 kS_8
                rw [hwz]
                clear hwz
                have hSz := Lib.hid (show ∀ u : World, Below wz.heap.size wz u → (u.cell? ⟨w.heap.size, 0, none⟩ = some (.slice (some ⟨b, f, none⟩) n c) ∧ u.cell? ⟨w.heap.size, 1, none⟩ = some (.slice (some ⟨b2, f2, none⟩) m d) ∧ Hid (Below wz.heap.size wz u)) from fun u h9 => by
                  obtain ⟨y0, y1⟩ := kC.out _ HBz0
                  exact ⟨cell_below y0 h9, cell_below y1 h9, Lib.hid h9⟩)
                have HHz : Hid (wz.rangeAt b2 (f2 + k * 32) (hk9.map (Value.int .u8))) := Lib.hid (by
                  obtain ⟨b3, f3, e3, _, hr3⟩ := ((kHs.out _ HBz0)).out k (by rw [hm.out]; omega)
                  cases e3
                  rwa [HHK.out] at hr3)
                refine wp_region_T (S := fun w' => w'.cell? ⟨w.heap.size, 0, none⟩ = some (.slice (some ⟨b, f, none⟩) n c) ∧ w'.cell? ⟨w.heap.size, 1, none⟩ = some (.slice (some ⟨b2, f2, none⟩) m d) ∧ Hid (Below wz.heap.size wz w')) (E := []) (by kernel_rfl) (hSz.out _ ((Below.refl _ _).drew)) (fun hHeld => ?_)
                refine tkV 0 ?_
                try simp only [qq1, qq2, qq3, Act.put, qq4, qq5, qq6]
                refine tkV 1 ?_
                try simp only [qq1, qq2, qq3, Act.put, qq4, qq5, qq6]
                refine tkV 2 ?_
                try simp only [qq1, qq2, qq3, Act.put, qq4, qq5, qq6]
                refine tkV 3 ?_
                try simp only [qq1, qq2, qq3, Act.put, qq4, qq5, qq6]
                refine tkV 4 ?_
                try simp only [qq1, qq2, qq3, Act.put, qq4, qq5, qq6]
                refine tkV 5 ?_
                try simp only [qq1, qq2, qq3, Act.put, qq4, qq5, qq6]
                refine tkV 6 ?_
                try simp only [qq1, qq2, qq3, Act.put, qq4, qq5, qq6]
                refine tkV 7 ?_
                try simp only [qq1, qq2, qq3, Act.put, qq4, qq5, qq6]
                refine tkV 8 ?_
                try simp only [qq1, qq2, qq3, Act.put, qq4, qq5, qq6]
                refine tkV 9 ?_
                try simp only [qq1, qq2, qq3, Act.put, qq4, qq5, qq6]
                refine wpT_take (i := 10) (oi := _) (v := (.agg (arr .u8 hk9))) rfl (by kernel_rfl) (by kernel_rfl) (by kernel_rfl) (by kernel_rfl) (fun _ _ _ h => h) (Or.inl ⟨by rfl, yields_mid 43 _ rfl b2 (f2 + k * 32) rfl (hk9.map (Value.int .u8)) _ (fun _ hq => rangeAt_below HHz.out hq.2.2.out) Tryd.underlying43 rfl (map_size HL2.out)⟩) (by assumption) ?_
                try simp only [qq1, qq2, qq3, Act.put, qq4, qq5, qq6]
                refine wpT_take (i := 11) (oi := _) (v := (.agg (arr .u8 RR))) rfl (by kernel_rfl) (by kernel_rfl) (by kernel_rfl) (by kernel_rfl) (fun _ _ _ h => h) (Or.inl ⟨by rfl, yields_row 43 _ rfl B rfl _ _ _ _ (fun _ hq => HBKz.out.below hq.2.2.out) Tryd.underlying43 rfl (hash_info HRL.out)⟩) (by assumption) ?_
                try simp only [qq1, qq2, qq3, Act.put, qq4, qq5, qq6]
                refine wpT_take (i := 12) (oi := _) (v := (.bool false)) rfl (by kernel_rfl) (by kernel_rfl) (by kernel_rfl) (by kernel_rfl) (fun _ _ _ h => h) (Or.inl ⟨by rfl, yields_neq_hash _ _ _ rfl hk9 RR HL2.out HRL.out rfl rfl _ hbq⟩) (by assumption) ?_
                try simp only [qq1, qq2, qq3, Act.put, qq4, qq5, qq6]
                refine tkV 13 ?_
                try simp only [qq1, qq2, qq3, Act.put, qq4, qq5, qq6]
                refine wpT_done (by kernel_rfl) ?_ _
                have HBd := hHeld.2.2
                have HB9 : Hid (Below B W wz.drew) := Lib.hid (HBzB.out.trans (HBd.out.mono (by have := HBzB.out.size; have := HSB.out.1; omega)))
                have HK9 : Hid (Blk .u8 43 wz.drew B RR) := Lib.hid (HBKz.out.below HBd.out)
                clear hHeld HBd
                go_wp2
                go_roundw
                case rel => exact ⟨k + 1, RR, by omega, by go_num, by rw [HCN.out]; go_num, HS2, HH2, HK9, HB9⟩
                case measure => simp [intOf]; omega
              | false =>
                have HOB := Lib.hid hob
                have dn1 : (o.num != (k : Int)) = false := by simpa using hnum
                have dk1 : (o.key == 0) = false := by simpa using hkey
                obtain ⟨RR, hRR⟩ : ∃ x, lnk h o = x := ⟨_, rfl⟩
                have HRR : Kp (lnk h o = RR) := ⟨hRR⟩
                have HRL : Hid (RR.length = 32) := Lib.hid (by rw [← hRR]; exact lnk_len _ _)
                clear hRR
                have HH2 : Kp (hbL os (k + 1) = RR) := ⟨by rw [hbL, HPP.out, if_neg hkey, HHB.1]; exact HRR.1⟩
                have dm1 : decide ((m : Int) ≤ (k : Int)) = false := by simp; omega
                have hkm2 : k < m := by omega
                obtain ⟨b2, f2, hA2, hl2, hrg2⟩ := (kHs.out _ HBr0).out k (by rw [hm.out]; omega)
                subst hA2
                obtain ⟨hk9, hhk⟩ : ∃ x, hsL hs k = x := ⟨_, rfl⟩
                rw [hhk] at hl2 hrg2
                have HL2 := Lib.hid hl2
                have HRG := Lib.hid hrg2
                have HHK := Lib.hid hhk
                have hhk9 := hhk
                clear hl2 hrg2 hhk
                rw [hhk9, HRR.1] at hrq
                have hbq : (!(hk9 == RR)) = true := by rw [hrq]; rfl
                obtain rfl : r = false := hr.1.symm.trans (trl_hit hn.out hlt (by rw [trR, HPP.out]; simp [hob, hkey, hnum, hm.out, HHK.out, HH2.1, hrq]))
                clear hob hkey hnum hrq hhk9
                have HB_wr_1 : Hid (Below wr.heap.size wr wr) := Lib.hid (Below.refl _ _)
                have kOo := Lib.hid (show ∀ u : World, Hid (Below wr.heap.size wr u) → Hid (OrdOk u o) from fun u h => Lib.hid (HOK.out.below h.out))
                have kBK := Lib.hid (show ∀ u : World, Hid (Below wr.heap.size wr u) → Hid (Blk .u8 43 u B h) from fun u h9 => Lib.hid (HBK.out.below h9.out))
                obtain ⟨zc0, zc1⟩ := kC.out _ HBr0
                have hq := below_box0 wr (orO o)
                have HB_2 := Lib.hid (below_ext HBr0.out hq)
                have HB_wr_2 := Lib.hid (below_ext HB_wr_1.out hq)
                have hc : (wr.alloc (orO o)).cell? ⟨wr.heap.size, 0, none⟩ = some (.int .i64 o.num) ∧ (wr.alloc (orO o)).cell? ⟨wr.heap.size, 1, none⟩ = some (.string o.rs) ∧ (wr.alloc (orO o)).cell? ⟨wr.heap.size, 2, none⟩ = some (.int .i64 o.E1) ∧ (wr.alloc (orO o)).cell? ⟨wr.heap.size, 3, none⟩ = some (.int .i64 o.E2) ∧ (wr.alloc (orO o)).cell? ⟨wr.heap.size, 4, none⟩ = some (.slice o.A o.na o.ca) ∧ (wr.alloc (orO o)).cell? ⟨wr.heap.size, 5, none⟩ = some (.int .i64 o.C) ∧ (wr.alloc (orO o)).cell? ⟨wr.heap.size, 6, none⟩ = some (.slice o.Z o.nz o.cz) ∧ (wr.alloc (orO o)).cell? ⟨wr.heap.size, 7, none⟩ = some (.slice o.L o.np o.cp) ∧ (wr.alloc (orO o)).cell? ⟨wr.heap.size, 8, none⟩ = some (.int .i64 o.key) := ⟨allocs_cell rfl (by rfl), allocs_cell rfl (by rfl), allocs_cell rfl (by rfl), allocs_cell rfl (by rfl), allocs_cell rfl (by rfl), allocs_cell rfl (by rfl), allocs_cell rfl (by rfl), allocs_cell rfl (by rfl), allocs_cell rfl (by rfl)⟩
                have HC2 := Lib.hid hc
                clear hq
                obtain ⟨zc0x, zc1x⟩ := kC.out _ HB_2
                obtain ⟨zq0, zq1, zq2, zq3, zq4, zq5, zq6, zq7, zq8⟩ := hc
                go_wp2_with fail
                obtain ⟨w2, hw⟩ : ∃ x, (wr.alloc (orO o)) = x := ⟨_, rfl⟩
                rw [hw] at HC2 HB_2 HB_wr_2 ⊢
                have HSN2 : Hid (w2.heap.size = wr.heap.size + 1) := Lib.hid (by rw [← hw]; simp)
                clear zc0 zc1 zc0x zc1x zq0 zq1 zq2 zq3 zq4 zq5 zq6 zq7 zq8
                clear hw
                have HB_w2_2 : Hid (Below w2.heap.size w2 w2) := Lib.hid (Below.refl _ _)
                have kS := Lib.hid (show ∀ u : World, Hid (Below w2.heap.size w2 u) → u.cell? ⟨wr.heap.size, 0, none⟩ = some (.int .i64 o.num) ∧ u.cell? ⟨wr.heap.size, 1, none⟩ = some (.string o.rs) ∧ u.cell? ⟨wr.heap.size, 2, none⟩ = some (.int .i64 o.E1) ∧ u.cell? ⟨wr.heap.size, 3, none⟩ = some (.int .i64 o.E2) ∧ u.cell? ⟨wr.heap.size, 4, none⟩ = some (.slice o.A o.na o.ca) ∧ u.cell? ⟨wr.heap.size, 5, none⟩ = some (.int .i64 o.C) ∧ u.cell? ⟨wr.heap.size, 6, none⟩ = some (.slice o.Z o.nz o.cz) ∧ u.cell? ⟨wr.heap.size, 7, none⟩ = some (.slice o.L o.np o.cp) ∧ u.cell? ⟨wr.heap.size, 8, none⟩ = some (.int .i64 o.key) from fun u h => ⟨cell_below HC2.out.1 h.out, cell_below HC2.out.2.1 h.out, cell_below HC2.out.2.2.1 h.out, cell_below HC2.out.2.2.2.1 h.out, cell_below HC2.out.2.2.2.2.1 h.out, cell_below HC2.out.2.2.2.2.2.1 h.out, cell_below HC2.out.2.2.2.2.2.2.1 h.out, cell_below HC2.out.2.2.2.2.2.2.2.1 h.out, cell_below HC2.out.2.2.2.2.2.2.2.2 h.out⟩)
                obtain ⟨zc0, zc1⟩ := kC.out _ HB_2
                obtain ⟨kS_0, kS_1, kS_2, kS_3, kS_4, kS_5, kS_6, kS_7, kS_8⟩ := kS.out _ HB_w2_2
                clear j0 j1 j2 j3 j4 j5 j6 j7 j8
                clear zc0 zc1 kS_0 kS_1 kS_2 kS_3 kS_4 kS_5 kS_6 kS_7 kS_8
                obtain ⟨zc0, zc1⟩ := kC.out _ HB_2
                obtain ⟨kS_0, kS_1, kS_2, kS_3, kS_4, kS_5, kS_6, kS_7, kS_8⟩ := kS.out _ HB_w2_2
                go_wp2_with fail
                refine (rorder_any o true HOB _ (kOo.out _ HB_wr_2)).mono ?_
                rintro e w3 ⟨rfl, hb0⟩
                have HB_3 := Lib.hid (below_ext HB_2.out hb0)
                have HB_wr_3 := Lib.hid (below_ext HB_wr_2.out hb0)
                have HB_w2_3 := Lib.hid (below_ext HB_w2_2.out hb0)
                clear zc0 zc1 kS_0 kS_1 kS_2 kS_3 kS_4 kS_5 kS_6 kS_7 kS_8
                clear hb0
                obtain ⟨zc0, zc1⟩ := kC.out _ HB_3
                obtain ⟨kS_0, kS_1, kS_2, kS_3, kS_4, kS_5, kS_6, kS_7, kS_8⟩ := kS.out _ HB_w2_3
                have HBk := (kBK.out _ HB_wr_3)
                go_wp2_with ((with_reducible show wpList _ _ _ (⟨some 46, _, _, _, _, _⟩ :: _) _ _); refine wpList_load_row rfl 43 _ rfl B rfl _ _ _ _ HBk.out Tryd.underlying43 rfl (hash_info HL.out) ?_)
                refine (rlink_any h HL HBY o HOI (ordS_of HOB.out HOK.out) _ (kD.out _ HB_3) (kOo.out _ HB_wr_3)).mono ?_
                rintro e w4 ⟨rfl, hb0⟩
                rw [HRR.1]
                have HB_4 := Lib.hid (below_ext HB_3.out hb0)
                have HB_wr_4 := Lib.hid (below_ext HB_wr_3.out hb0)
                have HB_w2_4 := Lib.hid (below_ext HB_w2_3.out hb0)
                clear zc0 zc1 kS_0 kS_1 kS_2 kS_3 kS_4 kS_5 kS_6 kS_7 kS_8
                clear hb0
                obtain ⟨zc0, zc1⟩ := kC.out _ HB_4
                obtain ⟨kS_0, kS_1, kS_2, kS_3, kS_4, kS_5, kS_6, kS_7, kS_8⟩ := kS.out _ HB_w2_4
                have HBk2 := (kBK.out _ HB_wr_4)
                obtain ⟨wz, hwz⟩ : ∃ x, w4.setRow B (arr .u8 RR) = x := ⟨_, rfl⟩
                have HBzB : Hid (Below B W wz) := Lib.hid (by rw [← hwz]; exact below_setRow' (HBr.out.trans (HB_wr_4.out.mono (by have := HBr.out.size; have := HSB.out.1; omega))) (Nat.le_refl _))
                have HBz0 : Hid (Below w0.heap.size w0 wz) := Lib.hid (HBX.out.trans (HBzB.out.mono HSB.out.2))
                have HBKz : Hid (Blk .u8 43 wz B RR) := Lib.hid (by rw [← hwz]; exact HBk2.out.setRow)
                go_upto_region 14 with ((with_reducible show wpList _ _ _ (⟨none, _, _, _, _, _⟩ :: _) _ _); refine wpList_store_row rfl 43 _ _ rfl B (arr .u8 RR) rfl rfl _ _ HBk2.out (hash_info HRL.out) (arrs_sz HL.out HRL.out) (arr_one _) ?_)
                clear zc0 zc1 kS_0 kS_1 kS_2 kS_3 kS_4 kS_5 kS_6 kS_7 kS_8
                rw [hwz]
                clear hwz
                have hSz := Lib.hid (show ∀ u : World, Below wz.heap.size wz u → (u.cell? ⟨w.heap.size, 0, none⟩ = some (.slice (some ⟨b, f, none⟩) n c) ∧ u.cell? ⟨w.heap.size, 1, none⟩ = some (.slice (some ⟨b2, f2, none⟩) m d) ∧ Hid (Below wz.heap.size wz u)) from fun u h9 => by
                  obtain ⟨y0, y1⟩ := kC.out _ HBz0
                  exact ⟨cell_below y0 h9, cell_below y1 h9, Lib.hid h9⟩)
                have HHz : Hid (wz.rangeAt b2 (f2 + k * 32) (hk9.map (Value.int .u8))) := Lib.hid (by
                  obtain ⟨b3, f3, e3, _, hr3⟩ := ((kHs.out _ HBz0)).out k (by rw [hm.out]; omega)
                  cases e3
                  rwa [HHK.out] at hr3)
                refine wp_region_T (S := fun w' => w'.cell? ⟨w.heap.size, 0, none⟩ = some (.slice (some ⟨b, f, none⟩) n c) ∧ w'.cell? ⟨w.heap.size, 1, none⟩ = some (.slice (some ⟨b2, f2, none⟩) m d) ∧ Hid (Below wz.heap.size wz w')) (E := []) (by kernel_rfl) (hSz.out _ ((Below.refl _ _).drew)) (fun hHeld => ?_)
                refine tkV 0 ?_
                try simp only [qq1, qq2, qq3, Act.put, qq4, qq5, qq6]
                refine tkV 1 ?_
                try simp only [qq1, qq2, qq3, Act.put, qq4, qq5, qq6]
                refine tkV 2 ?_
                try simp only [qq1, qq2, qq3, Act.put, qq4, qq5, qq6]
                refine tkV 3 ?_
                try simp only [qq1, qq2, qq3, Act.put, qq4, qq5, qq6]
                refine tkV 4 ?_
                try simp only [qq1, qq2, qq3, Act.put, qq4, qq5, qq6]
                refine tkV 5 ?_
                try simp only [qq1, qq2, qq3, Act.put, qq4, qq5, qq6]
                refine tkV 6 ?_
                try simp only [qq1, qq2, qq3, Act.put, qq4, qq5, qq6]
                refine tkV 7 ?_
                try simp only [qq1, qq2, qq3, Act.put, qq4, qq5, qq6]
                refine tkV 8 ?_
                try simp only [qq1, qq2, qq3, Act.put, qq4, qq5, qq6]
                refine tkV 9 ?_
                try simp only [qq1, qq2, qq3, Act.put, qq4, qq5, qq6]
                refine wpT_take (i := 10) (oi := _) (v := (.agg (arr .u8 hk9))) rfl (by kernel_rfl) (by kernel_rfl) (by kernel_rfl) (by kernel_rfl) (fun _ _ _ h => h) (Or.inl ⟨by rfl, yields_mid 43 _ rfl b2 (f2 + k * 32) rfl (hk9.map (Value.int .u8)) _ (fun _ hq => rangeAt_below HHz.out hq.2.2.out) Tryd.underlying43 rfl (map_size HL2.out)⟩) (by assumption) ?_
                try simp only [qq1, qq2, qq3, Act.put, qq4, qq5, qq6]
                refine wpT_take (i := 11) (oi := _) (v := (.agg (arr .u8 RR))) rfl (by kernel_rfl) (by kernel_rfl) (by kernel_rfl) (by kernel_rfl) (fun _ _ _ h => h) (Or.inl ⟨by rfl, yields_row 43 _ rfl B rfl _ _ _ _ (fun _ hq => HBKz.out.below hq.2.2.out) Tryd.underlying43 rfl (hash_info HRL.out)⟩) (by assumption) ?_
                try simp only [qq1, qq2, qq3, Act.put, qq4, qq5, qq6]
                refine wpT_take (i := 12) (oi := _) (v := (.bool true)) rfl (by kernel_rfl) (by kernel_rfl) (by kernel_rfl) (by kernel_rfl) (fun _ _ _ h => h) (Or.inl ⟨by rfl, yields_neq_hash _ _ _ rfl hk9 RR HL2.out HRL.out rfl rfl _ hbq⟩) (by assumption) ?_
                try simp only [qq1, qq2, qq3, Act.put, qq4, qq5, qq6]
                refine tkV 13 ?_
                try simp only [qq1, qq2, qq3, Act.put, qq4, qq5, qq6]
                refine wpT_done (by kernel_rfl) ?_ _
                have HBd := hHeld.2.2
                have HB9 : Hid (Below B W wz.drew) := Lib.hid (HBzB.out.trans (HBd.out.mono (by have := HBzB.out.size; have := HSB.out.1; omega)))
                have hbF := below_ext HBw.out (HBX.out.trans (HB9.out.mono HSB.out.2))
                clear hHeld HBd
                go_wp2
                go_ret
                exact ⟨rfl, hbF⟩
        · skip
          have HOB := Lib.hid hob
          have dn1 : (o.num != (k : Int)) = true := by simpa using hnum
          obtain rfl : r = false := hr.1.symm.trans (trl_hit hn.out hlt (by rw [trR, HPP.out]; simp [hob, hnum]))
          clear hob hnum
          have HB_wr_1 : Hid (Below wr.heap.size wr wr) := Lib.hid (Below.refl _ _)
          have kOo := Lib.hid (show ∀ u : World, Hid (Below wr.heap.size wr u) → Hid (OrdOk u o) from fun u h => Lib.hid (HOK.out.below h.out))
          have kBK := Lib.hid (show ∀ u : World, Hid (Below wr.heap.size wr u) → Hid (Blk .u8 43 u B h) from fun u h9 => Lib.hid (HBK.out.below h9.out))
          obtain ⟨zc0, zc1⟩ := kC.out _ HBr0
          have hq := below_box0 wr (orO o)
          have HB_2 := Lib.hid (below_ext HBr0.out hq)
          have HB_wr_2 := Lib.hid (below_ext HB_wr_1.out hq)
          have hc : (wr.alloc (orO o)).cell? ⟨wr.heap.size, 0, none⟩ = some (.int .i64 o.num) ∧ (wr.alloc (orO o)).cell? ⟨wr.heap.size, 1, none⟩ = some (.string o.rs) ∧ (wr.alloc (orO o)).cell? ⟨wr.heap.size, 2, none⟩ = some (.int .i64 o.E1) ∧ (wr.alloc (orO o)).cell? ⟨wr.heap.size, 3, none⟩ = some (.int .i64 o.E2) ∧ (wr.alloc (orO o)).cell? ⟨wr.heap.size, 4, none⟩ = some (.slice o.A o.na o.ca) ∧ (wr.alloc (orO o)).cell? ⟨wr.heap.size, 5, none⟩ = some (.int .i64 o.C) ∧ (wr.alloc (orO o)).cell? ⟨wr.heap.size, 6, none⟩ = some (.slice o.Z o.nz o.cz) ∧ (wr.alloc (orO o)).cell? ⟨wr.heap.size, 7, none⟩ = some (.slice o.L o.np o.cp) ∧ (wr.alloc (orO o)).cell? ⟨wr.heap.size, 8, none⟩ = some (.int .i64 o.key) := ⟨allocs_cell rfl (by rfl), allocs_cell rfl (by rfl), allocs_cell rfl (by rfl), allocs_cell rfl (by rfl), allocs_cell rfl (by rfl), allocs_cell rfl (by rfl), allocs_cell rfl (by rfl), allocs_cell rfl (by rfl), allocs_cell rfl (by rfl)⟩
          have HC2 := Lib.hid hc
          clear hq
          obtain ⟨zc0x, zc1x⟩ := kC.out _ HB_2
          obtain ⟨zq0, zq1, zq2, zq3, zq4, zq5, zq6, zq7, zq8⟩ := hc
          go_wp2_with fail
          obtain ⟨w2, hw⟩ : ∃ x, (wr.alloc (orO o)) = x := ⟨_, rfl⟩
          rw [hw] at HC2 HB_2 HB_wr_2 ⊢
          have HSN2 : Hid (w2.heap.size = wr.heap.size + 1) := Lib.hid (by rw [← hw]; simp)
          clear zc0 zc1 zc0x zc1x zq0 zq1 zq2 zq3 zq4 zq5 zq6 zq7 zq8
          clear hw
          have HB_w2_2 : Hid (Below w2.heap.size w2 w2) := Lib.hid (Below.refl _ _)
          have kS := Lib.hid (show ∀ u : World, Hid (Below w2.heap.size w2 u) → u.cell? ⟨wr.heap.size, 0, none⟩ = some (.int .i64 o.num) ∧ u.cell? ⟨wr.heap.size, 1, none⟩ = some (.string o.rs) ∧ u.cell? ⟨wr.heap.size, 2, none⟩ = some (.int .i64 o.E1) ∧ u.cell? ⟨wr.heap.size, 3, none⟩ = some (.int .i64 o.E2) ∧ u.cell? ⟨wr.heap.size, 4, none⟩ = some (.slice o.A o.na o.ca) ∧ u.cell? ⟨wr.heap.size, 5, none⟩ = some (.int .i64 o.C) ∧ u.cell? ⟨wr.heap.size, 6, none⟩ = some (.slice o.Z o.nz o.cz) ∧ u.cell? ⟨wr.heap.size, 7, none⟩ = some (.slice o.L o.np o.cp) ∧ u.cell? ⟨wr.heap.size, 8, none⟩ = some (.int .i64 o.key) from fun u h => ⟨cell_below HC2.out.1 h.out, cell_below HC2.out.2.1 h.out, cell_below HC2.out.2.2.1 h.out, cell_below HC2.out.2.2.2.1 h.out, cell_below HC2.out.2.2.2.2.1 h.out, cell_below HC2.out.2.2.2.2.2.1 h.out, cell_below HC2.out.2.2.2.2.2.2.1 h.out, cell_below HC2.out.2.2.2.2.2.2.2.1 h.out, cell_below HC2.out.2.2.2.2.2.2.2.2 h.out⟩)
          obtain ⟨zc0, zc1⟩ := kC.out _ HB_2
          obtain ⟨kS_0, kS_1, kS_2, kS_3, kS_4, kS_5, kS_6, kS_7, kS_8⟩ := kS.out _ HB_w2_2
          clear j0 j1 j2 j3 j4 j5 j6 j7 j8
          clear zc0 zc1 kS_0 kS_1 kS_2 kS_3 kS_4 kS_5 kS_6 kS_7 kS_8
          obtain ⟨zc0, zc1⟩ := kC.out _ HB_2
          obtain ⟨kS_0, kS_1, kS_2, kS_3, kS_4, kS_5, kS_6, kS_7, kS_8⟩ := kS.out _ HB_w2_2
          go_wp2_with fail
          refine (rorder_any o true HOB _ (kOo.out _ HB_wr_2)).mono ?_
          rintro e w3 ⟨rfl, hb0⟩
          have HB_3 := Lib.hid (below_ext HB_2.out hb0)
          have HB_wr_3 := Lib.hid (below_ext HB_wr_2.out hb0)
          have HB_w2_3 := Lib.hid (below_ext HB_w2_2.out hb0)
          clear zc0 zc1 kS_0 kS_1 kS_2 kS_3 kS_4 kS_5 kS_6 kS_7 kS_8
          clear hb0
          obtain ⟨zc0, zc1⟩ := kC.out _ HB_3
          obtain ⟨kS_0, kS_1, kS_2, kS_3, kS_4, kS_5, kS_6, kS_7, kS_8⟩ := kS.out _ HB_w2_3
          have hbF := below_ext HBw.out HB_3.out
          go_wp2
          go_ret
          exact ⟨rfl, hbF⟩
      | false =>
        have HOB := Lib.hid hob
        obtain rfl : r = false := hr.1.symm.trans (trl_hit hn.out hlt (by rw [trR, HPP.out]; simp [hob]))
        clear hob
        have HB_wr_1 : Hid (Below wr.heap.size wr wr) := Lib.hid (Below.refl _ _)
        have kOo := Lib.hid (show ∀ u : World, Hid (Below wr.heap.size wr u) → Hid (OrdOk u o) from fun u h => Lib.hid (HOK.out.below h.out))
        have kBK := Lib.hid (show ∀ u : World, Hid (Below wr.heap.size wr u) → Hid (Blk .u8 43 u B h) from fun u h9 => Lib.hid (HBK.out.below h9.out))
        obtain ⟨zc0, zc1⟩ := kC.out _ HBr0
        have hq := below_box0 wr (orO o)
        have HB_2 := Lib.hid (below_ext HBr0.out hq)
        have HB_wr_2 := Lib.hid (below_ext HB_wr_1.out hq)
        have hc : (wr.alloc (orO o)).cell? ⟨wr.heap.size, 0, none⟩ = some (.int .i64 o.num) ∧ (wr.alloc (orO o)).cell? ⟨wr.heap.size, 1, none⟩ = some (.string o.rs) ∧ (wr.alloc (orO o)).cell? ⟨wr.heap.size, 2, none⟩ = some (.int .i64 o.E1) ∧ (wr.alloc (orO o)).cell? ⟨wr.heap.size, 3, none⟩ = some (.int .i64 o.E2) ∧ (wr.alloc (orO o)).cell? ⟨wr.heap.size, 4, none⟩ = some (.slice o.A o.na o.ca) ∧ (wr.alloc (orO o)).cell? ⟨wr.heap.size, 5, none⟩ = some (.int .i64 o.C) ∧ (wr.alloc (orO o)).cell? ⟨wr.heap.size, 6, none⟩ = some (.slice o.Z o.nz o.cz) ∧ (wr.alloc (orO o)).cell? ⟨wr.heap.size, 7, none⟩ = some (.slice o.L o.np o.cp) ∧ (wr.alloc (orO o)).cell? ⟨wr.heap.size, 8, none⟩ = some (.int .i64 o.key) := ⟨allocs_cell rfl (by rfl), allocs_cell rfl (by rfl), allocs_cell rfl (by rfl), allocs_cell rfl (by rfl), allocs_cell rfl (by rfl), allocs_cell rfl (by rfl), allocs_cell rfl (by rfl), allocs_cell rfl (by rfl), allocs_cell rfl (by rfl)⟩
        have HC2 := Lib.hid hc
        clear hq
        obtain ⟨zc0x, zc1x⟩ := kC.out _ HB_2
        obtain ⟨zq0, zq1, zq2, zq3, zq4, zq5, zq6, zq7, zq8⟩ := hc
        go_wp2_with fail
        obtain ⟨w2, hw⟩ : ∃ x, (wr.alloc (orO o)) = x := ⟨_, rfl⟩
        rw [hw] at HC2 HB_2 HB_wr_2 ⊢
        have HSN2 : Hid (w2.heap.size = wr.heap.size + 1) := Lib.hid (by rw [← hw]; simp)
        clear zc0 zc1 zc0x zc1x zq0 zq1 zq2 zq3 zq4 zq5 zq6 zq7 zq8
        clear hw
        have HB_w2_2 : Hid (Below w2.heap.size w2 w2) := Lib.hid (Below.refl _ _)
        have kS := Lib.hid (show ∀ u : World, Hid (Below w2.heap.size w2 u) → u.cell? ⟨wr.heap.size, 0, none⟩ = some (.int .i64 o.num) ∧ u.cell? ⟨wr.heap.size, 1, none⟩ = some (.string o.rs) ∧ u.cell? ⟨wr.heap.size, 2, none⟩ = some (.int .i64 o.E1) ∧ u.cell? ⟨wr.heap.size, 3, none⟩ = some (.int .i64 o.E2) ∧ u.cell? ⟨wr.heap.size, 4, none⟩ = some (.slice o.A o.na o.ca) ∧ u.cell? ⟨wr.heap.size, 5, none⟩ = some (.int .i64 o.C) ∧ u.cell? ⟨wr.heap.size, 6, none⟩ = some (.slice o.Z o.nz o.cz) ∧ u.cell? ⟨wr.heap.size, 7, none⟩ = some (.slice o.L o.np o.cp) ∧ u.cell? ⟨wr.heap.size, 8, none⟩ = some (.int .i64 o.key) from fun u h => ⟨cell_below HC2.out.1 h.out, cell_below HC2.out.2.1 h.out, cell_below HC2.out.2.2.1 h.out, cell_below HC2.out.2.2.2.1 h.out, cell_below HC2.out.2.2.2.2.1 h.out, cell_below HC2.out.2.2.2.2.2.1 h.out, cell_below HC2.out.2.2.2.2.2.2.1 h.out, cell_below HC2.out.2.2.2.2.2.2.2.1 h.out, cell_below HC2.out.2.2.2.2.2.2.2.2 h.out⟩)
        obtain ⟨zc0, zc1⟩ := kC.out _ HB_2
        obtain ⟨kS_0, kS_1, kS_2, kS_3, kS_4, kS_5, kS_6, kS_7, kS_8⟩ := kS.out _ HB_w2_2
        clear j0 j1 j2 j3 j4 j5 j6 j7 j8
        clear zc0 zc1 kS_0 kS_1 kS_2 kS_3 kS_4 kS_5 kS_6 kS_7 kS_8
        obtain ⟨zc0, zc1⟩ := kC.out _ HB_2
        obtain ⟨kS_0, kS_1, kS_2, kS_3, kS_4, kS_5, kS_6, kS_7, kS_8⟩ := kS.out _ HB_w2_2
        go_wp2_with fail
        refine (rorder_any o false HOB _ (kOo.out _ HB_wr_2)).mono ?_
        rintro e w3 ⟨rfl, hb0⟩
        have HB_3 := Lib.hid (below_ext HB_2.out hb0)
        have HB_wr_3 := Lib.hid (below_ext HB_wr_2.out hb0)
        have HB_w2_3 := Lib.hid (below_ext HB_w2_2.out hb0)
        clear zc0 zc1 kS_0 kS_1 kS_2 kS_3 kS_4 kS_5 kS_6 kS_7 kS_8
        clear hb0
        obtain ⟨zc0, zc1⟩ := kC.out _ HB_3
        obtain ⟨kS_0, kS_1, kS_2, kS_3, kS_4, kS_5, kS_6, kS_7, kS_8⟩ := kS.out _ HB_w2_3
        have hbF := below_ext HBw.out HB_3.out
        go_wp2
        go_ret
        exact ⟨rfl, hbF⟩
    · skip
      obtain rfl : k = n := by omega
      have hre : ((((clN os k : Nat) : Int)) == ((m : Nat) : Int)) = r := by
        rw [← hr.1, trlB, hn.out, HST.out, hm.out, decide_eq_true h100]; simp only [Bool.true_and]
        rw [Bool.eq_iff_iff]; simp; omega
      have hre2 : ((((m : Nat) : Int)) == ((clN os k : Nat) : Int)) = r := by rw [← hre, BEq.comm]
      obtain ⟨q, hq⟩ : ∃ q, clN os k = q := ⟨_, rfl⟩
      rw [hq] at hre hre2 ⊢
      clear hq
      obtain ⟨zc0, zc1⟩ := kC.out _ HBr0
      have hbF := below_ext HBw.out HBr0.out
      go_wp2
      go_ret
      exact ⟨by first | rfl | rw [hre] | rw [hre2], hbF⟩
theorem rtval_any (O : Option Addr) (os : List OrdR) (n c : Nat) (K : Option Addr) (hs : List (List Int)) (m d : Nat) (hn : Hid (os.length = n)) (hm : Hid (hs.length = m)) (hI : ∀ k, k < n → OrdI (orL os k)) (hb1 : n ≤ 1000000) (hb2 : m ≤ 1000000) (r : Bool) (hr : Kp (trlB os hs = r)) (w : World) (hv : Hid (VarsD w)) (hO : Hid (Os w O os)) (hK : Hid (Hs w K hs)) :
    Calls Tryd.prog 8 #[tlV O n c K m d] w fun e' w' => e' = .returned (.bool r) ∧ Below w.heap.size w w' := by
  by_cases h : n ≤ 100
  · exact rtval_2 O os n c K hs m d hn hm hI hb1 hb2 h r hr w hv hO hK
  · obtain rfl : r = false := hr.1.symm.trans (by rw [trlB, hn.out, decide_eq_false h]; rfl)
    exact rtval_1 O n c K m d h hb1 w
set_option maxHeartbeats 6400000 in
theorem tk_0 (O : Option Addr) (os : List OrdR) (n c : Nat) (K : Option Addr) (hs : List (List Int)) (m d : Nat) (hn : Hid (os.length = n)) (hm : Hid (hs.length = m)) (hI : ∀ k, k < n → OrdI (orL os k)) (wh kd : Int) (hw0 : 0 ≤ wh) (hw1 : wh < 256) (hk0 : 0 ≤ kd) (hk1 : kd < 256) (hq : kd % 6 = 0) (w : World) (hv : Hid (VarsD w)) (hO : Hid (Os w O os)) (hK : Hid (Hs w K hs)) :
    Calls Tryd.prog 3 #[tlV O n c K m d, .int .u8 wh, .int .u8 kd] w fun e' w' => e' = .returned (.bool true) ∧ Below w.heap.size w w' := by
  obtain ⟨w0, HW, HBw, kC⟩ := stTl O n c K m d w
  have kD := Lib.hid (show ∀ u : World, Hid (Below w0.heap.size w0 u) → Hid (VarsD u) from fun u h => Lib.hid ((hv.out.below) (below_ext HBw.out h.out)))
  have kO := Lib.hid (show ∀ u : World, Hid (Below w0.heap.size w0 u) → Hid (Os u O os) from fun u h => Lib.hid ((hO.out.below) (below_ext HBw.out h.out)))
  have kK := Lib.hid (show ∀ u : World, Hid (Below w0.heap.size w0 u) → Hid (Hs u K hs) from fun u h => Lib.hid ((hK.out.below) (below_ext HBw.out h.out)))
  have HB_0 : Hid (Below w0.heap.size w0 w0) := Lib.hid (Below.refl _ _)
  clear hO hK hv
  have HI := Lib.hid hI
  clear hI
  go_enter Tryd.func3, Tryd.ntmps3
  go_wp2_with fail
  rw [HW.out]
  obtain ⟨zc0, zc1⟩ := kC.out _ HB_0
  go_wp2_with fail
  refine (awake51 _ (kD.out _ HB_0)).mono ?_
  rintro e w1 ⟨rfl, hb0⟩
  have HB_1 := Lib.hid (below_ext HB_0.out hb0)
  clear zc0 zc1
  clear hb0
  obtain ⟨zc0, zc1⟩ := kC.out _ HB_1
  go_wp2_with fail
  refine (few51_any O os n c K m d hn _ (kO.out _ HB_1)).mono ?_
  rintro e w2 ⟨bf, rfl, hbf, hb0⟩
  have HB_2 := Lib.hid (below_ext HB_1.out hb0)
  clear zc0 zc1
  clear hb0
  obtain ⟨zc0, zc1⟩ := kC.out _ HB_2
  have HBF := Lib.hid hbf
  clear hbf
  cases bf with
  | false =>
    go_wp2_with fail
    refine (awake51 _ (kD.out _ HB_2)).mono ?_
    rintro e w3 ⟨rfl, hb0⟩
    have HB_3 := Lib.hid (below_ext HB_2.out hb0)
    clear zc0 zc1
    clear hb0
    obtain ⟨zc0, zc1⟩ := kC.out _ HB_3
    have hbF := below_ext HBw.out HB_3.out
    go_wp2
    go_ret
    exact ⟨rfl, hbF⟩
  | true =>
    have hbb := HBF.out rfl
    have hb1 : n ≤ 1000000 := by omega
    have hb2 : m ≤ 1000000 := by omega
    clear hbb HBF
    have d0 : ((m : Int) == 0) = decide (m = 0) := by rw [Bool.eq_iff_iff]; simp
    by_cases hm0 : m = 0
    · have d1 : decide (m = 0) = true := by simp [hm0]
      rw [d1] at d0
      go_wp2_with fail
      refine (awake51 _ (kD.out _ HB_2)).mono ?_
      rintro e w3 ⟨rfl, hb0⟩
      have HB_3 := Lib.hid (below_ext HB_2.out hb0)
      clear zc0 zc1
      clear hb0
      obtain ⟨zc0, zc1⟩ := kC.out _ HB_3
      have hbF := below_ext HBw.out HB_3.out
      go_wp2
      go_ret
      exact ⟨rfl, hbF⟩
    · have d1 : decide (m = 0) = false := by simp [hm0]
      rw [d1] at d0
      cases htr : trlB os hs with
      | false =>
        have HT : Kp (trlB os hs = false) := ⟨htr⟩
        clear htr
        go_wp2_with fail
        refine (tval_any O os n c K hs m d hn hm HI.out hb1 hb2 false HT _ (kD.out _ HB_2) (kO.out _ HB_2) (kK.out _ HB_2)).mono ?_
        rintro e w3 ⟨rfl, hb0⟩
        have HB_3 := Lib.hid (below_ext HB_2.out hb0)
        clear zc0 zc1
        clear hb0
        obtain ⟨zc0, zc1⟩ := kC.out _ HB_3
        go_wp2_with fail
        refine (awake51 _ (kD.out _ HB_3)).mono ?_
        rintro e w4 ⟨rfl, hb0⟩
        have HB_4 := Lib.hid (below_ext HB_3.out hb0)
        clear zc0 zc1
        clear hb0
        obtain ⟨zc0, zc1⟩ := kC.out _ HB_4
        have hbF := below_ext HBw.out HB_4.out
        go_wp2
        go_ret
        exact ⟨rfl, hbF⟩
      | true =>
        have HT : Kp (trlB os hs = true) := ⟨htr⟩
        clear htr
        go_wp2_with fail
        refine (tval_any O os n c K hs m d hn hm HI.out hb1 hb2 true HT _ (kD.out _ HB_2) (kO.out _ HB_2) (kK.out _ HB_2)).mono ?_
        rintro e w3 ⟨rfl, hb0⟩
        have HB_3 := Lib.hid (below_ext HB_2.out hb0)
        clear zc0 zc1
        clear hb0
        obtain ⟨zc0, zc1⟩ := kC.out _ HB_3
        go_wp2_with fail
        refine (rtval_any O os n c K hs m d hn hm HI.out hb1 hb2 true HT _ (kD.out _ HB_3) (kO.out _ HB_3) (kK.out _ HB_3)).mono ?_
        rintro e w4 ⟨rfl, hb0⟩
        have HB_4 := Lib.hid (below_ext HB_3.out hb0)
        clear zc0 zc1
        clear hb0
        obtain ⟨zc0, zc1⟩ := kC.out _ HB_4
        obtain ⟨i, hrem, him⟩ : ∃ i : Nat, wh % (m : Int) = (i : Int) ∧ i < m := ⟨(wh % (m : Int)).toNat, by rw [Int.toNat_of_nonneg (Int.emod_nonneg _ (by omega))], by have := Int.emod_lt_of_pos wh (show (0 : Int) < m by omega); have := Int.emod_nonneg wh (show (m : Int) ≠ 0 by omega); omega⟩
        have HCK := Lib.hid (closed_key HT.1 (i := i) (by rw [hm.out]; exact him))
        have hin : i < n := by rw [← hn.out]; exact HCK.out.1
        have HLN : Hid (∀ x ∈ hs, x.length = 32) := Lib.hid (hs_lens ((kK.out _ HB_4)).out)
        have HNP : ∀ k, k < n → (orL os k).np ≤ 1000000 := fun k hk => by
          have h1 := (trR_parts (trS_get (trl_parts HT.1).1 k (by rw [hn.out]; exact hk))).1
          simp only [ordB, Bool.and_eq_true, decide_eq_true_eq] at h1
          have := h1.2.2.2.2.1; omega
        have HOB := Lib.hid ((kO.out _ HB_4)).out
        have HB_w4_4 : Hid (Below w4.heap.size w4 w4) := Lib.hid (Below.refl _ _)
        go_wp2_with fail
        refine (copy_any O os n c K hs m d hn hm hb1 hb2 HNP _ (kO.out _ HB_4) (kK.out _ HB_4)).mono ?_
        rintro e w5 ⟨O', c', K', d', os', rfl, hl', hc', hd', hcp, hoO, hoK, hne1, hne2, hdis, hb0⟩
        have HBL := hb0
        have HB_5 := Lib.hid (below_ext HB_4.out hb0)
        have HB_w4_5 := Lib.hid (below_ext HB_w4_4.out hb0)
        clear zc0 zc1
        clear hb0
        obtain ⟨gO, gK, rfl, rfl, ⟨cc1, cc2⟩, ⟨cd1, cd2⟩, hcd⟩ := cpy_cpd hn.out hl' hm.out (by omega) (by omega) HLN.out HOB.out hcp hoO hoK hne1 hne2 HBL
        have HREL : Hid (∀ k, k < n → ∃ L cx, orL os' k = reL (orL os k) L cx) := Lib.hid fun k hk => by
          obtain ⟨L, cx, e, _⟩ := hcp k hk
          exact ⟨L, cx, e⟩
        have HDIS := Lib.hid hdis
        have HL' := Lib.hid hl'
        have HCD := Lib.hid hcd
        clear hl' hc' hd' hcp hoO hoK hne1 hne2 hdis hcd HNP HBL
        rw [hrem]
        clear hrem
        have HB_w5_5 : Hid (Below w5.heap.size w5 w5) := Lib.hid (Below.refl _ _)
        obtain ⟨zc0, zc1⟩ := kC.out _ HB_5
        have hq := below_box0 w5 (tlO (some ⟨gO, 0, none⟩) n c' (some ⟨gK, 0, none⟩) m d')
        have HB_6 := Lib.hid (below_ext HB_5.out hq)
        have HB_w4_6 := Lib.hid (below_ext HB_w4_5.out hq)
        have HB_w5_6 := Lib.hid (below_ext HB_w5_5.out hq)
        have hc : (w5.alloc (tlO (some ⟨gO, 0, none⟩) n c' (some ⟨gK, 0, none⟩) m d')).cell? ⟨w5.heap.size, 0, none⟩ = some (.slice (some ⟨gO, 0, none⟩) n c') ∧ (w5.alloc (tlO (some ⟨gO, 0, none⟩) n c' (some ⟨gK, 0, none⟩) m d')).cell? ⟨w5.heap.size, 1, none⟩ = some (.slice (some ⟨gK, 0, none⟩) m d') := ⟨allocs_cell rfl (by rfl), allocs_cell rfl (by rfl)⟩
        have HC6 := Lib.hid hc
        clear zc0 zc1
        clear hq
        obtain ⟨zc0, zc1⟩ := kC.out _ HB_6
        obtain ⟨zq0, zq1⟩ := hc
        go_upto_region 8 with (fail)
        obtain ⟨w6, hw⟩ : ∃ x, (w5.alloc (tlO (some ⟨gO, 0, none⟩) n c' (some ⟨gK, 0, none⟩) m d')) = x := ⟨_, rfl⟩
        rw [hw] at HC6 HB_6 HB_w4_6 HB_w5_6 ⊢
        have HSN6 : Hid (w6.heap.size = w5.heap.size + 1) := Lib.hid (by rw [← hw]; simp)
        clear zc0 zc1 zq0 zq1
        clear hw
        have HB_w6_6 : Hid (Below w6.heap.size w6 w6) := Lib.hid (Below.refl _ _)
        have kT := Lib.hid (show ∀ u : World, Hid (Below w6.heap.size w6 u) → u.cell? ⟨w5.heap.size, 0, none⟩ = some (.slice (some ⟨gO, 0, none⟩) n c') ∧ u.cell? ⟨w5.heap.size, 1, none⟩ = some (.slice (some ⟨gK, 0, none⟩) m d') from fun u h => ⟨cell_below HC6.out.1 h.out, cell_below HC6.out.2 h.out⟩)
        obtain ⟨zc0, zc1⟩ := kC.out _ HB_6
        obtain ⟨kT_0, kT_1⟩ := kT.out _ HB_w6_6
        have HCD6 : Hid (Cpd w4 w6 w5.heap.size gO gK os' hs n m) := Lib.hid (HCD.out.keep (fun b hb => (HB_w5_6).out.block b hb) (HB_w4_6).out)
        have hil : i < os'.length := by rw [HL'.out]; exact hin
        have hcell : w6.cell? ⟨gO, i * 9 + 1, none⟩ = some (.string (orL os' i).rs) := HCD6.out.ro.at_ i hil 1 _ rfl
        have hfrz : w6.frozen? ⟨gO, i * 9 + 1, none⟩ = false := by
          have := (HCD6.out.ro.there (i * 9 + 1) (by omega)).2
          rwa [Nat.zero_add] at this
        have HRS := Lib.hid (rs_small (os' := os') HT.1 hn.out hin HREL.out)
        have hbig : ¬ 9223372036854775807 < (orL os' i).rs.size + 1 := by have := HRS.out.1; omega
        go_upto_region 27 with (fail)
        obtain ⟨hs1, hs2, hs3, hs4⟩ := HRS.out
        clear zc0 zc1 kT_0 kT_1
        obtain ⟨X2, hX2⟩ : ∃ x, ({ orL os' i with rs := (orL os' i).rs ++ { data := #[33] } } : OrdR) = x := ⟨_, rfl⟩
        have HCD7 : Hid (Cpd w4 (w6.setCell ⟨gO, i * 9 + 1, none⟩ (.string ((orL os' i).rs ++ { data := #[33] }))) w5.heap.size gO gK (os'.set i X2) hs n m) := Lib.hid (by rw [← hX2]; exact HCD6.out.setO hil (by decide) rfl (fun e => ⟨e.la, e.lz, e.lp, e.A, e.Z, e.p, e.b⟩))
        have HI2 : Hid (∀ k, k < n → OrdI (orL (os'.set i X2) k)) := Lib.hid (ordI_set HL'.out HREL.out HI.out hin (by rw [← hX2]; exact fun h => h))
        have HAG : Hid (∀ j, j < i → (orL (os'.set i X2) j).key = (orL os j).key ∧ oIt (orL (os'.set i X2) j) = oIt (orL os j)) := Lib.hid (set_agree HL'.out HREL.out hin)
        have HKY : Hid ((orL (os'.set i X2) i).key ≠ 0) := Lib.hid (by rw [← hX2]; exact (by rw [orL_set hil, if_pos rfl]; show (orL os' i).key ≠ 0; rw [hs3]; exact HCK.out.2))
        have HL2 : Hid ((os'.set i X2).length = n) := Lib.hid (by rw [List.length_set]; exact HL'.out)
        have HX2 : Hid (orL (os'.set i X2) i = X2) := Lib.hid (by rw [orL_set hil, if_pos rfl])
        obtain ⟨os2, hos2⟩ : ∃ x, os'.set i X2 = x := ⟨_, rfl⟩
        rw [hos2] at HCD7 HI2 HAG HKY HL2 HX2
        have HBX7 : Hid (Below w0.heap.size w0 (w6.setCell ⟨gO, i * 9 + 1, none⟩ (.string ((orL os' i).rs ++ { data := #[33] })))) := Lib.hid (HB_6.out.setCell (p := ⟨gO, _, none⟩) (by have h1 := HCD6.out.lg.1; have h2 := HB_4.out.size; exact Nat.le_trans h2 h1) _)
        have HC7 : Hid ((w6.setCell ⟨gO, i * 9 + 1, none⟩ (.string ((orL os' i).rs ++ { data := #[33] }))).cell? ⟨w5.heap.size, 0, none⟩ = some (.slice (some ⟨gO, 0, none⟩) n c') ∧ (w6.setCell ⟨gO, i * 9 + 1, none⟩ (.string ((orL os' i).rs ++ { data := #[33] }))).cell? ⟨w5.heap.size, 1, none⟩ = some (.slice (some ⟨gK, 0, none⟩) m d')) := Lib.hid (by
          have hne : gO < w5.heap.size := HCD.out.lg.2
          exact ⟨(World.cell?_setCell_other _ _ _ _ (fun e => by simp at e <;> omega)).trans HC6.out.1, (World.cell?_setCell_other _ _ _ _ (fun e => by simp at e <;> omega)).trans HC6.out.2⟩)
        obtain ⟨w7, hw7⟩ : ∃ x, (w6.setCell ⟨gO, i * 9 + 1, none⟩ (.string ((orL os' i).rs ++ { data := #[33] }))) = x := ⟨_, rfl⟩
        rw [hw7] at HCD7 HBX7 HC7 ⊢
        clear hw7 hos2 hX2
        clear hcell hfrz
        have HB_w7_7 : Hid (Below w7.heap.size w7 w7) := Lib.hid (Below.refl _ _)
        have kO2 := Lib.hid (show ∀ u : World, Hid (Below w7.heap.size w7 u) → Hid (Os u (some ⟨gO, 0, none⟩) os2) from fun u h => Lib.hid (HCD7.out.osr.below h.out))
        have kK2 := Lib.hid (show ∀ u : World, Hid (Below w7.heap.size w7 u) → Hid (Hs u (some ⟨gK, 0, none⟩) hs) from fun u h => Lib.hid ((HCD7.out.hsr HLN.out).below h.out))
        have kT2 := Lib.hid (show ∀ u : World, Hid (Below w7.heap.size w7 u) → u.cell? ⟨w5.heap.size, 0, none⟩ = some (.slice (some ⟨gO, 0, none⟩) n c') ∧ u.cell? ⟨w5.heap.size, 1, none⟩ = some (.slice (some ⟨gK, 0, none⟩) m d') from fun u h => ⟨cell_below HC7.out.1 h.out, cell_below HC7.out.2 h.out⟩)
        obtain ⟨zc0, zc1⟩ := kC.out _ HBX7
        obtain ⟨kT2_0, kT2_1⟩ := kT2.out _ HB_w7_7
        cases htr2 : trlB os2 hs with
        | false =>
          have HT2 : Kp (trlB os2 hs = false) := ⟨htr2⟩
          clear htr2
          go_wp2_with fail
          refine (tval_any (some ⟨gO, 0, none⟩) os2 n c' (some ⟨gK, 0, none⟩) hs m d' HL2 hm HI2.out hb1 hb2 false HT2 _ (kD.out _ HBX7) (kO2.out _ HB_w7_7) (kK2.out _ HB_w7_7)).mono ?_
          rintro e w8 ⟨rfl, hb0⟩
          have HB_8 := Lib.hid (below_ext HBX7.out hb0)
          have HB_w7_8 := Lib.hid (below_ext HB_w7_7.out hb0)
          clear zc0 zc1 kT2_0 kT2_1
          clear hb0
          obtain ⟨zc0, zc1⟩ := kC.out _ HB_8
          obtain ⟨kT2_0, kT2_1⟩ := kT2.out _ HB_w7_8
          have hbF := below_ext HBw.out HB_8.out
          go_wp2
          go_ret
          exact ⟨rfl, hbF⟩
        | true =>
          have HT2 : Kp (trlB os2 hs = true) := ⟨htr2⟩
          clear htr2
          have hlk := kept_link HT.1 HT2.1 (i := i) (by rw [hm.out]; exact him) (by rw [HL2.out, hn.out]) HAG.out HKY.out
          have HBE := Lib.hid (bef_hb HT.1 (i := i) (by rw [hm.out]; omega))
          obtain ⟨hB, hhB⟩ : ∃ x, befL hs i = x := ⟨_, rfl⟩
          rw [hhB] at hlk HBE
          have HHB := Lib.hid hhB
          have HBL : Hid (hB.length = 32) := Lib.hid (by rw [HBE.out]; exact hbL_len _ _)
          have HBB : Hid (bytesB hB = true) := Lib.hid (by rw [HBE.out]; exact hbL_b _ _)
          have hoI := HI2.out i hin
          obtain ⟨bq, fq, eq0, hnine, hok⟩ := ((kO2.out _ HB_w7_7)).out i (by rw [HL2.out]; exact hin)
          cases eq0
          rw [show os2.getD i noOrd = X2 from HX2.out] at hnine hok
          rw [HX2.out] at hlk hoI
          have HOI := Lib.hid hoI
          have HOS := ordS_of (by have := (trR_parts (trS_get (trl_parts HT2.1).1 i (by rw [HL2.out]; exact hin))).1; rw [HX2.out] at this; exact this) hok
          have HOK := Lib.hid hok
          have HNI := Lib.hid hnine
          obtain ⟨RR, hRR⟩ : ∃ x, lnk hB X2 = x := ⟨_, rfl⟩
          rw [hRR] at hlk
          have HRR : Kp (lnk hB X2 = RR) := ⟨hRR⟩
          have HRL : Hid (RR.length = 32) := Lib.hid (by rw [← hRR]; exact lnk_len _ _)
          obtain ⟨b2, f2, ek, hkl, hrg⟩ := ((kK.out _ HBX7)).out i (by rw [hm.out]; exact him)
          cases ek
          obtain ⟨hk9, hhk⟩ : ∃ x, hsL hs i = x := ⟨_, rfl⟩
          rw [hhk] at hlk hkl hrg
          have HLK := Lib.hid hkl
          have HRG := Lib.hid hrg
          have HEQ : Hid ((RR == hk9) = true) := Lib.hid (by rw [hlk]; simp)
          clear hlk hkl hrg hhk hRR hhB hoI hok hnine hs1 hs2 hs3 hs4
          go_wp2_with fail
          refine (tval_any (some ⟨gO, 0, none⟩) os2 n c' (some ⟨gK, 0, none⟩) hs m d' HL2 hm HI2.out hb1 hb2 true HT2 _ (kD.out _ HBX7) (kO2.out _ HB_w7_7) (kK2.out _ HB_w7_7)).mono ?_
          rintro e w8 ⟨rfl, hb0⟩
          have HB_8 := Lib.hid (below_ext HBX7.out hb0)
          have HB_w7_8 := Lib.hid (below_ext HB_w7_7.out hb0)
          clear zc0 zc1 kT2_0 kT2_1
          clear hb0
          obtain ⟨zc0, zc1⟩ := kC.out _ HB_8
          obtain ⟨kT2_0, kT2_1⟩ := kT2.out _ HB_w7_8
          have kOK := Lib.hid (show ∀ u : World, Hid (Below w7.heap.size w7 u) → Hid (OrdOk u X2) from fun u h => Lib.hid (HOK.out.below h.out))
          have kRG := Lib.hid (show ∀ u : World, Hid (Below w7.heap.size w7 u) → Hid (u.rangeAt b2 (f2 + i * 32) (hk9.map (Value.int .u8))) from fun u h => Lib.hid (rangeAt_below HRG.out h.out))
          have kNI := Lib.hid (show ∀ u : World, Hid (Below w7.heap.size w7 u) → u.cell? ⟨gO, i * 9, none⟩ = some (.int .i64 X2.num) ∧ u.cell? ⟨gO, i * 9 + 1, none⟩ = some (.string X2.rs) ∧ u.cell? ⟨gO, i * 9 + 2, none⟩ = some (.int .i64 X2.E1) ∧ u.cell? ⟨gO, i * 9 + 3, none⟩ = some (.int .i64 X2.E2) ∧ u.cell? ⟨gO, i * 9 + 4, none⟩ = some (.slice X2.A X2.na X2.ca) ∧ u.cell? ⟨gO, i * 9 + 5, none⟩ = some (.int .i64 X2.C) ∧ u.cell? ⟨gO, i * 9 + 6, none⟩ = some (.slice X2.Z X2.nz X2.cz) ∧ u.cell? ⟨gO, i * 9 + 7, none⟩ = some (.slice X2.L X2.np X2.cp) ∧ u.cell? ⟨gO, i * 9 + 8, none⟩ = some (.int .i64 X2.key) from fun u h => by have h9 := HNI.out.below h.out; rw [Nat.zero_add] at h9; exact h9)
          obtain ⟨zc0x, zc1x⟩ := kC.out _ HB_8
          obtain ⟨kT2_0x, kT2_1x⟩ := kT2.out _ HB_w7_8
          obtain ⟨kNI_0x, kNI_1x, kNI_2x, kNI_3x, kNI_4x, kNI_5x, kNI_6x, kNI_7x, kNI_8x⟩ := kNI.out _ HB_w7_8
          have hlt4 : decide (kd.tmod 6 < 4) = true := by rw [Int.tmod_eq_emod_of_nonneg hk0, hq]; rfl
          go_upto_region 29 with (fail)
          clear zc0 zc1 kT2_0 kT2_1 zc0x zc1x kT2_0x kT2_1x kNI_0x kNI_1x kNI_2x kNI_3x kNI_4x kNI_5x kNI_6x kNI_7x kNI_8x
          have hBx9 := Lib.hid (show ∀ u u2 : World, Hid (Below w0.heap.size w0 u ∧ Below w7.heap.size w7 u) → Below u.heap.size u u2 → Hid (Below w0.heap.size w0 u2 ∧ Below w7.heap.size w7 u2) from fun u u2 h1 h2 => Lib.hid ⟨(below_ext h1.out.1 h2), (below_ext h1.out.2 h2)⟩)
          have hS9 := Lib.hid (show ∀ u : World, Hid (Below w0.heap.size w0 u ∧ Below w7.heap.size w7 u) → (u.cell? ⟨w.heap.size, 0, none⟩ = some (.slice O n c) ∧ u.cell? ⟨w.heap.size, 1, none⟩ = some (.slice (some ⟨b2, f2, none⟩) m d) ∧ u.cell? ⟨w5.heap.size, 0, none⟩ = some (.slice (some ⟨gO, 0, none⟩) n c') ∧ u.cell? ⟨w5.heap.size, 1, none⟩ = some (.slice (some ⟨gK, 0, none⟩) m d') ∧ u.cell? ⟨gO, i * 9, none⟩ = some (.int .i64 X2.num) ∧ u.cell? ⟨gO, i * 9 + 1, none⟩ = some (.string X2.rs) ∧ u.cell? ⟨gO, i * 9 + 2, none⟩ = some (.int .i64 X2.E1) ∧ u.cell? ⟨gO, i * 9 + 3, none⟩ = some (.int .i64 X2.E2) ∧ u.cell? ⟨gO, i * 9 + 4, none⟩ = some (.slice X2.A X2.na X2.ca) ∧ u.cell? ⟨gO, i * 9 + 5, none⟩ = some (.int .i64 X2.C) ∧ u.cell? ⟨gO, i * 9 + 6, none⟩ = some (.slice X2.Z X2.nz X2.cz) ∧ u.cell? ⟨gO, i * 9 + 7, none⟩ = some (.slice X2.L X2.np X2.cp) ∧ u.cell? ⟨gO, i * 9 + 8, none⟩ = some (.int .i64 X2.key) ∧ Hid (Below w0.heap.size w0 u ∧ Below w7.heap.size w7 u)) from fun u h1 => by
            obtain ⟨y0, y1⟩ := kC.out _ (Lib.hid h1.out.1)
            obtain ⟨kT2_0, kT2_1⟩ := kT2.out _ (Lib.hid h1.out.2)
            obtain ⟨kNI_0, kNI_1, kNI_2, kNI_3, kNI_4, kNI_5, kNI_6, kNI_7, kNI_8⟩ := kNI.out _ (Lib.hid h1.out.2)
            exact ⟨y0, y1, kT2_0, kT2_1, kNI_0, kNI_1, kNI_2, kNI_3, kNI_4, kNI_5, kNI_6, kNI_7, kNI_8, h1⟩)
          have HBA9 : Hid (Below w0.heap.size w0 w8 ∧ Below w7.heap.size w7 w8) := Lib.hid ⟨HB_8.out, HB_w7_8.out⟩
          refine wp_region_T (S := fun w' => w'.cell? ⟨w.heap.size, 0, none⟩ = some (.slice O n c) ∧ w'.cell? ⟨w.heap.size, 1, none⟩ = some (.slice (some ⟨b2, f2, none⟩) m d) ∧ w'.cell? ⟨w5.heap.size, 0, none⟩ = some (.slice (some ⟨gO, 0, none⟩) n c') ∧ w'.cell? ⟨w5.heap.size, 1, none⟩ = some (.slice (some ⟨gK, 0, none⟩) m d') ∧ w'.cell? ⟨gO, i * 9, none⟩ = some (.int .i64 X2.num) ∧ w'.cell? ⟨gO, i * 9 + 1, none⟩ = some (.string X2.rs) ∧ w'.cell? ⟨gO, i * 9 + 2, none⟩ = some (.int .i64 X2.E1) ∧ w'.cell? ⟨gO, i * 9 + 3, none⟩ = some (.int .i64 X2.E2) ∧ w'.cell? ⟨gO, i * 9 + 4, none⟩ = some (.slice X2.A X2.na X2.ca) ∧ w'.cell? ⟨gO, i * 9 + 5, none⟩ = some (.int .i64 X2.C) ∧ w'.cell? ⟨gO, i * 9 + 6, none⟩ = some (.slice X2.Z X2.nz X2.cz) ∧ w'.cell? ⟨gO, i * 9 + 7, none⟩ = some (.slice X2.L X2.np X2.cp) ∧ w'.cell? ⟨gO, i * 9 + 8, none⟩ = some (.int .i64 X2.key) ∧ Hid (Below w0.heap.size w0 w' ∧ Below w7.heap.size w7 w')) (E := []) (by kernel_rfl) (hS9.out _ (hBx9.out _ _ HBA9 ((Below.refl _ _).drew))) (fun hHeld => ?_)
          refine tkV 0 ?_
          try simp only [qq1, qq2, qq3, Act.put, qq4, qq5, qq6]
          refine tkV 1 ?_
          try simp only [qq1, qq2, qq3, Act.put, qq4, qq5, qq6]
          refine tkV 2 ?_
          try simp only [qq1, qq2, qq3, Act.put, qq4, qq5, qq6]
          refine tkV 3 ?_
          try simp only [qq1, qq2, qq3, Act.put, qq4, qq5, qq6]
          refine tkV 4 ?_
          try simp only [qq1, qq2, qq3, Act.put, qq4, qq5, qq6]
          refine tkV 5 ?_
          try simp only [qq1, qq2, qq3, Act.put, qq4, qq5, qq6]
          refine tkV 7 ?_
          try simp only [qq1, qq2, qq3, Act.put, qq4, qq5, qq6]
          refine tkV 8 ?_
          try simp only [qq1, qq2, qq3, Act.put, qq4, qq5, qq6]
          refine tkV 9 ?_
          try simp only [qq1, qq2, qq3, Act.put, qq4, qq5, qq6]
          refine tkV 10 ?_
          try simp only [qq1, qq2, qq3, Act.put, qq4, qq5, qq6]
          refine tkV 11 ?_
          try simp only [qq1, qq2, qq3, Act.put, qq4, qq5, qq6]
          refine tkV 13 ?_
          try simp only [qq1, qq2, qq3, Act.put, qq4, qq5, qq6]
          refine tkV 14 ?_
          try simp only [qq1, qq2, qq3, Act.put, qq4, qq5, qq6]
          refine tkV 15 ?_
          try simp only [qq1, qq2, qq3, Act.put, qq4, qq5, qq6]
          refine tkV 16 ?_
          try simp only [qq1, qq2, qq3, Act.put, qq4, qq5, qq6]
          refine wpT_take (i := 17) (oi := _) (v := (.agg (arr .u8 hk9))) rfl (by kernel_rfl) (by kernel_rfl) (by kernel_rfl) (by kernel_rfl) (fun _ _ _ h => h) (Or.inl ⟨by rfl, yields_mid 43 _ rfl b2 (f2 + i * 32) rfl (hk9.map (Value.int .u8)) _ (fun _ hq => ((kRG.out _ (Lib.hid (hq.2.2.2.2.2.2.2.2.2.2.2.2.2).out.2))).out) Tryd.underlying43 rfl (map_size HLK.out)⟩) (by assumption) ?_
          try simp only [qq1, qq2, qq3, Act.put, qq4, qq5, qq6]
          refine wpT_one (i := 6) (by kernel_rfl) rfl (fun K hK => ?_)
          go_simp
          refine (rbefore_any O n c (some ⟨b2, f2, none⟩) hs m d i hm (by omega) hb2 _ (kK.out _ (Lib.hid (hHeld.2.2.2.2.2.2.2.2.2.2.2.2.2).out.1))).mono ?_
          rintro e wA ⟨rfl, hbA⟩
          rw [HHB.out]
          refine hK.out _ _ ?_ (fun hHeld => ?_)
          · exact hS9.out _ (hBx9.out _ _ hHeld.2.2.2.2.2.2.2.2.2.2.2.2.2 hbA)
          clear hK K
          try simp only [qq1, qq2, qq3, Act.put, qq4, qq5, qq6]
          refine wpT_one (i := 12) (by kernel_rfl) rfl (fun K hK => ?_)
          go_simp
          refine (rlink_any hB HBL HBB X2 HOI HOS _ (kD.out _ (Lib.hid (hHeld.2.2.2.2.2.2.2.2.2.2.2.2.2).out.1)) (kOK.out _ (Lib.hid (hHeld.2.2.2.2.2.2.2.2.2.2.2.2.2).out.2))).mono ?_
          rintro e wA ⟨rfl, hbA⟩
          rw [HRR.1]
          refine hK.out _ _ ?_ (fun hHeld => ?_)
          · exact hS9.out _ (hBx9.out _ _ hHeld.2.2.2.2.2.2.2.2.2.2.2.2.2 hbA)
          clear hK K
          try simp only [qq1, qq2, qq3, Act.put, qq4, qq5, qq6]
          refine wpT_take (i := 18) (oi := _) (v := (.bool true)) rfl (by kernel_rfl) (by kernel_rfl) (by kernel_rfl) (by kernel_rfl) (fun _ _ _ h => h) (Or.inl ⟨by rfl, yields_eql_hash _ _ _ rfl RR hk9 HRL.out HLK.out rfl rfl true HEQ.out⟩) (by assumption) ?_
          try simp only [qq1, qq2, qq3, Act.put, qq4, qq5, qq6]
          refine tkV 19 ?_
          try simp only [qq1, qq2, qq3, Act.put, qq4, qq5, qq6]
          refine tkV 20 ?_
          try simp only [qq1, qq2, qq3, Act.put, qq4, qq5, qq6]
          refine wpT_done (by kernel_rfl) ?_ _
          obtain ⟨x0, x1, x2, x3, x4, x5, x6, x7, x8, x9, x10, x11, x12, FB9⟩ := hHeld
          clear x0 x1 x2 x3 x4 x5 x6 x7 x8 x9 x10 x11 x12 hS9 hBx9 HBA9
          have HL9_w0 := Lib.hid FB9.out.1
          have HL9_w7 := Lib.hid FB9.out.2
          obtain ⟨zc0, zc1⟩ := kC.out _ HL9_w0
          obtain ⟨kT2_0, kT2_1⟩ := kT2.out _ HL9_w7
          obtain ⟨kNI_0, kNI_1, kNI_2, kNI_3, kNI_4, kNI_5, kNI_6, kNI_7, kNI_8⟩ := kNI.out _ HL9_w7
          have hbF := below_ext HBw.out HL9_w0.out
          go_wp2
          go_ret
          exact ⟨rfl, hbF⟩
set_option maxHeartbeats 6400000 in
theorem tk_1 (O : Option Addr) (os : List OrdR) (n c : Nat) (K : Option Addr) (hs : List (List Int)) (m d : Nat) (hn : Hid (os.length = n)) (hm : Hid (hs.length = m)) (hI : ∀ k, k < n → OrdI (orL os k)) (wh kd : Int) (hw0 : 0 ≤ wh) (hw1 : wh < 256) (hk0 : 0 ≤ kd) (hk1 : kd < 256) (hq : kd % 6 = 1) (w : World) (hv : Hid (VarsD w)) (hO : Hid (Os w O os)) (hK : Hid (Hs w K hs)) :
    Calls Tryd.prog 3 #[tlV O n c K m d, .int .u8 wh, .int .u8 kd] w fun e' w' => e' = .returned (.bool true) ∧ Below w.heap.size w w' := by
  obtain ⟨w0, HW, HBw, kC⟩ := stTl O n c K m d w
  have kD := Lib.hid (show ∀ u : World, Hid (Below w0.heap.size w0 u) → Hid (VarsD u) from fun u h => Lib.hid ((hv.out.below) (below_ext HBw.out h.out)))
  have kO := Lib.hid (show ∀ u : World, Hid (Below w0.heap.size w0 u) → Hid (Os u O os) from fun u h => Lib.hid ((hO.out.below) (below_ext HBw.out h.out)))
  have kK := Lib.hid (show ∀ u : World, Hid (Below w0.heap.size w0 u) → Hid (Hs u K hs) from fun u h => Lib.hid ((hK.out.below) (below_ext HBw.out h.out)))
  have HB_0 : Hid (Below w0.heap.size w0 w0) := Lib.hid (Below.refl _ _)
  clear hO hK hv
  have HI := Lib.hid hI
  clear hI
  go_enter Tryd.func3, Tryd.ntmps3
  go_wp2_with fail
  rw [HW.out]
  obtain ⟨zc0, zc1⟩ := kC.out _ HB_0
  go_wp2_with fail
  refine (awake51 _ (kD.out _ HB_0)).mono ?_
  rintro e w1 ⟨rfl, hb0⟩
  have HB_1 := Lib.hid (below_ext HB_0.out hb0)
  clear zc0 zc1
  clear hb0
  obtain ⟨zc0, zc1⟩ := kC.out _ HB_1
  go_wp2_with fail
  refine (few51_any O os n c K m d hn _ (kO.out _ HB_1)).mono ?_
  rintro e w2 ⟨bf, rfl, hbf, hb0⟩
  have HB_2 := Lib.hid (below_ext HB_1.out hb0)
  clear zc0 zc1
  clear hb0
  obtain ⟨zc0, zc1⟩ := kC.out _ HB_2
  have HBF := Lib.hid hbf
  clear hbf
  cases bf with
  | false =>
    go_wp2_with fail
    refine (awake51 _ (kD.out _ HB_2)).mono ?_
    rintro e w3 ⟨rfl, hb0⟩
    have HB_3 := Lib.hid (below_ext HB_2.out hb0)
    clear zc0 zc1
    clear hb0
    obtain ⟨zc0, zc1⟩ := kC.out _ HB_3
    have hbF := below_ext HBw.out HB_3.out
    go_wp2
    go_ret
    exact ⟨rfl, hbF⟩
  | true =>
    have hbb := HBF.out rfl
    have hb1 : n ≤ 1000000 := by omega
    have hb2 : m ≤ 1000000 := by omega
    clear hbb HBF
    have d0 : ((m : Int) == 0) = decide (m = 0) := by rw [Bool.eq_iff_iff]; simp
    by_cases hm0 : m = 0
    · have d1 : decide (m = 0) = true := by simp [hm0]
      rw [d1] at d0
      go_wp2_with fail
      refine (awake51 _ (kD.out _ HB_2)).mono ?_
      rintro e w3 ⟨rfl, hb0⟩
      have HB_3 := Lib.hid (below_ext HB_2.out hb0)
      clear zc0 zc1
      clear hb0
      obtain ⟨zc0, zc1⟩ := kC.out _ HB_3
      have hbF := below_ext HBw.out HB_3.out
      go_wp2
      go_ret
      exact ⟨rfl, hbF⟩
    · have d1 : decide (m = 0) = false := by simp [hm0]
      rw [d1] at d0
      cases htr : trlB os hs with
      | false =>
        have HT : Kp (trlB os hs = false) := ⟨htr⟩
        clear htr
        go_wp2_with fail
        refine (tval_any O os n c K hs m d hn hm HI.out hb1 hb2 false HT _ (kD.out _ HB_2) (kO.out _ HB_2) (kK.out _ HB_2)).mono ?_
        rintro e w3 ⟨rfl, hb0⟩
        have HB_3 := Lib.hid (below_ext HB_2.out hb0)
        clear zc0 zc1
        clear hb0
        obtain ⟨zc0, zc1⟩ := kC.out _ HB_3
        go_wp2_with fail
        refine (awake51 _ (kD.out _ HB_3)).mono ?_
        rintro e w4 ⟨rfl, hb0⟩
        have HB_4 := Lib.hid (below_ext HB_3.out hb0)
        clear zc0 zc1
        clear hb0
        obtain ⟨zc0, zc1⟩ := kC.out _ HB_4
        have hbF := below_ext HBw.out HB_4.out
        go_wp2
        go_ret
        exact ⟨rfl, hbF⟩
      | true =>
        have HT : Kp (trlB os hs = true) := ⟨htr⟩
        clear htr
        go_wp2_with fail
        refine (tval_any O os n c K hs m d hn hm HI.out hb1 hb2 true HT _ (kD.out _ HB_2) (kO.out _ HB_2) (kK.out _ HB_2)).mono ?_
        rintro e w3 ⟨rfl, hb0⟩
        have HB_3 := Lib.hid (below_ext HB_2.out hb0)
        clear zc0 zc1
        clear hb0
        obtain ⟨zc0, zc1⟩ := kC.out _ HB_3
        go_wp2_with fail
        refine (rtval_any O os n c K hs m d hn hm HI.out hb1 hb2 true HT _ (kD.out _ HB_3) (kO.out _ HB_3) (kK.out _ HB_3)).mono ?_
        rintro e w4 ⟨rfl, hb0⟩
        have HB_4 := Lib.hid (below_ext HB_3.out hb0)
        clear zc0 zc1
        clear hb0
        obtain ⟨zc0, zc1⟩ := kC.out _ HB_4
        obtain ⟨i, hrem, him⟩ : ∃ i : Nat, wh % (m : Int) = (i : Int) ∧ i < m := ⟨(wh % (m : Int)).toNat, by rw [Int.toNat_of_nonneg (Int.emod_nonneg _ (by omega))], by have := Int.emod_lt_of_pos wh (show (0 : Int) < m by omega); have := Int.emod_nonneg wh (show (m : Int) ≠ 0 by omega); omega⟩
        have HCK := Lib.hid (closed_key HT.1 (i := i) (by rw [hm.out]; exact him))
        have hin : i < n := by rw [← hn.out]; exact HCK.out.1
        have HLN : Hid (∀ x ∈ hs, x.length = 32) := Lib.hid (hs_lens ((kK.out _ HB_4)).out)
        have HNP : ∀ k, k < n → (orL os k).np ≤ 1000000 := fun k hk => by
          have h1 := (trR_parts (trS_get (trl_parts HT.1).1 k (by rw [hn.out]; exact hk))).1
          simp only [ordB, Bool.and_eq_true, decide_eq_true_eq] at h1
          have := h1.2.2.2.2.1; omega
        have HOB := Lib.hid ((kO.out _ HB_4)).out
        have HB_w4_4 : Hid (Below w4.heap.size w4 w4) := Lib.hid (Below.refl _ _)
        go_wp2_with fail
        refine (copy_any O os n c K hs m d hn hm hb1 hb2 HNP _ (kO.out _ HB_4) (kK.out _ HB_4)).mono ?_
        rintro e w5 ⟨O', c', K', d', os', rfl, hl', hc', hd', hcp, hoO, hoK, hne1, hne2, hdis, hb0⟩
        have HBL := hb0
        have HB_5 := Lib.hid (below_ext HB_4.out hb0)
        have HB_w4_5 := Lib.hid (below_ext HB_w4_4.out hb0)
        clear zc0 zc1
        clear hb0
        obtain ⟨gO, gK, rfl, rfl, ⟨cc1, cc2⟩, ⟨cd1, cd2⟩, hcd⟩ := cpy_cpd hn.out hl' hm.out (by omega) (by omega) HLN.out HOB.out hcp hoO hoK hne1 hne2 HBL
        have HREL : Hid (∀ k, k < n → ∃ L cx, orL os' k = reL (orL os k) L cx) := Lib.hid fun k hk => by
          obtain ⟨L, cx, e, _⟩ := hcp k hk
          exact ⟨L, cx, e⟩
        have HDIS := Lib.hid hdis
        have HL' := Lib.hid hl'
        have HCD := Lib.hid hcd
        clear hl' hc' hd' hcp hoO hoK hne1 hne2 hdis hcd HNP HBL
        rw [hrem]
        clear hrem
        have HB_w5_5 : Hid (Below w5.heap.size w5 w5) := Lib.hid (Below.refl _ _)
        obtain ⟨zc0, zc1⟩ := kC.out _ HB_5
        have hq := below_box0 w5 (tlO (some ⟨gO, 0, none⟩) n c' (some ⟨gK, 0, none⟩) m d')
        have HB_6 := Lib.hid (below_ext HB_5.out hq)
        have HB_w4_6 := Lib.hid (below_ext HB_w4_5.out hq)
        have HB_w5_6 := Lib.hid (below_ext HB_w5_5.out hq)
        have hc : (w5.alloc (tlO (some ⟨gO, 0, none⟩) n c' (some ⟨gK, 0, none⟩) m d')).cell? ⟨w5.heap.size, 0, none⟩ = some (.slice (some ⟨gO, 0, none⟩) n c') ∧ (w5.alloc (tlO (some ⟨gO, 0, none⟩) n c' (some ⟨gK, 0, none⟩) m d')).cell? ⟨w5.heap.size, 1, none⟩ = some (.slice (some ⟨gK, 0, none⟩) m d') := ⟨allocs_cell rfl (by rfl), allocs_cell rfl (by rfl)⟩
        have HC6 := Lib.hid hc
        clear zc0 zc1
        clear hq
        obtain ⟨zc0, zc1⟩ := kC.out _ HB_6
        obtain ⟨zq0, zq1⟩ := hc
        go_upto_region 10 with (fail)
        obtain ⟨w6, hw⟩ : ∃ x, (w5.alloc (tlO (some ⟨gO, 0, none⟩) n c' (some ⟨gK, 0, none⟩) m d')) = x := ⟨_, rfl⟩
        rw [hw] at HC6 HB_6 HB_w4_6 HB_w5_6 ⊢
        have HSN6 : Hid (w6.heap.size = w5.heap.size + 1) := Lib.hid (by rw [← hw]; simp)
        clear zc0 zc1 zq0 zq1
        clear hw
        have HB_w6_6 : Hid (Below w6.heap.size w6 w6) := Lib.hid (Below.refl _ _)
        have kT := Lib.hid (show ∀ u : World, Hid (Below w6.heap.size w6 u) → u.cell? ⟨w5.heap.size, 0, none⟩ = some (.slice (some ⟨gO, 0, none⟩) n c') ∧ u.cell? ⟨w5.heap.size, 1, none⟩ = some (.slice (some ⟨gK, 0, none⟩) m d') from fun u h => ⟨cell_below HC6.out.1 h.out, cell_below HC6.out.2 h.out⟩)
        obtain ⟨zc0, zc1⟩ := kC.out _ HB_6
        obtain ⟨kT_0, kT_1⟩ := kT.out _ HB_w6_6
        have HCD6 : Hid (Cpd w4 w6 w5.heap.size gO gK os' hs n m) := Lib.hid (HCD.out.keep (fun b hb => (HB_w5_6).out.block b hb) (HB_w4_6).out)
        have hil : i < os'.length := by rw [HL'.out]; exact hin
        have hcell : w6.cell? ⟨gO, i * 9 + 8, none⟩ = some (.int .i64 (orL os' i).key) := HCD6.out.ro.at_ i hil 8 _ rfl
        have hfrz : w6.frozen? ⟨gO, i * 9 + 8, none⟩ = false := by
          have := (HCD6.out.ro.there (i * 9 + 8) (by omega)).2
          rwa [Nat.zero_add] at this
        have HRS := Lib.hid (rs_small (os' := os') HT.1 hn.out hin HREL.out)
        go_upto_region 27 with (fail)
        obtain ⟨hs1, hs2, hs3, hs4⟩ := HRS.out
        clear zc0 zc1 kT_0 kT_1
        obtain ⟨X2, hX2⟩ : ∃ x, ({ orL os' i with key := wrap64 ((orL os' i).key + 1) } : OrdR) = x := ⟨_, rfl⟩
        have HCD7 : Hid (Cpd w4 (w6.setCell ⟨gO, i * 9 + 8, none⟩ (.int .i64 (wrap64 ((orL os' i).key + 1)))) w5.heap.size gO gK (os'.set i X2) hs n m) := Lib.hid (by rw [← hX2]; exact HCD6.out.setO hil (by decide) rfl (fun e => ⟨e.la, e.lz, e.lp, e.A, e.Z, e.p, e.b⟩))
        have HI2 : Hid (∀ k, k < n → OrdI (orL (os'.set i X2) k)) := Lib.hid (ordI_set HL'.out HREL.out HI.out hin (by rw [← hX2]; exact fun h => ⟨h.1, h.2.1, h.2.2.1, h.2.2.2.1, wrap64_i64 _, h.2.2.2.2.2⟩))
        have HAG : Hid (∀ j, j < i → (orL (os'.set i X2) j).key = (orL os j).key ∧ oIt (orL (os'.set i X2) j) = oIt (orL os j)) := Lib.hid (set_agree HL'.out HREL.out hin)
        have HKY : Hid ((orL (os'.set i X2) i).key ≠ 0) := Lib.hid (by rw [← hX2]; exact (by rw [orL_set hil, if_pos rfl]; show wrap64 _ ≠ 0; have := hs2; unfold wrap64; have hz : i64 (orL os' i).key := by { rw [hs3]; exact (HI.out i hin).2.2.2.2.1 }; unfold i64 at hz; omega))
        have HL2 : Hid ((os'.set i X2).length = n) := Lib.hid (by rw [List.length_set]; exact HL'.out)
        have HX2 : Hid (orL (os'.set i X2) i = X2) := Lib.hid (by rw [orL_set hil, if_pos rfl])
        obtain ⟨os2, hos2⟩ : ∃ x, os'.set i X2 = x := ⟨_, rfl⟩
        rw [hos2] at HCD7 HI2 HAG HKY HL2 HX2
        have HBX7 : Hid (Below w0.heap.size w0 (w6.setCell ⟨gO, i * 9 + 8, none⟩ (.int .i64 (wrap64 ((orL os' i).key + 1))))) := Lib.hid (HB_6.out.setCell (p := ⟨gO, _, none⟩) (by have h1 := HCD6.out.lg.1; have h2 := HB_4.out.size; exact Nat.le_trans h2 h1) _)
        have HC7 : Hid ((w6.setCell ⟨gO, i * 9 + 8, none⟩ (.int .i64 (wrap64 ((orL os' i).key + 1)))).cell? ⟨w5.heap.size, 0, none⟩ = some (.slice (some ⟨gO, 0, none⟩) n c') ∧ (w6.setCell ⟨gO, i * 9 + 8, none⟩ (.int .i64 (wrap64 ((orL os' i).key + 1)))).cell? ⟨w5.heap.size, 1, none⟩ = some (.slice (some ⟨gK, 0, none⟩) m d')) := Lib.hid (by
          have hne : gO < w5.heap.size := HCD.out.lg.2
          exact ⟨(World.cell?_setCell_other _ _ _ _ (fun e => by simp at e <;> omega)).trans HC6.out.1, (World.cell?_setCell_other _ _ _ _ (fun e => by simp at e <;> omega)).trans HC6.out.2⟩)
        obtain ⟨w7, hw7⟩ : ∃ x, (w6.setCell ⟨gO, i * 9 + 8, none⟩ (.int .i64 (wrap64 ((orL os' i).key + 1)))) = x := ⟨_, rfl⟩
        rw [hw7] at HCD7 HBX7 HC7 ⊢
        clear hw7 hos2 hX2
        clear hcell hfrz
        have HB_w7_7 : Hid (Below w7.heap.size w7 w7) := Lib.hid (Below.refl _ _)
        have kO2 := Lib.hid (show ∀ u : World, Hid (Below w7.heap.size w7 u) → Hid (Os u (some ⟨gO, 0, none⟩) os2) from fun u h => Lib.hid (HCD7.out.osr.below h.out))
        have kK2 := Lib.hid (show ∀ u : World, Hid (Below w7.heap.size w7 u) → Hid (Hs u (some ⟨gK, 0, none⟩) hs) from fun u h => Lib.hid ((HCD7.out.hsr HLN.out).below h.out))
        have kT2 := Lib.hid (show ∀ u : World, Hid (Below w7.heap.size w7 u) → u.cell? ⟨w5.heap.size, 0, none⟩ = some (.slice (some ⟨gO, 0, none⟩) n c') ∧ u.cell? ⟨w5.heap.size, 1, none⟩ = some (.slice (some ⟨gK, 0, none⟩) m d') from fun u h => ⟨cell_below HC7.out.1 h.out, cell_below HC7.out.2 h.out⟩)
        obtain ⟨zc0, zc1⟩ := kC.out _ HBX7
        obtain ⟨kT2_0, kT2_1⟩ := kT2.out _ HB_w7_7
        cases htr2 : trlB os2 hs with
        | false =>
          have HT2 : Kp (trlB os2 hs = false) := ⟨htr2⟩
          clear htr2
          go_wp2_with fail
          refine (tval_any (some ⟨gO, 0, none⟩) os2 n c' (some ⟨gK, 0, none⟩) hs m d' HL2 hm HI2.out hb1 hb2 false HT2 _ (kD.out _ HBX7) (kO2.out _ HB_w7_7) (kK2.out _ HB_w7_7)).mono ?_
          rintro e w8 ⟨rfl, hb0⟩
          have HB_8 := Lib.hid (below_ext HBX7.out hb0)
          have HB_w7_8 := Lib.hid (below_ext HB_w7_7.out hb0)
          clear zc0 zc1 kT2_0 kT2_1
          clear hb0
          obtain ⟨zc0, zc1⟩ := kC.out _ HB_8
          obtain ⟨kT2_0, kT2_1⟩ := kT2.out _ HB_w7_8
          have hbF := below_ext HBw.out HB_8.out
          go_wp2
          go_ret
          exact ⟨rfl, hbF⟩
        | true =>
          have HT2 : Kp (trlB os2 hs = true) := ⟨htr2⟩
          clear htr2
          have hlk := kept_link HT.1 HT2.1 (i := i) (by rw [hm.out]; exact him) (by rw [HL2.out, hn.out]) HAG.out HKY.out
          have HBE := Lib.hid (bef_hb HT.1 (i := i) (by rw [hm.out]; omega))
          obtain ⟨hB, hhB⟩ : ∃ x, befL hs i = x := ⟨_, rfl⟩
          rw [hhB] at hlk HBE
          have HHB := Lib.hid hhB
          have HBL : Hid (hB.length = 32) := Lib.hid (by rw [HBE.out]; exact hbL_len _ _)
          have HBB : Hid (bytesB hB = true) := Lib.hid (by rw [HBE.out]; exact hbL_b _ _)
          have hoI := HI2.out i hin
          obtain ⟨bq, fq, eq0, hnine, hok⟩ := ((kO2.out _ HB_w7_7)).out i (by rw [HL2.out]; exact hin)
          cases eq0
          rw [show os2.getD i noOrd = X2 from HX2.out] at hnine hok
          rw [HX2.out] at hlk hoI
          have HOI := Lib.hid hoI
          have HOS := ordS_of (by have := (trR_parts (trS_get (trl_parts HT2.1).1 i (by rw [HL2.out]; exact hin))).1; rw [HX2.out] at this; exact this) hok
          have HOK := Lib.hid hok
          have HNI := Lib.hid hnine
          obtain ⟨RR, hRR⟩ : ∃ x, lnk hB X2 = x := ⟨_, rfl⟩
          rw [hRR] at hlk
          have HRR : Kp (lnk hB X2 = RR) := ⟨hRR⟩
          have HRL : Hid (RR.length = 32) := Lib.hid (by rw [← hRR]; exact lnk_len _ _)
          obtain ⟨b2, f2, ek, hkl, hrg⟩ := ((kK.out _ HBX7)).out i (by rw [hm.out]; exact him)
          cases ek
          obtain ⟨hk9, hhk⟩ : ∃ x, hsL hs i = x := ⟨_, rfl⟩
          rw [hhk] at hlk hkl hrg
          have HLK := Lib.hid hkl
          have HRG := Lib.hid hrg
          have HEQ : Hid ((RR == hk9) = true) := Lib.hid (by rw [hlk]; simp)
          clear hlk hkl hrg hhk hRR hhB hoI hok hnine hs1 hs2 hs3 hs4
          go_wp2_with fail
          refine (tval_any (some ⟨gO, 0, none⟩) os2 n c' (some ⟨gK, 0, none⟩) hs m d' HL2 hm HI2.out hb1 hb2 true HT2 _ (kD.out _ HBX7) (kO2.out _ HB_w7_7) (kK2.out _ HB_w7_7)).mono ?_
          rintro e w8 ⟨rfl, hb0⟩
          have HB_8 := Lib.hid (below_ext HBX7.out hb0)
          have HB_w7_8 := Lib.hid (below_ext HB_w7_7.out hb0)
          clear zc0 zc1 kT2_0 kT2_1
          clear hb0
          obtain ⟨zc0, zc1⟩ := kC.out _ HB_8
          obtain ⟨kT2_0, kT2_1⟩ := kT2.out _ HB_w7_8
          have kOK := Lib.hid (show ∀ u : World, Hid (Below w7.heap.size w7 u) → Hid (OrdOk u X2) from fun u h => Lib.hid (HOK.out.below h.out))
          have kRG := Lib.hid (show ∀ u : World, Hid (Below w7.heap.size w7 u) → Hid (u.rangeAt b2 (f2 + i * 32) (hk9.map (Value.int .u8))) from fun u h => Lib.hid (rangeAt_below HRG.out h.out))
          have kNI := Lib.hid (show ∀ u : World, Hid (Below w7.heap.size w7 u) → u.cell? ⟨gO, i * 9, none⟩ = some (.int .i64 X2.num) ∧ u.cell? ⟨gO, i * 9 + 1, none⟩ = some (.string X2.rs) ∧ u.cell? ⟨gO, i * 9 + 2, none⟩ = some (.int .i64 X2.E1) ∧ u.cell? ⟨gO, i * 9 + 3, none⟩ = some (.int .i64 X2.E2) ∧ u.cell? ⟨gO, i * 9 + 4, none⟩ = some (.slice X2.A X2.na X2.ca) ∧ u.cell? ⟨gO, i * 9 + 5, none⟩ = some (.int .i64 X2.C) ∧ u.cell? ⟨gO, i * 9 + 6, none⟩ = some (.slice X2.Z X2.nz X2.cz) ∧ u.cell? ⟨gO, i * 9 + 7, none⟩ = some (.slice X2.L X2.np X2.cp) ∧ u.cell? ⟨gO, i * 9 + 8, none⟩ = some (.int .i64 X2.key) from fun u h => by have h9 := HNI.out.below h.out; rw [Nat.zero_add] at h9; exact h9)
          obtain ⟨zc0x, zc1x⟩ := kC.out _ HB_8
          obtain ⟨kT2_0x, kT2_1x⟩ := kT2.out _ HB_w7_8
          obtain ⟨kNI_0x, kNI_1x, kNI_2x, kNI_3x, kNI_4x, kNI_5x, kNI_6x, kNI_7x, kNI_8x⟩ := kNI.out _ HB_w7_8
          have hlt4 : decide (kd.tmod 6 < 4) = true := by rw [Int.tmod_eq_emod_of_nonneg hk0, hq]; rfl
          go_upto_region 29 with (fail)
          clear zc0 zc1 kT2_0 kT2_1 zc0x zc1x kT2_0x kT2_1x kNI_0x kNI_1x kNI_2x kNI_3x kNI_4x kNI_5x kNI_6x kNI_7x kNI_8x
          have hBx9 := Lib.hid (show ∀ u u2 : World, Hid (Below w0.heap.size w0 u ∧ Below w7.heap.size w7 u) → Below u.heap.size u u2 → Hid (Below w0.heap.size w0 u2 ∧ Below w7.heap.size w7 u2) from fun u u2 h1 h2 => Lib.hid ⟨(below_ext h1.out.1 h2), (below_ext h1.out.2 h2)⟩)
          have hS9 := Lib.hid (show ∀ u : World, Hid (Below w0.heap.size w0 u ∧ Below w7.heap.size w7 u) → (u.cell? ⟨w.heap.size, 0, none⟩ = some (.slice O n c) ∧ u.cell? ⟨w.heap.size, 1, none⟩ = some (.slice (some ⟨b2, f2, none⟩) m d) ∧ u.cell? ⟨w5.heap.size, 0, none⟩ = some (.slice (some ⟨gO, 0, none⟩) n c') ∧ u.cell? ⟨w5.heap.size, 1, none⟩ = some (.slice (some ⟨gK, 0, none⟩) m d') ∧ u.cell? ⟨gO, i * 9, none⟩ = some (.int .i64 X2.num) ∧ u.cell? ⟨gO, i * 9 + 1, none⟩ = some (.string X2.rs) ∧ u.cell? ⟨gO, i * 9 + 2, none⟩ = some (.int .i64 X2.E1) ∧ u.cell? ⟨gO, i * 9 + 3, none⟩ = some (.int .i64 X2.E2) ∧ u.cell? ⟨gO, i * 9 + 4, none⟩ = some (.slice X2.A X2.na X2.ca) ∧ u.cell? ⟨gO, i * 9 + 5, none⟩ = some (.int .i64 X2.C) ∧ u.cell? ⟨gO, i * 9 + 6, none⟩ = some (.slice X2.Z X2.nz X2.cz) ∧ u.cell? ⟨gO, i * 9 + 7, none⟩ = some (.slice X2.L X2.np X2.cp) ∧ u.cell? ⟨gO, i * 9 + 8, none⟩ = some (.int .i64 X2.key) ∧ Hid (Below w0.heap.size w0 u ∧ Below w7.heap.size w7 u)) from fun u h1 => by
            obtain ⟨y0, y1⟩ := kC.out _ (Lib.hid h1.out.1)
            obtain ⟨kT2_0, kT2_1⟩ := kT2.out _ (Lib.hid h1.out.2)
            obtain ⟨kNI_0, kNI_1, kNI_2, kNI_3, kNI_4, kNI_5, kNI_6, kNI_7, kNI_8⟩ := kNI.out _ (Lib.hid h1.out.2)
            exact ⟨y0, y1, kT2_0, kT2_1, kNI_0, kNI_1, kNI_2, kNI_3, kNI_4, kNI_5, kNI_6, kNI_7, kNI_8, h1⟩)
          have HBA9 : Hid (Below w0.heap.size w0 w8 ∧ Below w7.heap.size w7 w8) := Lib.hid ⟨HB_8.out, HB_w7_8.out⟩
          refine wp_region_T (S := fun w' => w'.cell? ⟨w.heap.size, 0, none⟩ = some (.slice O n c) ∧ w'.cell? ⟨w.heap.size, 1, none⟩ = some (.slice (some ⟨b2, f2, none⟩) m d) ∧ w'.cell? ⟨w5.heap.size, 0, none⟩ = some (.slice (some ⟨gO, 0, none⟩) n c') ∧ w'.cell? ⟨w5.heap.size, 1, none⟩ = some (.slice (some ⟨gK, 0, none⟩) m d') ∧ w'.cell? ⟨gO, i * 9, none⟩ = some (.int .i64 X2.num) ∧ w'.cell? ⟨gO, i * 9 + 1, none⟩ = some (.string X2.rs) ∧ w'.cell? ⟨gO, i * 9 + 2, none⟩ = some (.int .i64 X2.E1) ∧ w'.cell? ⟨gO, i * 9 + 3, none⟩ = some (.int .i64 X2.E2) ∧ w'.cell? ⟨gO, i * 9 + 4, none⟩ = some (.slice X2.A X2.na X2.ca) ∧ w'.cell? ⟨gO, i * 9 + 5, none⟩ = some (.int .i64 X2.C) ∧ w'.cell? ⟨gO, i * 9 + 6, none⟩ = some (.slice X2.Z X2.nz X2.cz) ∧ w'.cell? ⟨gO, i * 9 + 7, none⟩ = some (.slice X2.L X2.np X2.cp) ∧ w'.cell? ⟨gO, i * 9 + 8, none⟩ = some (.int .i64 X2.key) ∧ Hid (Below w0.heap.size w0 w' ∧ Below w7.heap.size w7 w')) (E := []) (by kernel_rfl) (hS9.out _ (hBx9.out _ _ HBA9 ((Below.refl _ _).drew))) (fun hHeld => ?_)
          refine tkV 0 ?_
          try simp only [qq1, qq2, qq3, Act.put, qq4, qq5, qq6]
          refine tkV 1 ?_
          try simp only [qq1, qq2, qq3, Act.put, qq4, qq5, qq6]
          refine tkV 2 ?_
          try simp only [qq1, qq2, qq3, Act.put, qq4, qq5, qq6]
          refine tkV 3 ?_
          try simp only [qq1, qq2, qq3, Act.put, qq4, qq5, qq6]
          refine tkV 4 ?_
          try simp only [qq1, qq2, qq3, Act.put, qq4, qq5, qq6]
          refine tkV 5 ?_
          try simp only [qq1, qq2, qq3, Act.put, qq4, qq5, qq6]
          refine tkV 7 ?_
          try simp only [qq1, qq2, qq3, Act.put, qq4, qq5, qq6]
          refine tkV 8 ?_
          try simp only [qq1, qq2, qq3, Act.put, qq4, qq5, qq6]
          refine tkV 9 ?_
          try simp only [qq1, qq2, qq3, Act.put, qq4, qq5, qq6]
          refine tkV 10 ?_
          try simp only [qq1, qq2, qq3, Act.put, qq4, qq5, qq6]
          refine tkV 11 ?_
          try simp only [qq1, qq2, qq3, Act.put, qq4, qq5, qq6]
          refine tkV 13 ?_
          try simp only [qq1, qq2, qq3, Act.put, qq4, qq5, qq6]
          refine tkV 14 ?_
          try simp only [qq1, qq2, qq3, Act.put, qq4, qq5, qq6]
          refine tkV 15 ?_
          try simp only [qq1, qq2, qq3, Act.put, qq4, qq5, qq6]
          refine tkV 16 ?_
          try simp only [qq1, qq2, qq3, Act.put, qq4, qq5, qq6]
          refine wpT_take (i := 17) (oi := _) (v := (.agg (arr .u8 hk9))) rfl (by kernel_rfl) (by kernel_rfl) (by kernel_rfl) (by kernel_rfl) (fun _ _ _ h => h) (Or.inl ⟨by rfl, yields_mid 43 _ rfl b2 (f2 + i * 32) rfl (hk9.map (Value.int .u8)) _ (fun _ hq => ((kRG.out _ (Lib.hid (hq.2.2.2.2.2.2.2.2.2.2.2.2.2).out.2))).out) Tryd.underlying43 rfl (map_size HLK.out)⟩) (by assumption) ?_
          try simp only [qq1, qq2, qq3, Act.put, qq4, qq5, qq6]
          refine wpT_one (i := 6) (by kernel_rfl) rfl (fun K hK => ?_)
          go_simp
          refine (rbefore_any O n c (some ⟨b2, f2, none⟩) hs m d i hm (by omega) hb2 _ (kK.out _ (Lib.hid (hHeld.2.2.2.2.2.2.2.2.2.2.2.2.2).out.1))).mono ?_
          rintro e wA ⟨rfl, hbA⟩
          rw [HHB.out]
          refine hK.out _ _ ?_ (fun hHeld => ?_)
          · exact hS9.out _ (hBx9.out _ _ hHeld.2.2.2.2.2.2.2.2.2.2.2.2.2 hbA)
          clear hK K
          try simp only [qq1, qq2, qq3, Act.put, qq4, qq5, qq6]
          refine wpT_one (i := 12) (by kernel_rfl) rfl (fun K hK => ?_)
          go_simp
          refine (rlink_any hB HBL HBB X2 HOI HOS _ (kD.out _ (Lib.hid (hHeld.2.2.2.2.2.2.2.2.2.2.2.2.2).out.1)) (kOK.out _ (Lib.hid (hHeld.2.2.2.2.2.2.2.2.2.2.2.2.2).out.2))).mono ?_
          rintro e wA ⟨rfl, hbA⟩
          rw [HRR.1]
          refine hK.out _ _ ?_ (fun hHeld => ?_)
          · exact hS9.out _ (hBx9.out _ _ hHeld.2.2.2.2.2.2.2.2.2.2.2.2.2 hbA)
          clear hK K
          try simp only [qq1, qq2, qq3, Act.put, qq4, qq5, qq6]
          refine wpT_take (i := 18) (oi := _) (v := (.bool true)) rfl (by kernel_rfl) (by kernel_rfl) (by kernel_rfl) (by kernel_rfl) (fun _ _ _ h => h) (Or.inl ⟨by rfl, yields_eql_hash _ _ _ rfl RR hk9 HRL.out HLK.out rfl rfl true HEQ.out⟩) (by assumption) ?_
          try simp only [qq1, qq2, qq3, Act.put, qq4, qq5, qq6]
          refine tkV 19 ?_
          try simp only [qq1, qq2, qq3, Act.put, qq4, qq5, qq6]
          refine tkV 20 ?_
          try simp only [qq1, qq2, qq3, Act.put, qq4, qq5, qq6]
          refine wpT_done (by kernel_rfl) ?_ _
          obtain ⟨x0, x1, x2, x3, x4, x5, x6, x7, x8, x9, x10, x11, x12, FB9⟩ := hHeld
          clear x0 x1 x2 x3 x4 x5 x6 x7 x8 x9 x10 x11 x12 hS9 hBx9 HBA9
          have HL9_w0 := Lib.hid FB9.out.1
          have HL9_w7 := Lib.hid FB9.out.2
          obtain ⟨zc0, zc1⟩ := kC.out _ HL9_w0
          obtain ⟨kT2_0, kT2_1⟩ := kT2.out _ HL9_w7
          obtain ⟨kNI_0, kNI_1, kNI_2, kNI_3, kNI_4, kNI_5, kNI_6, kNI_7, kNI_8⟩ := kNI.out _ HL9_w7
          have hbF := below_ext HBw.out HL9_w0.out
          go_wp2
          go_ret
          exact ⟨rfl, hbF⟩
set_option maxHeartbeats 6400000 in
theorem tk_2 (O : Option Addr) (os : List OrdR) (n c : Nat) (K : Option Addr) (hs : List (List Int)) (m d : Nat) (hn : Hid (os.length = n)) (hm : Hid (hs.length = m)) (hI : ∀ k, k < n → OrdI (orL os k)) (wh kd : Int) (hw0 : 0 ≤ wh) (hw1 : wh < 256) (hk0 : 0 ≤ kd) (hk1 : kd < 256) (hq : kd % 6 = 2) (w : World) (hv : Hid (VarsD w)) (hO : Hid (Os w O os)) (hK : Hid (Hs w K hs)) :
    Calls Tryd.prog 3 #[tlV O n c K m d, .int .u8 wh, .int .u8 kd] w fun e' w' => e' = .returned (.bool true) ∧ Below w.heap.size w w' := by
  obtain ⟨w0, HW, HBw, kC⟩ := stTl O n c K m d w
  have kD := Lib.hid (show ∀ u : World, Hid (Below w0.heap.size w0 u) → Hid (VarsD u) from fun u h => Lib.hid ((hv.out.below) (below_ext HBw.out h.out)))
  have kO := Lib.hid (show ∀ u : World, Hid (Below w0.heap.size w0 u) → Hid (Os u O os) from fun u h => Lib.hid ((hO.out.below) (below_ext HBw.out h.out)))
  have kK := Lib.hid (show ∀ u : World, Hid (Below w0.heap.size w0 u) → Hid (Hs u K hs) from fun u h => Lib.hid ((hK.out.below) (below_ext HBw.out h.out)))
  have HB_0 : Hid (Below w0.heap.size w0 w0) := Lib.hid (Below.refl _ _)
  clear hO hK hv
  have HI := Lib.hid hI
  clear hI
  go_enter Tryd.func3, Tryd.ntmps3
  go_wp2_with fail
  rw [HW.out]
  obtain ⟨zc0, zc1⟩ := kC.out _ HB_0
  go_wp2_with fail
  refine (awake51 _ (kD.out _ HB_0)).mono ?_
  rintro e w1 ⟨rfl, hb0⟩
  have HB_1 := Lib.hid (below_ext HB_0.out hb0)
  clear zc0 zc1
  clear hb0
  obtain ⟨zc0, zc1⟩ := kC.out _ HB_1
  go_wp2_with fail
  refine (few51_any O os n c K m d hn _ (kO.out _ HB_1)).mono ?_
  rintro e w2 ⟨bf, rfl, hbf, hb0⟩
  have HB_2 := Lib.hid (below_ext HB_1.out hb0)
  clear zc0 zc1
  clear hb0
  obtain ⟨zc0, zc1⟩ := kC.out _ HB_2
  have HBF := Lib.hid hbf
  clear hbf
  cases bf with
  | false =>
    go_wp2_with fail
    refine (awake51 _ (kD.out _ HB_2)).mono ?_
    rintro e w3 ⟨rfl, hb0⟩
    have HB_3 := Lib.hid (below_ext HB_2.out hb0)
    clear zc0 zc1
    clear hb0
    obtain ⟨zc0, zc1⟩ := kC.out _ HB_3
    have hbF := below_ext HBw.out HB_3.out
    go_wp2
    go_ret
    exact ⟨rfl, hbF⟩
  | true =>
    have hbb := HBF.out rfl
    have hb1 : n ≤ 1000000 := by omega
    have hb2 : m ≤ 1000000 := by omega
    clear hbb HBF
    have d0 : ((m : Int) == 0) = decide (m = 0) := by rw [Bool.eq_iff_iff]; simp
    by_cases hm0 : m = 0
    · have d1 : decide (m = 0) = true := by simp [hm0]
      rw [d1] at d0
      go_wp2_with fail
      refine (awake51 _ (kD.out _ HB_2)).mono ?_
      rintro e w3 ⟨rfl, hb0⟩
      have HB_3 := Lib.hid (below_ext HB_2.out hb0)
      clear zc0 zc1
      clear hb0
      obtain ⟨zc0, zc1⟩ := kC.out _ HB_3
      have hbF := below_ext HBw.out HB_3.out
      go_wp2
      go_ret
      exact ⟨rfl, hbF⟩
    · have d1 : decide (m = 0) = false := by simp [hm0]
      rw [d1] at d0
      cases htr : trlB os hs with
      | false =>
        have HT : Kp (trlB os hs = false) := ⟨htr⟩
        clear htr
        go_wp2_with fail
        refine (tval_any O os n c K hs m d hn hm HI.out hb1 hb2 false HT _ (kD.out _ HB_2) (kO.out _ HB_2) (kK.out _ HB_2)).mono ?_
        rintro e w3 ⟨rfl, hb0⟩
        have HB_3 := Lib.hid (below_ext HB_2.out hb0)
        clear zc0 zc1
        clear hb0
        obtain ⟨zc0, zc1⟩ := kC.out _ HB_3
        go_wp2_with fail
        refine (awake51 _ (kD.out _ HB_3)).mono ?_
        rintro e w4 ⟨rfl, hb0⟩
        have HB_4 := Lib.hid (below_ext HB_3.out hb0)
        clear zc0 zc1
        clear hb0
        obtain ⟨zc0, zc1⟩ := kC.out _ HB_4
        have hbF := below_ext HBw.out HB_4.out
        go_wp2
        go_ret
        exact ⟨rfl, hbF⟩
      | true =>
        have HT : Kp (trlB os hs = true) := ⟨htr⟩
        clear htr
        go_wp2_with fail
        refine (tval_any O os n c K hs m d hn hm HI.out hb1 hb2 true HT _ (kD.out _ HB_2) (kO.out _ HB_2) (kK.out _ HB_2)).mono ?_
        rintro e w3 ⟨rfl, hb0⟩
        have HB_3 := Lib.hid (below_ext HB_2.out hb0)
        clear zc0 zc1
        clear hb0
        obtain ⟨zc0, zc1⟩ := kC.out _ HB_3
        go_wp2_with fail
        refine (rtval_any O os n c K hs m d hn hm HI.out hb1 hb2 true HT _ (kD.out _ HB_3) (kO.out _ HB_3) (kK.out _ HB_3)).mono ?_
        rintro e w4 ⟨rfl, hb0⟩
        have HB_4 := Lib.hid (below_ext HB_3.out hb0)
        clear zc0 zc1
        clear hb0
        obtain ⟨zc0, zc1⟩ := kC.out _ HB_4
        obtain ⟨i, hrem, him⟩ : ∃ i : Nat, wh % (m : Int) = (i : Int) ∧ i < m := ⟨(wh % (m : Int)).toNat, by rw [Int.toNat_of_nonneg (Int.emod_nonneg _ (by omega))], by have := Int.emod_lt_of_pos wh (show (0 : Int) < m by omega); have := Int.emod_nonneg wh (show (m : Int) ≠ 0 by omega); omega⟩
        have HCK := Lib.hid (closed_key HT.1 (i := i) (by rw [hm.out]; exact him))
        have hin : i < n := by rw [← hn.out]; exact HCK.out.1
        have HLN : Hid (∀ x ∈ hs, x.length = 32) := Lib.hid (hs_lens ((kK.out _ HB_4)).out)
        have HNP : ∀ k, k < n → (orL os k).np ≤ 1000000 := fun k hk => by
          have h1 := (trR_parts (trS_get (trl_parts HT.1).1 k (by rw [hn.out]; exact hk))).1
          simp only [ordB, Bool.and_eq_true, decide_eq_true_eq] at h1
          have := h1.2.2.2.2.1; omega
        have HOB := Lib.hid ((kO.out _ HB_4)).out
        have HB_w4_4 : Hid (Below w4.heap.size w4 w4) := Lib.hid (Below.refl _ _)
        go_wp2_with fail
        refine (copy_any O os n c K hs m d hn hm hb1 hb2 HNP _ (kO.out _ HB_4) (kK.out _ HB_4)).mono ?_
        rintro e w5 ⟨O', c', K', d', os', rfl, hl', hc', hd', hcp, hoO, hoK, hne1, hne2, hdis, hb0⟩
        have HBL := hb0
        have HB_5 := Lib.hid (below_ext HB_4.out hb0)
        have HB_w4_5 := Lib.hid (below_ext HB_w4_4.out hb0)
        clear zc0 zc1
        clear hb0
        obtain ⟨gO, gK, rfl, rfl, ⟨cc1, cc2⟩, ⟨cd1, cd2⟩, hcd⟩ := cpy_cpd hn.out hl' hm.out (by omega) (by omega) HLN.out HOB.out hcp hoO hoK hne1 hne2 HBL
        have HREL : Hid (∀ k, k < n → ∃ L cx, orL os' k = reL (orL os k) L cx) := Lib.hid fun k hk => by
          obtain ⟨L, cx, e, _⟩ := hcp k hk
          exact ⟨L, cx, e⟩
        have HDIS := Lib.hid hdis
        have HL' := Lib.hid hl'
        have HCD := Lib.hid hcd
        clear hl' hc' hd' hcp hoO hoK hne1 hne2 hdis hcd HNP HBL
        rw [hrem]
        clear hrem
        have HB_w5_5 : Hid (Below w5.heap.size w5 w5) := Lib.hid (Below.refl _ _)
        obtain ⟨zc0, zc1⟩ := kC.out _ HB_5
        have hq := below_box0 w5 (tlO (some ⟨gO, 0, none⟩) n c' (some ⟨gK, 0, none⟩) m d')
        have HB_6 := Lib.hid (below_ext HB_5.out hq)
        have HB_w4_6 := Lib.hid (below_ext HB_w4_5.out hq)
        have HB_w5_6 := Lib.hid (below_ext HB_w5_5.out hq)
        have hc : (w5.alloc (tlO (some ⟨gO, 0, none⟩) n c' (some ⟨gK, 0, none⟩) m d')).cell? ⟨w5.heap.size, 0, none⟩ = some (.slice (some ⟨gO, 0, none⟩) n c') ∧ (w5.alloc (tlO (some ⟨gO, 0, none⟩) n c' (some ⟨gK, 0, none⟩) m d')).cell? ⟨w5.heap.size, 1, none⟩ = some (.slice (some ⟨gK, 0, none⟩) m d') := ⟨allocs_cell rfl (by rfl), allocs_cell rfl (by rfl)⟩
        have HC6 := Lib.hid hc
        clear zc0 zc1
        clear hq
        obtain ⟨zc0, zc1⟩ := kC.out _ HB_6
        obtain ⟨zq0, zq1⟩ := hc
        go_upto_region 12 with (fail)
        obtain ⟨w6, hw⟩ : ∃ x, (w5.alloc (tlO (some ⟨gO, 0, none⟩) n c' (some ⟨gK, 0, none⟩) m d')) = x := ⟨_, rfl⟩
        rw [hw] at HC6 HB_6 HB_w4_6 HB_w5_6 ⊢
        have HSN6 : Hid (w6.heap.size = w5.heap.size + 1) := Lib.hid (by rw [← hw]; simp)
        clear zc0 zc1 zq0 zq1
        clear hw
        have HB_w6_6 : Hid (Below w6.heap.size w6 w6) := Lib.hid (Below.refl _ _)
        have kT := Lib.hid (show ∀ u : World, Hid (Below w6.heap.size w6 u) → u.cell? ⟨w5.heap.size, 0, none⟩ = some (.slice (some ⟨gO, 0, none⟩) n c') ∧ u.cell? ⟨w5.heap.size, 1, none⟩ = some (.slice (some ⟨gK, 0, none⟩) m d') from fun u h => ⟨cell_below HC6.out.1 h.out, cell_below HC6.out.2 h.out⟩)
        obtain ⟨zc0, zc1⟩ := kC.out _ HB_6
        obtain ⟨kT_0, kT_1⟩ := kT.out _ HB_w6_6
        have HCD6 : Hid (Cpd w4 w6 w5.heap.size gO gK os' hs n m) := Lib.hid (HCD.out.keep (fun b hb => (HB_w5_6).out.block b hb) (HB_w4_6).out)
        have hil : i < os'.length := by rw [HL'.out]; exact hin
        have hcell : w6.cell? ⟨gO, i * 9 + 2, none⟩ = some (.int .i64 (orL os' i).E1) := HCD6.out.ro.at_ i hil 2 _ rfl
        have hfrz : w6.frozen? ⟨gO, i * 9 + 2, none⟩ = false := by
          have := (HCD6.out.ro.there (i * 9 + 2) (by omega)).2
          rwa [Nat.zero_add] at this
        have HRS := Lib.hid (rs_small (os' := os') HT.1 hn.out hin HREL.out)
        go_upto_region 27 with (fail)
        obtain ⟨hs1, hs2, hs3, hs4⟩ := HRS.out
        clear zc0 zc1 kT_0 kT_1
        obtain ⟨X2, hX2⟩ : ∃ x, ({ orL os' i with E1 := wrap64 ((orL os' i).E1 + 1) } : OrdR) = x := ⟨_, rfl⟩
        have HCD7 : Hid (Cpd w4 (w6.setCell ⟨gO, i * 9 + 2, none⟩ (.int .i64 (wrap64 ((orL os' i).E1 + 1)))) w5.heap.size gO gK (os'.set i X2) hs n m) := Lib.hid (by rw [← hX2]; exact HCD6.out.setO hil (by decide) rfl (fun e => ⟨e.la, e.lz, e.lp, e.A, e.Z, e.p, e.b⟩))
        have HI2 : Hid (∀ k, k < n → OrdI (orL (os'.set i X2) k)) := Lib.hid (ordI_set HL'.out HREL.out HI.out hin (by rw [← hX2]; exact fun h => ⟨h.1, wrap64_i64 _, h.2.2⟩))
        have HAG : Hid (∀ j, j < i → (orL (os'.set i X2) j).key = (orL os j).key ∧ oIt (orL (os'.set i X2) j) = oIt (orL os j)) := Lib.hid (set_agree HL'.out HREL.out hin)
        have HKY : Hid ((orL (os'.set i X2) i).key ≠ 0) := Lib.hid (by rw [← hX2]; exact (by rw [orL_set hil, if_pos rfl]; show (orL os' i).key ≠ 0; rw [hs3]; exact HCK.out.2))
        have HL2 : Hid ((os'.set i X2).length = n) := Lib.hid (by rw [List.length_set]; exact HL'.out)
        have HX2 : Hid (orL (os'.set i X2) i = X2) := Lib.hid (by rw [orL_set hil, if_pos rfl])
        obtain ⟨os2, hos2⟩ : ∃ x, os'.set i X2 = x := ⟨_, rfl⟩
        rw [hos2] at HCD7 HI2 HAG HKY HL2 HX2
        have HBX7 : Hid (Below w0.heap.size w0 (w6.setCell ⟨gO, i * 9 + 2, none⟩ (.int .i64 (wrap64 ((orL os' i).E1 + 1))))) := Lib.hid (HB_6.out.setCell (p := ⟨gO, _, none⟩) (by have h1 := HCD6.out.lg.1; have h2 := HB_4.out.size; exact Nat.le_trans h2 h1) _)
        have HC7 : Hid ((w6.setCell ⟨gO, i * 9 + 2, none⟩ (.int .i64 (wrap64 ((orL os' i).E1 + 1)))).cell? ⟨w5.heap.size, 0, none⟩ = some (.slice (some ⟨gO, 0, none⟩) n c') ∧ (w6.setCell ⟨gO, i * 9 + 2, none⟩ (.int .i64 (wrap64 ((orL os' i).E1 + 1)))).cell? ⟨w5.heap.size, 1, none⟩ = some (.slice (some ⟨gK, 0, none⟩) m d')) := Lib.hid (by
          have hne : gO < w5.heap.size := HCD.out.lg.2
          exact ⟨(World.cell?_setCell_other _ _ _ _ (fun e => by simp at e <;> omega)).trans HC6.out.1, (World.cell?_setCell_other _ _ _ _ (fun e => by simp at e <;> omega)).trans HC6.out.2⟩)
        obtain ⟨w7, hw7⟩ : ∃ x, (w6.setCell ⟨gO, i * 9 + 2, none⟩ (.int .i64 (wrap64 ((orL os' i).E1 + 1)))) = x := ⟨_, rfl⟩
        rw [hw7] at HCD7 HBX7 HC7 ⊢
        clear hw7 hos2 hX2
        clear hcell hfrz
        have HB_w7_7 : Hid (Below w7.heap.size w7 w7) := Lib.hid (Below.refl _ _)
        have kO2 := Lib.hid (show ∀ u : World, Hid (Below w7.heap.size w7 u) → Hid (Os u (some ⟨gO, 0, none⟩) os2) from fun u h => Lib.hid (HCD7.out.osr.below h.out))
        have kK2 := Lib.hid (show ∀ u : World, Hid (Below w7.heap.size w7 u) → Hid (Hs u (some ⟨gK, 0, none⟩) hs) from fun u h => Lib.hid ((HCD7.out.hsr HLN.out).below h.out))
        have kT2 := Lib.hid (show ∀ u : World, Hid (Below w7.heap.size w7 u) → u.cell? ⟨w5.heap.size, 0, none⟩ = some (.slice (some ⟨gO, 0, none⟩) n c') ∧ u.cell? ⟨w5.heap.size, 1, none⟩ = some (.slice (some ⟨gK, 0, none⟩) m d') from fun u h => ⟨cell_below HC7.out.1 h.out, cell_below HC7.out.2 h.out⟩)
        obtain ⟨zc0, zc1⟩ := kC.out _ HBX7
        obtain ⟨kT2_0, kT2_1⟩ := kT2.out _ HB_w7_7
        cases htr2 : trlB os2 hs with
        | false =>
          have HT2 : Kp (trlB os2 hs = false) := ⟨htr2⟩
          clear htr2
          go_wp2_with fail
          refine (tval_any (some ⟨gO, 0, none⟩) os2 n c' (some ⟨gK, 0, none⟩) hs m d' HL2 hm HI2.out hb1 hb2 false HT2 _ (kD.out _ HBX7) (kO2.out _ HB_w7_7) (kK2.out _ HB_w7_7)).mono ?_
          rintro e w8 ⟨rfl, hb0⟩
          have HB_8 := Lib.hid (below_ext HBX7.out hb0)
          have HB_w7_8 := Lib.hid (below_ext HB_w7_7.out hb0)
          clear zc0 zc1 kT2_0 kT2_1
          clear hb0
          obtain ⟨zc0, zc1⟩ := kC.out _ HB_8
          obtain ⟨kT2_0, kT2_1⟩ := kT2.out _ HB_w7_8
          have hbF := below_ext HBw.out HB_8.out
          go_wp2
          go_ret
          exact ⟨rfl, hbF⟩
        | true =>
          have HT2 : Kp (trlB os2 hs = true) := ⟨htr2⟩
          clear htr2
          have hlk := kept_link HT.1 HT2.1 (i := i) (by rw [hm.out]; exact him) (by rw [HL2.out, hn.out]) HAG.out HKY.out
          have HBE := Lib.hid (bef_hb HT.1 (i := i) (by rw [hm.out]; omega))
          obtain ⟨hB, hhB⟩ : ∃ x, befL hs i = x := ⟨_, rfl⟩
          rw [hhB] at hlk HBE
          have HHB := Lib.hid hhB
          have HBL : Hid (hB.length = 32) := Lib.hid (by rw [HBE.out]; exact hbL_len _ _)
          have HBB : Hid (bytesB hB = true) := Lib.hid (by rw [HBE.out]; exact hbL_b _ _)
          have hoI := HI2.out i hin
          obtain ⟨bq, fq, eq0, hnine, hok⟩ := ((kO2.out _ HB_w7_7)).out i (by rw [HL2.out]; exact hin)
          cases eq0
          rw [show os2.getD i noOrd = X2 from HX2.out] at hnine hok
          rw [HX2.out] at hlk hoI
          have HOI := Lib.hid hoI
          have HOS := ordS_of (by have := (trR_parts (trS_get (trl_parts HT2.1).1 i (by rw [HL2.out]; exact hin))).1; rw [HX2.out] at this; exact this) hok
          have HOK := Lib.hid hok
          have HNI := Lib.hid hnine
          obtain ⟨RR, hRR⟩ : ∃ x, lnk hB X2 = x := ⟨_, rfl⟩
          rw [hRR] at hlk
          have HRR : Kp (lnk hB X2 = RR) := ⟨hRR⟩
          have HRL : Hid (RR.length = 32) := Lib.hid (by rw [← hRR]; exact lnk_len _ _)
          obtain ⟨b2, f2, ek, hkl, hrg⟩ := ((kK.out _ HBX7)).out i (by rw [hm.out]; exact him)
          cases ek
          obtain ⟨hk9, hhk⟩ : ∃ x, hsL hs i = x := ⟨_, rfl⟩
          rw [hhk] at hlk hkl hrg
          have HLK := Lib.hid hkl
          have HRG := Lib.hid hrg
          have HEQ : Hid ((RR == hk9) = true) := Lib.hid (by rw [hlk]; simp)
          clear hlk hkl hrg hhk hRR hhB hoI hok hnine hs1 hs2 hs3 hs4
          go_wp2_with fail
          refine (tval_any (some ⟨gO, 0, none⟩) os2 n c' (some ⟨gK, 0, none⟩) hs m d' HL2 hm HI2.out hb1 hb2 true HT2 _ (kD.out _ HBX7) (kO2.out _ HB_w7_7) (kK2.out _ HB_w7_7)).mono ?_
          rintro e w8 ⟨rfl, hb0⟩
          have HB_8 := Lib.hid (below_ext HBX7.out hb0)
          have HB_w7_8 := Lib.hid (below_ext HB_w7_7.out hb0)
          clear zc0 zc1 kT2_0 kT2_1
          clear hb0
          obtain ⟨zc0, zc1⟩ := kC.out _ HB_8
          obtain ⟨kT2_0, kT2_1⟩ := kT2.out _ HB_w7_8
          have kOK := Lib.hid (show ∀ u : World, Hid (Below w7.heap.size w7 u) → Hid (OrdOk u X2) from fun u h => Lib.hid (HOK.out.below h.out))
          have kRG := Lib.hid (show ∀ u : World, Hid (Below w7.heap.size w7 u) → Hid (u.rangeAt b2 (f2 + i * 32) (hk9.map (Value.int .u8))) from fun u h => Lib.hid (rangeAt_below HRG.out h.out))
          have kNI := Lib.hid (show ∀ u : World, Hid (Below w7.heap.size w7 u) → u.cell? ⟨gO, i * 9, none⟩ = some (.int .i64 X2.num) ∧ u.cell? ⟨gO, i * 9 + 1, none⟩ = some (.string X2.rs) ∧ u.cell? ⟨gO, i * 9 + 2, none⟩ = some (.int .i64 X2.E1) ∧ u.cell? ⟨gO, i * 9 + 3, none⟩ = some (.int .i64 X2.E2) ∧ u.cell? ⟨gO, i * 9 + 4, none⟩ = some (.slice X2.A X2.na X2.ca) ∧ u.cell? ⟨gO, i * 9 + 5, none⟩ = some (.int .i64 X2.C) ∧ u.cell? ⟨gO, i * 9 + 6, none⟩ = some (.slice X2.Z X2.nz X2.cz) ∧ u.cell? ⟨gO, i * 9 + 7, none⟩ = some (.slice X2.L X2.np X2.cp) ∧ u.cell? ⟨gO, i * 9 + 8, none⟩ = some (.int .i64 X2.key) from fun u h => by have h9 := HNI.out.below h.out; rw [Nat.zero_add] at h9; exact h9)
          obtain ⟨zc0x, zc1x⟩ := kC.out _ HB_8
          obtain ⟨kT2_0x, kT2_1x⟩ := kT2.out _ HB_w7_8
          obtain ⟨kNI_0x, kNI_1x, kNI_2x, kNI_3x, kNI_4x, kNI_5x, kNI_6x, kNI_7x, kNI_8x⟩ := kNI.out _ HB_w7_8
          have hlt4 : decide (kd.tmod 6 < 4) = true := by rw [Int.tmod_eq_emod_of_nonneg hk0, hq]; rfl
          go_upto_region 29 with (fail)
          clear zc0 zc1 kT2_0 kT2_1 zc0x zc1x kT2_0x kT2_1x kNI_0x kNI_1x kNI_2x kNI_3x kNI_4x kNI_5x kNI_6x kNI_7x kNI_8x
          have hBx9 := Lib.hid (show ∀ u u2 : World, Hid (Below w0.heap.size w0 u ∧ Below w7.heap.size w7 u) → Below u.heap.size u u2 → Hid (Below w0.heap.size w0 u2 ∧ Below w7.heap.size w7 u2) from fun u u2 h1 h2 => Lib.hid ⟨(below_ext h1.out.1 h2), (below_ext h1.out.2 h2)⟩)
          have hS9 := Lib.hid (show ∀ u : World, Hid (Below w0.heap.size w0 u ∧ Below w7.heap.size w7 u) → (u.cell? ⟨w.heap.size, 0, none⟩ = some (.slice O n c) ∧ u.cell? ⟨w.heap.size, 1, none⟩ = some (.slice (some ⟨b2, f2, none⟩) m d) ∧ u.cell? ⟨w5.heap.size, 0, none⟩ = some (.slice (some ⟨gO, 0, none⟩) n c') ∧ u.cell? ⟨w5.heap.size, 1, none⟩ = some (.slice (some ⟨gK, 0, none⟩) m d') ∧ u.cell? ⟨gO, i * 9, none⟩ = some (.int .i64 X2.num) ∧ u.cell? ⟨gO, i * 9 + 1, none⟩ = some (.string X2.rs) ∧ u.cell? ⟨gO, i * 9 + 2, none⟩ = some (.int .i64 X2.E1) ∧ u.cell? ⟨gO, i * 9 + 3, none⟩ = some (.int .i64 X2.E2) ∧ u.cell? ⟨gO, i * 9 + 4, none⟩ = some (.slice X2.A X2.na X2.ca) ∧ u.cell? ⟨gO, i * 9 + 5, none⟩ = some (.int .i64 X2.C) ∧ u.cell? ⟨gO, i * 9 + 6, none⟩ = some (.slice X2.Z X2.nz X2.cz) ∧ u.cell? ⟨gO, i * 9 + 7, none⟩ = some (.slice X2.L X2.np X2.cp) ∧ u.cell? ⟨gO, i * 9 + 8, none⟩ = some (.int .i64 X2.key) ∧ Hid (Below w0.heap.size w0 u ∧ Below w7.heap.size w7 u)) from fun u h1 => by
            obtain ⟨y0, y1⟩ := kC.out _ (Lib.hid h1.out.1)
            obtain ⟨kT2_0, kT2_1⟩ := kT2.out _ (Lib.hid h1.out.2)
            obtain ⟨kNI_0, kNI_1, kNI_2, kNI_3, kNI_4, kNI_5, kNI_6, kNI_7, kNI_8⟩ := kNI.out _ (Lib.hid h1.out.2)
            exact ⟨y0, y1, kT2_0, kT2_1, kNI_0, kNI_1, kNI_2, kNI_3, kNI_4, kNI_5, kNI_6, kNI_7, kNI_8, h1⟩)
          have HBA9 : Hid (Below w0.heap.size w0 w8 ∧ Below w7.heap.size w7 w8) := Lib.hid ⟨HB_8.out, HB_w7_8.out⟩
          refine wp_region_T (S := fun w' => w'.cell? ⟨w.heap.size, 0, none⟩ = some (.slice O n c) ∧ w'.cell? ⟨w.heap.size, 1, none⟩ = some (.slice (some ⟨b2, f2, none⟩) m d) ∧ w'.cell? ⟨w5.heap.size, 0, none⟩ = some (.slice (some ⟨gO, 0, none⟩) n c') ∧ w'.cell? ⟨w5.heap.size, 1, none⟩ = some (.slice (some ⟨gK, 0, none⟩) m d') ∧ w'.cell? ⟨gO, i * 9, none⟩ = some (.int .i64 X2.num) ∧ w'.cell? ⟨gO, i * 9 + 1, none⟩ = some (.string X2.rs) ∧ w'.cell? ⟨gO, i * 9 + 2, none⟩ = some (.int .i64 X2.E1) ∧ w'.cell? ⟨gO, i * 9 + 3, none⟩ = some (.int .i64 X2.E2) ∧ w'.cell? ⟨gO, i * 9 + 4, none⟩ = some (.slice X2.A X2.na X2.ca) ∧ w'.cell? ⟨gO, i * 9 + 5, none⟩ = some (.int .i64 X2.C) ∧ w'.cell? ⟨gO, i * 9 + 6, none⟩ = some (.slice X2.Z X2.nz X2.cz) ∧ w'.cell? ⟨gO, i * 9 + 7, none⟩ = some (.slice X2.L X2.np X2.cp) ∧ w'.cell? ⟨gO, i * 9 + 8, none⟩ = some (.int .i64 X2.key) ∧ Hid (Below w0.heap.size w0 w' ∧ Below w7.heap.size w7 w')) (E := []) (by kernel_rfl) (hS9.out _ (hBx9.out _ _ HBA9 ((Below.refl _ _).drew))) (fun hHeld => ?_)
          refine tkV 0 ?_
          try simp only [qq1, qq2, qq3, Act.put, qq4, qq5, qq6]
          refine tkV 1 ?_
          try simp only [qq1, qq2, qq3, Act.put, qq4, qq5, qq6]
          refine tkV 2 ?_
          try simp only [qq1, qq2, qq3, Act.put, qq4, qq5, qq6]
          refine tkV 3 ?_
          try simp only [qq1, qq2, qq3, Act.put, qq4, qq5, qq6]
          refine tkV 4 ?_
          try simp only [qq1, qq2, qq3, Act.put, qq4, qq5, qq6]
          refine tkV 5 ?_
          try simp only [qq1, qq2, qq3, Act.put, qq4, qq5, qq6]
          refine tkV 7 ?_
          try simp only [qq1, qq2, qq3, Act.put, qq4, qq5, qq6]
          refine tkV 8 ?_
          try simp only [qq1, qq2, qq3, Act.put, qq4, qq5, qq6]
          refine tkV 9 ?_
          try simp only [qq1, qq2, qq3, Act.put, qq4, qq5, qq6]
          refine tkV 10 ?_
          try simp only [qq1, qq2, qq3, Act.put, qq4, qq5, qq6]
          refine tkV 11 ?_
          try simp only [qq1, qq2, qq3, Act.put, qq4, qq5, qq6]
          refine tkV 13 ?_
          try simp only [qq1, qq2, qq3, Act.put, qq4, qq5, qq6]
          refine tkV 14 ?_
          try simp only [qq1, qq2, qq3, Act.put, qq4, qq5, qq6]
          refine tkV 15 ?_
          try simp only [qq1, qq2, qq3, Act.put, qq4, qq5, qq6]
          refine tkV 16 ?_
          try simp only [qq1, qq2, qq3, Act.put, qq4, qq5, qq6]
          refine wpT_take (i := 17) (oi := _) (v := (.agg (arr .u8 hk9))) rfl (by kernel_rfl) (by kernel_rfl) (by kernel_rfl) (by kernel_rfl) (fun _ _ _ h => h) (Or.inl ⟨by rfl, yields_mid 43 _ rfl b2 (f2 + i * 32) rfl (hk9.map (Value.int .u8)) _ (fun _ hq => ((kRG.out _ (Lib.hid (hq.2.2.2.2.2.2.2.2.2.2.2.2.2).out.2))).out) Tryd.underlying43 rfl (map_size HLK.out)⟩) (by assumption) ?_
          try simp only [qq1, qq2, qq3, Act.put, qq4, qq5, qq6]
          refine wpT_one (i := 6) (by kernel_rfl) rfl (fun K hK => ?_)
          go_simp
          refine (rbefore_any O n c (some ⟨b2, f2, none⟩) hs m d i hm (by omega) hb2 _ (kK.out _ (Lib.hid (hHeld.2.2.2.2.2.2.2.2.2.2.2.2.2).out.1))).mono ?_
          rintro e wA ⟨rfl, hbA⟩
          rw [HHB.out]
          refine hK.out _ _ ?_ (fun hHeld => ?_)
          · exact hS9.out _ (hBx9.out _ _ hHeld.2.2.2.2.2.2.2.2.2.2.2.2.2 hbA)
          clear hK K
          try simp only [qq1, qq2, qq3, Act.put, qq4, qq5, qq6]
          refine wpT_one (i := 12) (by kernel_rfl) rfl (fun K hK => ?_)
          go_simp
          refine (rlink_any hB HBL HBB X2 HOI HOS _ (kD.out _ (Lib.hid (hHeld.2.2.2.2.2.2.2.2.2.2.2.2.2).out.1)) (kOK.out _ (Lib.hid (hHeld.2.2.2.2.2.2.2.2.2.2.2.2.2).out.2))).mono ?_
          rintro e wA ⟨rfl, hbA⟩
          rw [HRR.1]
          refine hK.out _ _ ?_ (fun hHeld => ?_)
          · exact hS9.out _ (hBx9.out _ _ hHeld.2.2.2.2.2.2.2.2.2.2.2.2.2 hbA)
          clear hK K
          try simp only [qq1, qq2, qq3, Act.put, qq4, qq5, qq6]
          refine wpT_take (i := 18) (oi := _) (v := (.bool true)) rfl (by kernel_rfl) (by kernel_rfl) (by kernel_rfl) (by kernel_rfl) (fun _ _ _ h => h) (Or.inl ⟨by rfl, yields_eql_hash _ _ _ rfl RR hk9 HRL.out HLK.out rfl rfl true HEQ.out⟩) (by assumption) ?_
          try simp only [qq1, qq2, qq3, Act.put, qq4, qq5, qq6]
          refine tkV 19 ?_
          try simp only [qq1, qq2, qq3, Act.put, qq4, qq5, qq6]
          refine tkV 20 ?_
          try simp only [qq1, qq2, qq3, Act.put, qq4, qq5, qq6]
          refine wpT_done (by kernel_rfl) ?_ _
          obtain ⟨x0, x1, x2, x3, x4, x5, x6, x7, x8, x9, x10, x11, x12, FB9⟩ := hHeld
          clear x0 x1 x2 x3 x4 x5 x6 x7 x8 x9 x10 x11 x12 hS9 hBx9 HBA9
          have HL9_w0 := Lib.hid FB9.out.1
          have HL9_w7 := Lib.hid FB9.out.2
          obtain ⟨zc0, zc1⟩ := kC.out _ HL9_w0
          obtain ⟨kT2_0, kT2_1⟩ := kT2.out _ HL9_w7
          obtain ⟨kNI_0, kNI_1, kNI_2, kNI_3, kNI_4, kNI_5, kNI_6, kNI_7, kNI_8⟩ := kNI.out _ HL9_w7
          have hbF := below_ext HBw.out HL9_w0.out
          go_wp2
          go_ret
          exact ⟨rfl, hbF⟩
set_option maxHeartbeats 6400000 in
theorem tk_3 (O : Option Addr) (os : List OrdR) (n c : Nat) (K : Option Addr) (hs : List (List Int)) (m d : Nat) (hn : Hid (os.length = n)) (hm : Hid (hs.length = m)) (hI : ∀ k, k < n → OrdI (orL os k)) (wh kd : Int) (hw0 : 0 ≤ wh) (hw1 : wh < 256) (hk0 : 0 ≤ kd) (hk1 : kd < 256) (hq : kd % 6 = 3) (w : World) (hv : Hid (VarsD w)) (hO : Hid (Os w O os)) (hK : Hid (Hs w K hs)) :
    Calls Tryd.prog 3 #[tlV O n c K m d, .int .u8 wh, .int .u8 kd] w fun e' w' => e' = .returned (.bool true) ∧ Below w.heap.size w w' := by
  obtain ⟨w0, HW, HBw, kC⟩ := stTl O n c K m d w
  have kD := Lib.hid (show ∀ u : World, Hid (Below w0.heap.size w0 u) → Hid (VarsD u) from fun u h => Lib.hid ((hv.out.below) (below_ext HBw.out h.out)))
  have kO := Lib.hid (show ∀ u : World, Hid (Below w0.heap.size w0 u) → Hid (Os u O os) from fun u h => Lib.hid ((hO.out.below) (below_ext HBw.out h.out)))
  have kK := Lib.hid (show ∀ u : World, Hid (Below w0.heap.size w0 u) → Hid (Hs u K hs) from fun u h => Lib.hid ((hK.out.below) (below_ext HBw.out h.out)))
  have HB_0 : Hid (Below w0.heap.size w0 w0) := Lib.hid (Below.refl _ _)
  clear hO hK hv
  have HI := Lib.hid hI
  clear hI
  go_enter Tryd.func3, Tryd.ntmps3
  go_wp2_with fail
  rw [HW.out]
  obtain ⟨zc0, zc1⟩ := kC.out _ HB_0
  go_wp2_with fail
  refine (awake51 _ (kD.out _ HB_0)).mono ?_
  rintro e w1 ⟨rfl, hb0⟩
  have HB_1 := Lib.hid (below_ext HB_0.out hb0)
  clear zc0 zc1
  clear hb0
  obtain ⟨zc0, zc1⟩ := kC.out _ HB_1
  go_wp2_with fail
  refine (few51_any O os n c K m d hn _ (kO.out _ HB_1)).mono ?_
  rintro e w2 ⟨bf, rfl, hbf, hb0⟩
  have HB_2 := Lib.hid (below_ext HB_1.out hb0)
  clear zc0 zc1
  clear hb0
  obtain ⟨zc0, zc1⟩ := kC.out _ HB_2
  have HBF := Lib.hid hbf
  clear hbf
  cases bf with
  | false =>
    go_wp2_with fail
    refine (awake51 _ (kD.out _ HB_2)).mono ?_
    rintro e w3 ⟨rfl, hb0⟩
    have HB_3 := Lib.hid (below_ext HB_2.out hb0)
    clear zc0 zc1
    clear hb0
    obtain ⟨zc0, zc1⟩ := kC.out _ HB_3
    have hbF := below_ext HBw.out HB_3.out
    go_wp2
    go_ret
    exact ⟨rfl, hbF⟩
  | true =>
    have hbb := HBF.out rfl
    have hb1 : n ≤ 1000000 := by omega
    have hb2 : m ≤ 1000000 := by omega
    clear hbb HBF
    have d0 : ((m : Int) == 0) = decide (m = 0) := by rw [Bool.eq_iff_iff]; simp
    by_cases hm0 : m = 0
    · have d1 : decide (m = 0) = true := by simp [hm0]
      rw [d1] at d0
      go_wp2_with fail
      refine (awake51 _ (kD.out _ HB_2)).mono ?_
      rintro e w3 ⟨rfl, hb0⟩
      have HB_3 := Lib.hid (below_ext HB_2.out hb0)
      clear zc0 zc1
      clear hb0
      obtain ⟨zc0, zc1⟩ := kC.out _ HB_3
      have hbF := below_ext HBw.out HB_3.out
      go_wp2
      go_ret
      exact ⟨rfl, hbF⟩
    · have d1 : decide (m = 0) = false := by simp [hm0]
      rw [d1] at d0
      cases htr : trlB os hs with
      | false =>
        have HT : Kp (trlB os hs = false) := ⟨htr⟩
        clear htr
        go_wp2_with fail
        refine (tval_any O os n c K hs m d hn hm HI.out hb1 hb2 false HT _ (kD.out _ HB_2) (kO.out _ HB_2) (kK.out _ HB_2)).mono ?_
        rintro e w3 ⟨rfl, hb0⟩
        have HB_3 := Lib.hid (below_ext HB_2.out hb0)
        clear zc0 zc1
        clear hb0
        obtain ⟨zc0, zc1⟩ := kC.out _ HB_3
        go_wp2_with fail
        refine (awake51 _ (kD.out _ HB_3)).mono ?_
        rintro e w4 ⟨rfl, hb0⟩
        have HB_4 := Lib.hid (below_ext HB_3.out hb0)
        clear zc0 zc1
        clear hb0
        obtain ⟨zc0, zc1⟩ := kC.out _ HB_4
        have hbF := below_ext HBw.out HB_4.out
        go_wp2
        go_ret
        exact ⟨rfl, hbF⟩
      | true =>
        have HT : Kp (trlB os hs = true) := ⟨htr⟩
        clear htr
        go_wp2_with fail
        refine (tval_any O os n c K hs m d hn hm HI.out hb1 hb2 true HT _ (kD.out _ HB_2) (kO.out _ HB_2) (kK.out _ HB_2)).mono ?_
        rintro e w3 ⟨rfl, hb0⟩
        have HB_3 := Lib.hid (below_ext HB_2.out hb0)
        clear zc0 zc1
        clear hb0
        obtain ⟨zc0, zc1⟩ := kC.out _ HB_3
        go_wp2_with fail
        refine (rtval_any O os n c K hs m d hn hm HI.out hb1 hb2 true HT _ (kD.out _ HB_3) (kO.out _ HB_3) (kK.out _ HB_3)).mono ?_
        rintro e w4 ⟨rfl, hb0⟩
        have HB_4 := Lib.hid (below_ext HB_3.out hb0)
        clear zc0 zc1
        clear hb0
        obtain ⟨zc0, zc1⟩ := kC.out _ HB_4
        obtain ⟨i, hrem, him⟩ : ∃ i : Nat, wh % (m : Int) = (i : Int) ∧ i < m := ⟨(wh % (m : Int)).toNat, by rw [Int.toNat_of_nonneg (Int.emod_nonneg _ (by omega))], by have := Int.emod_lt_of_pos wh (show (0 : Int) < m by omega); have := Int.emod_nonneg wh (show (m : Int) ≠ 0 by omega); omega⟩
        have HCK := Lib.hid (closed_key HT.1 (i := i) (by rw [hm.out]; exact him))
        have hin : i < n := by rw [← hn.out]; exact HCK.out.1
        have HLN : Hid (∀ x ∈ hs, x.length = 32) := Lib.hid (hs_lens ((kK.out _ HB_4)).out)
        have HNP : ∀ k, k < n → (orL os k).np ≤ 1000000 := fun k hk => by
          have h1 := (trR_parts (trS_get (trl_parts HT.1).1 k (by rw [hn.out]; exact hk))).1
          simp only [ordB, Bool.and_eq_true, decide_eq_true_eq] at h1
          have := h1.2.2.2.2.1; omega
        have HOB := Lib.hid ((kO.out _ HB_4)).out
        have HB_w4_4 : Hid (Below w4.heap.size w4 w4) := Lib.hid (Below.refl _ _)
        go_wp2_with fail
        refine (copy_any O os n c K hs m d hn hm hb1 hb2 HNP _ (kO.out _ HB_4) (kK.out _ HB_4)).mono ?_
        rintro e w5 ⟨O', c', K', d', os', rfl, hl', hc', hd', hcp, hoO, hoK, hne1, hne2, hdis, hb0⟩
        have HBL := hb0
        have HB_5 := Lib.hid (below_ext HB_4.out hb0)
        have HB_w4_5 := Lib.hid (below_ext HB_w4_4.out hb0)
        clear zc0 zc1
        clear hb0
        obtain ⟨gO, gK, rfl, rfl, ⟨cc1, cc2⟩, ⟨cd1, cd2⟩, hcd⟩ := cpy_cpd hn.out hl' hm.out (by omega) (by omega) HLN.out HOB.out hcp hoO hoK hne1 hne2 HBL
        have HREL : Hid (∀ k, k < n → ∃ L cx, orL os' k = reL (orL os k) L cx) := Lib.hid fun k hk => by
          obtain ⟨L, cx, e, _⟩ := hcp k hk
          exact ⟨L, cx, e⟩
        have HDIS := Lib.hid hdis
        have HL' := Lib.hid hl'
        have HCD := Lib.hid hcd
        clear hl' hc' hd' hcp hoO hoK hne1 hne2 hdis hcd HNP HBL
        rw [hrem]
        clear hrem
        have HB_w5_5 : Hid (Below w5.heap.size w5 w5) := Lib.hid (Below.refl _ _)
        obtain ⟨zc0, zc1⟩ := kC.out _ HB_5
        have hq := below_box0 w5 (tlO (some ⟨gO, 0, none⟩) n c' (some ⟨gK, 0, none⟩) m d')
        have HB_6 := Lib.hid (below_ext HB_5.out hq)
        have HB_w4_6 := Lib.hid (below_ext HB_w4_5.out hq)
        have HB_w5_6 := Lib.hid (below_ext HB_w5_5.out hq)
        have hc : (w5.alloc (tlO (some ⟨gO, 0, none⟩) n c' (some ⟨gK, 0, none⟩) m d')).cell? ⟨w5.heap.size, 0, none⟩ = some (.slice (some ⟨gO, 0, none⟩) n c') ∧ (w5.alloc (tlO (some ⟨gO, 0, none⟩) n c' (some ⟨gK, 0, none⟩) m d')).cell? ⟨w5.heap.size, 1, none⟩ = some (.slice (some ⟨gK, 0, none⟩) m d') := ⟨allocs_cell rfl (by rfl), allocs_cell rfl (by rfl)⟩
        have HC6 := Lib.hid hc
        clear zc0 zc1
        clear hq
        obtain ⟨zc0, zc1⟩ := kC.out _ HB_6
        obtain ⟨zq0, zq1⟩ := hc
        go_upto_region 14 with (fail)
        obtain ⟨w6, hw⟩ : ∃ x, (w5.alloc (tlO (some ⟨gO, 0, none⟩) n c' (some ⟨gK, 0, none⟩) m d')) = x := ⟨_, rfl⟩
        rw [hw] at HC6 HB_6 HB_w4_6 HB_w5_6 ⊢
        have HSN6 : Hid (w6.heap.size = w5.heap.size + 1) := Lib.hid (by rw [← hw]; simp)
        clear zc0 zc1 zq0 zq1
        clear hw
        have HB_w6_6 : Hid (Below w6.heap.size w6 w6) := Lib.hid (Below.refl _ _)
        have kT := Lib.hid (show ∀ u : World, Hid (Below w6.heap.size w6 u) → u.cell? ⟨w5.heap.size, 0, none⟩ = some (.slice (some ⟨gO, 0, none⟩) n c') ∧ u.cell? ⟨w5.heap.size, 1, none⟩ = some (.slice (some ⟨gK, 0, none⟩) m d') from fun u h => ⟨cell_below HC6.out.1 h.out, cell_below HC6.out.2 h.out⟩)
        obtain ⟨zc0, zc1⟩ := kC.out _ HB_6
        obtain ⟨kT_0, kT_1⟩ := kT.out _ HB_w6_6
        have HCD6 : Hid (Cpd w4 w6 w5.heap.size gO gK os' hs n m) := Lib.hid (HCD.out.keep (fun b hb => (HB_w5_6).out.block b hb) (HB_w4_6).out)
        have hil : i < os'.length := by rw [HL'.out]; exact hin
        have hcell : w6.cell? ⟨gO, i * 9 + 7, none⟩ = some (.slice (orL os' i).L (orL os' i).np (orL os' i).cp) := HCD6.out.ro.at_ i hil 7 _ rfl
        have HRS := Lib.hid (rs_small (os' := os') HT.1 hn.out hin HREL.out)
        have d5 : (((orL os' i).np : Int) == 0) = decide ((orL os' i).np = 0) := by rw [Bool.eq_iff_iff]; simp
        by_cases hnp : (orL os' i).np = 0
        · have d6 : decide ((orL os' i).np = 0) = true := by simp [hnp]
          rw [d6] at d5
          have hbF := below_ext HBw.out HB_6.out
          go_wp2
          go_ret
          exact ⟨rfl, hbF⟩
        · have d6 : decide ((orL os' i).np = 0) = false := by simp [hnp]
          rw [d6] at d5
          obtain ⟨bP, eL, hbg, hbk, hblo, hbhi, hpb⟩ := (HCD6.out.el _ (orL_mem hil)).b (by omega)
          have hnps : (orL os' i).ps.length = (orL os' i).np := (HCD6.out.el _ (orL_mem hil)).lp.1
          have hcv : w6.cell? ⟨bP, 1, none⟩ = some (.int .i64 ((orL os' i).ps.getD 0 noPart).v) := hpb.2 0 (by omega) 1 (by decide)
          have hfrz := hpb.1 1
          have HEL := Lib.hid eL
          obtain ⟨pv, hpv⟩ : ∃ x, ((orL os' i).ps.getD 0 noPart).v = x := ⟨_, rfl⟩
          rw [hpv] at hcv
          have hp0 : 0 < (orL os' i).np := by omega
          have HPS := Lib.hid hnps
          have HDIX := Lib.hid (dis_ix HREL.out HDIS.out hin hp0)
          clear hpb hnps hpv
          rw [eL] at hcell
          go_upto_region 27 with (fail)
          obtain ⟨hs1, hs2, hs3, hs4⟩ := HRS.out
          clear zc0 zc1 kT_0 kT_1
          obtain ⟨X2, hX2⟩ : ∃ x, ({ orL os' i with ps := upP (orL os' i).ps (wrap64 (pv + 1)) } : OrdR) = x := ⟨_, rfl⟩
          have HCD7 : Hid (Cpd w4 (w6.setCell ⟨bP, 1, none⟩ (.int .i64 (wrap64 (pv + 1)))) w5.heap.size gO gK (os'.set i X2) hs n m) := Lib.hid (by rw [← hX2]; exact HCD6.out.setP hil hp0 HEL.out (fun k hk hne hk0 e => by have := HDIX.out k (by rw [← HL'.out]; exact hk) hne hk0; exact this (by rw [e, HEL.out])))
          have HI2 : Hid (∀ k, k < n → OrdI (orL (os'.set i X2) k)) := Lib.hid (ordI_set HL'.out HREL.out HI.out hin (by rw [← hX2]; exact fun h => ⟨h.1, h.2.1, h.2.2.1, h.2.2.2.1, h.2.2.2.2.1, h.2.2.2.2.2.1, h.2.2.2.2.2.2.1, up_i h.2.2.2.2.2.2.2 (by rw [HPS.out]; exact hp0) (wrap64_i64 _)⟩))
          have HAG : Hid (∀ j, j < i → (orL (os'.set i X2) j).key = (orL os j).key ∧ oIt (orL (os'.set i X2) j) = oIt (orL os j)) := Lib.hid (set_agree HL'.out HREL.out hin)
          have HKY : Hid ((orL (os'.set i X2) i).key ≠ 0) := Lib.hid (by rw [← hX2]; exact (by rw [orL_set hil, if_pos rfl]; show (orL os' i).key ≠ 0; rw [hs3]; exact HCK.out.2))
          have HL2 : Hid ((os'.set i X2).length = n) := Lib.hid (by rw [List.length_set]; exact HL'.out)
          have HX2 : Hid (orL (os'.set i X2) i = X2) := Lib.hid (by rw [orL_set hil, if_pos rfl])
          obtain ⟨os2, hos2⟩ : ∃ x, os'.set i X2 = x := ⟨_, rfl⟩
          rw [hos2] at HCD7 HI2 HAG HKY HL2 HX2
          have HBX7 : Hid (Below w0.heap.size w0 (w6.setCell ⟨bP, 1, none⟩ (.int .i64 (wrap64 (pv + 1))))) := Lib.hid (HB_6.out.setCell (p := ⟨bP, _, none⟩) (by have h1 := hblo; have h2 := HB_4.out.size; exact Nat.le_trans h2 h1) _)
          have HC7 : Hid ((w6.setCell ⟨bP, 1, none⟩ (.int .i64 (wrap64 (pv + 1)))).cell? ⟨w5.heap.size, 0, none⟩ = some (.slice (some ⟨gO, 0, none⟩) n c') ∧ (w6.setCell ⟨bP, 1, none⟩ (.int .i64 (wrap64 (pv + 1)))).cell? ⟨w5.heap.size, 1, none⟩ = some (.slice (some ⟨gK, 0, none⟩) m d')) := Lib.hid (by
            have hne : bP < w5.heap.size := hbhi
            exact ⟨(World.cell?_setCell_other _ _ _ _ (fun e => by simp at e <;> omega)).trans HC6.out.1, (World.cell?_setCell_other _ _ _ _ (fun e => by simp at e <;> omega)).trans HC6.out.2⟩)
          obtain ⟨w7, hw7⟩ : ∃ x, (w6.setCell ⟨bP, 1, none⟩ (.int .i64 (wrap64 (pv + 1)))) = x := ⟨_, rfl⟩
          rw [hw7] at HCD7 HBX7 HC7 ⊢
          clear hw7 hos2 hX2
          clear hcell hfrz
          have HB_w7_7 : Hid (Below w7.heap.size w7 w7) := Lib.hid (Below.refl _ _)
          have kO2 := Lib.hid (show ∀ u : World, Hid (Below w7.heap.size w7 u) → Hid (Os u (some ⟨gO, 0, none⟩) os2) from fun u h => Lib.hid (HCD7.out.osr.below h.out))
          have kK2 := Lib.hid (show ∀ u : World, Hid (Below w7.heap.size w7 u) → Hid (Hs u (some ⟨gK, 0, none⟩) hs) from fun u h => Lib.hid ((HCD7.out.hsr HLN.out).below h.out))
          have kT2 := Lib.hid (show ∀ u : World, Hid (Below w7.heap.size w7 u) → u.cell? ⟨w5.heap.size, 0, none⟩ = some (.slice (some ⟨gO, 0, none⟩) n c') ∧ u.cell? ⟨w5.heap.size, 1, none⟩ = some (.slice (some ⟨gK, 0, none⟩) m d') from fun u h => ⟨cell_below HC7.out.1 h.out, cell_below HC7.out.2 h.out⟩)
          obtain ⟨zc0, zc1⟩ := kC.out _ HBX7
          obtain ⟨kT2_0, kT2_1⟩ := kT2.out _ HB_w7_7
          cases htr2 : trlB os2 hs with
          | false =>
            have HT2 : Kp (trlB os2 hs = false) := ⟨htr2⟩
            clear htr2
            go_wp2_with fail
            refine (tval_any (some ⟨gO, 0, none⟩) os2 n c' (some ⟨gK, 0, none⟩) hs m d' HL2 hm HI2.out hb1 hb2 false HT2 _ (kD.out _ HBX7) (kO2.out _ HB_w7_7) (kK2.out _ HB_w7_7)).mono ?_
            rintro e w8 ⟨rfl, hb0⟩
            have HB_8 := Lib.hid (below_ext HBX7.out hb0)
            have HB_w7_8 := Lib.hid (below_ext HB_w7_7.out hb0)
            clear zc0 zc1 kT2_0 kT2_1
            clear hb0
            obtain ⟨zc0, zc1⟩ := kC.out _ HB_8
            obtain ⟨kT2_0, kT2_1⟩ := kT2.out _ HB_w7_8
            have hbF := below_ext HBw.out HB_8.out
            go_wp2
            go_ret
            exact ⟨rfl, hbF⟩
          | true =>
            have HT2 : Kp (trlB os2 hs = true) := ⟨htr2⟩
            clear htr2
            have hlk := kept_link HT.1 HT2.1 (i := i) (by rw [hm.out]; exact him) (by rw [HL2.out, hn.out]) HAG.out HKY.out
            have HBE := Lib.hid (bef_hb HT.1 (i := i) (by rw [hm.out]; omega))
            obtain ⟨hB, hhB⟩ : ∃ x, befL hs i = x := ⟨_, rfl⟩
            rw [hhB] at hlk HBE
            have HHB := Lib.hid hhB
            have HBL : Hid (hB.length = 32) := Lib.hid (by rw [HBE.out]; exact hbL_len _ _)
            have HBB : Hid (bytesB hB = true) := Lib.hid (by rw [HBE.out]; exact hbL_b _ _)
            have hoI := HI2.out i hin
            obtain ⟨bq, fq, eq0, hnine, hok⟩ := ((kO2.out _ HB_w7_7)).out i (by rw [HL2.out]; exact hin)
            cases eq0
            rw [show os2.getD i noOrd = X2 from HX2.out] at hnine hok
            rw [HX2.out] at hlk hoI
            have HOI := Lib.hid hoI
            have HOS := ordS_of (by have := (trR_parts (trS_get (trl_parts HT2.1).1 i (by rw [HL2.out]; exact hin))).1; rw [HX2.out] at this; exact this) hok
            have HOK := Lib.hid hok
            have HNI := Lib.hid hnine
            obtain ⟨RR, hRR⟩ : ∃ x, lnk hB X2 = x := ⟨_, rfl⟩
            rw [hRR] at hlk
            have HRR : Kp (lnk hB X2 = RR) := ⟨hRR⟩
            have HRL : Hid (RR.length = 32) := Lib.hid (by rw [← hRR]; exact lnk_len _ _)
            obtain ⟨b2, f2, ek, hkl, hrg⟩ := ((kK.out _ HBX7)).out i (by rw [hm.out]; exact him)
            cases ek
            obtain ⟨hk9, hhk⟩ : ∃ x, hsL hs i = x := ⟨_, rfl⟩
            rw [hhk] at hlk hkl hrg
            have HLK := Lib.hid hkl
            have HRG := Lib.hid hrg
            have HEQ : Hid ((RR == hk9) = true) := Lib.hid (by rw [hlk]; simp)
            clear hlk hkl hrg hhk hRR hhB hoI hok hnine hs1 hs2 hs3 hs4
            go_wp2_with fail
            refine (tval_any (some ⟨gO, 0, none⟩) os2 n c' (some ⟨gK, 0, none⟩) hs m d' HL2 hm HI2.out hb1 hb2 true HT2 _ (kD.out _ HBX7) (kO2.out _ HB_w7_7) (kK2.out _ HB_w7_7)).mono ?_
            rintro e w8 ⟨rfl, hb0⟩
            have HB_8 := Lib.hid (below_ext HBX7.out hb0)
            have HB_w7_8 := Lib.hid (below_ext HB_w7_7.out hb0)
            clear zc0 zc1 kT2_0 kT2_1
            clear hb0
            obtain ⟨zc0, zc1⟩ := kC.out _ HB_8
            obtain ⟨kT2_0, kT2_1⟩ := kT2.out _ HB_w7_8
            have kOK := Lib.hid (show ∀ u : World, Hid (Below w7.heap.size w7 u) → Hid (OrdOk u X2) from fun u h => Lib.hid (HOK.out.below h.out))
            have kRG := Lib.hid (show ∀ u : World, Hid (Below w7.heap.size w7 u) → Hid (u.rangeAt b2 (f2 + i * 32) (hk9.map (Value.int .u8))) from fun u h => Lib.hid (rangeAt_below HRG.out h.out))
            have kNI := Lib.hid (show ∀ u : World, Hid (Below w7.heap.size w7 u) → u.cell? ⟨gO, i * 9, none⟩ = some (.int .i64 X2.num) ∧ u.cell? ⟨gO, i * 9 + 1, none⟩ = some (.string X2.rs) ∧ u.cell? ⟨gO, i * 9 + 2, none⟩ = some (.int .i64 X2.E1) ∧ u.cell? ⟨gO, i * 9 + 3, none⟩ = some (.int .i64 X2.E2) ∧ u.cell? ⟨gO, i * 9 + 4, none⟩ = some (.slice X2.A X2.na X2.ca) ∧ u.cell? ⟨gO, i * 9 + 5, none⟩ = some (.int .i64 X2.C) ∧ u.cell? ⟨gO, i * 9 + 6, none⟩ = some (.slice X2.Z X2.nz X2.cz) ∧ u.cell? ⟨gO, i * 9 + 7, none⟩ = some (.slice X2.L X2.np X2.cp) ∧ u.cell? ⟨gO, i * 9 + 8, none⟩ = some (.int .i64 X2.key) from fun u h => by have h9 := HNI.out.below h.out; rw [Nat.zero_add] at h9; exact h9)
            obtain ⟨zc0x, zc1x⟩ := kC.out _ HB_8
            obtain ⟨kT2_0x, kT2_1x⟩ := kT2.out _ HB_w7_8
            obtain ⟨kNI_0x, kNI_1x, kNI_2x, kNI_3x, kNI_4x, kNI_5x, kNI_6x, kNI_7x, kNI_8x⟩ := kNI.out _ HB_w7_8
            have hlt4 : decide (kd.tmod 6 < 4) = true := by rw [Int.tmod_eq_emod_of_nonneg hk0, hq]; rfl
            go_upto_region 29 with (fail)
            clear zc0 zc1 kT2_0 kT2_1 zc0x zc1x kT2_0x kT2_1x kNI_0x kNI_1x kNI_2x kNI_3x kNI_4x kNI_5x kNI_6x kNI_7x kNI_8x
            have hBx9 := Lib.hid (show ∀ u u2 : World, Hid (Below w0.heap.size w0 u ∧ Below w7.heap.size w7 u) → Below u.heap.size u u2 → Hid (Below w0.heap.size w0 u2 ∧ Below w7.heap.size w7 u2) from fun u u2 h1 h2 => Lib.hid ⟨(below_ext h1.out.1 h2), (below_ext h1.out.2 h2)⟩)
            have hS9 := Lib.hid (show ∀ u : World, Hid (Below w0.heap.size w0 u ∧ Below w7.heap.size w7 u) → (u.cell? ⟨w.heap.size, 0, none⟩ = some (.slice O n c) ∧ u.cell? ⟨w.heap.size, 1, none⟩ = some (.slice (some ⟨b2, f2, none⟩) m d) ∧ u.cell? ⟨w5.heap.size, 0, none⟩ = some (.slice (some ⟨gO, 0, none⟩) n c') ∧ u.cell? ⟨w5.heap.size, 1, none⟩ = some (.slice (some ⟨gK, 0, none⟩) m d') ∧ u.cell? ⟨gO, i * 9, none⟩ = some (.int .i64 X2.num) ∧ u.cell? ⟨gO, i * 9 + 1, none⟩ = some (.string X2.rs) ∧ u.cell? ⟨gO, i * 9 + 2, none⟩ = some (.int .i64 X2.E1) ∧ u.cell? ⟨gO, i * 9 + 3, none⟩ = some (.int .i64 X2.E2) ∧ u.cell? ⟨gO, i * 9 + 4, none⟩ = some (.slice X2.A X2.na X2.ca) ∧ u.cell? ⟨gO, i * 9 + 5, none⟩ = some (.int .i64 X2.C) ∧ u.cell? ⟨gO, i * 9 + 6, none⟩ = some (.slice X2.Z X2.nz X2.cz) ∧ u.cell? ⟨gO, i * 9 + 7, none⟩ = some (.slice X2.L X2.np X2.cp) ∧ u.cell? ⟨gO, i * 9 + 8, none⟩ = some (.int .i64 X2.key) ∧ Hid (Below w0.heap.size w0 u ∧ Below w7.heap.size w7 u)) from fun u h1 => by
              obtain ⟨y0, y1⟩ := kC.out _ (Lib.hid h1.out.1)
              obtain ⟨kT2_0, kT2_1⟩ := kT2.out _ (Lib.hid h1.out.2)
              obtain ⟨kNI_0, kNI_1, kNI_2, kNI_3, kNI_4, kNI_5, kNI_6, kNI_7, kNI_8⟩ := kNI.out _ (Lib.hid h1.out.2)
              exact ⟨y0, y1, kT2_0, kT2_1, kNI_0, kNI_1, kNI_2, kNI_3, kNI_4, kNI_5, kNI_6, kNI_7, kNI_8, h1⟩)
            have HBA9 : Hid (Below w0.heap.size w0 w8 ∧ Below w7.heap.size w7 w8) := Lib.hid ⟨HB_8.out, HB_w7_8.out⟩
            refine wp_region_T (S := fun w' => w'.cell? ⟨w.heap.size, 0, none⟩ = some (.slice O n c) ∧ w'.cell? ⟨w.heap.size, 1, none⟩ = some (.slice (some ⟨b2, f2, none⟩) m d) ∧ w'.cell? ⟨w5.heap.size, 0, none⟩ = some (.slice (some ⟨gO, 0, none⟩) n c') ∧ w'.cell? ⟨w5.heap.size, 1, none⟩ = some (.slice (some ⟨gK, 0, none⟩) m d') ∧ w'.cell? ⟨gO, i * 9, none⟩ = some (.int .i64 X2.num) ∧ w'.cell? ⟨gO, i * 9 + 1, none⟩ = some (.string X2.rs) ∧ w'.cell? ⟨gO, i * 9 + 2, none⟩ = some (.int .i64 X2.E1) ∧ w'.cell? ⟨gO, i * 9 + 3, none⟩ = some (.int .i64 X2.E2) ∧ w'.cell? ⟨gO, i * 9 + 4, none⟩ = some (.slice X2.A X2.na X2.ca) ∧ w'.cell? ⟨gO, i * 9 + 5, none⟩ = some (.int .i64 X2.C) ∧ w'.cell? ⟨gO, i * 9 + 6, none⟩ = some (.slice X2.Z X2.nz X2.cz) ∧ w'.cell? ⟨gO, i * 9 + 7, none⟩ = some (.slice X2.L X2.np X2.cp) ∧ w'.cell? ⟨gO, i * 9 + 8, none⟩ = some (.int .i64 X2.key) ∧ Hid (Below w0.heap.size w0 w' ∧ Below w7.heap.size w7 w')) (E := []) (by kernel_rfl) (hS9.out _ (hBx9.out _ _ HBA9 ((Below.refl _ _).drew))) (fun hHeld => ?_)
            refine tkV 0 ?_
            try simp only [qq1, qq2, qq3, Act.put, qq4, qq5, qq6]
            refine tkV 1 ?_
            try simp only [qq1, qq2, qq3, Act.put, qq4, qq5, qq6]
            refine tkV 2 ?_
            try simp only [qq1, qq2, qq3, Act.put, qq4, qq5, qq6]
            refine tkV 3 ?_
            try simp only [qq1, qq2, qq3, Act.put, qq4, qq5, qq6]
            refine tkV 4 ?_
            try simp only [qq1, qq2, qq3, Act.put, qq4, qq5, qq6]
            refine tkV 5 ?_
            try simp only [qq1, qq2, qq3, Act.put, qq4, qq5, qq6]
            refine tkV 7 ?_
            try simp only [qq1, qq2, qq3, Act.put, qq4, qq5, qq6]
            refine tkV 8 ?_
            try simp only [qq1, qq2, qq3, Act.put, qq4, qq5, qq6]
            refine tkV 9 ?_
            try simp only [qq1, qq2, qq3, Act.put, qq4, qq5, qq6]
            refine tkV 10 ?_
            try simp only [qq1, qq2, qq3, Act.put, qq4, qq5, qq6]
            refine tkV 11 ?_
            try simp only [qq1, qq2, qq3, Act.put, qq4, qq5, qq6]
            refine tkV 13 ?_
            try simp only [qq1, qq2, qq3, Act.put, qq4, qq5, qq6]
            refine tkV 14 ?_
            try simp only [qq1, qq2, qq3, Act.put, qq4, qq5, qq6]
            refine tkV 15 ?_
            try simp only [qq1, qq2, qq3, Act.put, qq4, qq5, qq6]
            refine tkV 16 ?_
            try simp only [qq1, qq2, qq3, Act.put, qq4, qq5, qq6]
            refine wpT_take (i := 17) (oi := _) (v := (.agg (arr .u8 hk9))) rfl (by kernel_rfl) (by kernel_rfl) (by kernel_rfl) (by kernel_rfl) (fun _ _ _ h => h) (Or.inl ⟨by rfl, yields_mid 43 _ rfl b2 (f2 + i * 32) rfl (hk9.map (Value.int .u8)) _ (fun _ hq => ((kRG.out _ (Lib.hid (hq.2.2.2.2.2.2.2.2.2.2.2.2.2).out.2))).out) Tryd.underlying43 rfl (map_size HLK.out)⟩) (by assumption) ?_
            try simp only [qq1, qq2, qq3, Act.put, qq4, qq5, qq6]
            refine wpT_one (i := 6) (by kernel_rfl) rfl (fun K hK => ?_)
            go_simp
            refine (rbefore_any O n c (some ⟨b2, f2, none⟩) hs m d i hm (by omega) hb2 _ (kK.out _ (Lib.hid (hHeld.2.2.2.2.2.2.2.2.2.2.2.2.2).out.1))).mono ?_
            rintro e wA ⟨rfl, hbA⟩
            rw [HHB.out]
            refine hK.out _ _ ?_ (fun hHeld => ?_)
            · exact hS9.out _ (hBx9.out _ _ hHeld.2.2.2.2.2.2.2.2.2.2.2.2.2 hbA)
            clear hK K
            try simp only [qq1, qq2, qq3, Act.put, qq4, qq5, qq6]
            refine wpT_one (i := 12) (by kernel_rfl) rfl (fun K hK => ?_)
            go_simp
            refine (rlink_any hB HBL HBB X2 HOI HOS _ (kD.out _ (Lib.hid (hHeld.2.2.2.2.2.2.2.2.2.2.2.2.2).out.1)) (kOK.out _ (Lib.hid (hHeld.2.2.2.2.2.2.2.2.2.2.2.2.2).out.2))).mono ?_
            rintro e wA ⟨rfl, hbA⟩
            rw [HRR.1]
            refine hK.out _ _ ?_ (fun hHeld => ?_)
            · exact hS9.out _ (hBx9.out _ _ hHeld.2.2.2.2.2.2.2.2.2.2.2.2.2 hbA)
            clear hK K
            try simp only [qq1, qq2, qq3, Act.put, qq4, qq5, qq6]
            refine wpT_take (i := 18) (oi := _) (v := (.bool true)) rfl (by kernel_rfl) (by kernel_rfl) (by kernel_rfl) (by kernel_rfl) (fun _ _ _ h => h) (Or.inl ⟨by rfl, yields_eql_hash _ _ _ rfl RR hk9 HRL.out HLK.out rfl rfl true HEQ.out⟩) (by assumption) ?_
            try simp only [qq1, qq2, qq3, Act.put, qq4, qq5, qq6]
            refine tkV 19 ?_
            try simp only [qq1, qq2, qq3, Act.put, qq4, qq5, qq6]
            refine tkV 20 ?_
            try simp only [qq1, qq2, qq3, Act.put, qq4, qq5, qq6]
            refine wpT_done (by kernel_rfl) ?_ _
            obtain ⟨x0, x1, x2, x3, x4, x5, x6, x7, x8, x9, x10, x11, x12, FB9⟩ := hHeld
            clear x0 x1 x2 x3 x4 x5 x6 x7 x8 x9 x10 x11 x12 hS9 hBx9 HBA9
            have HL9_w0 := Lib.hid FB9.out.1
            have HL9_w7 := Lib.hid FB9.out.2
            obtain ⟨zc0, zc1⟩ := kC.out _ HL9_w0
            obtain ⟨kT2_0, kT2_1⟩ := kT2.out _ HL9_w7
            obtain ⟨kNI_0, kNI_1, kNI_2, kNI_3, kNI_4, kNI_5, kNI_6, kNI_7, kNI_8⟩ := kNI.out _ HL9_w7
            have hbF := below_ext HBw.out HL9_w0.out
            go_wp2
            go_ret
            exact ⟨rfl, hbF⟩
end Go.Proofs.YtpmjgkkcckhabaaDoor
