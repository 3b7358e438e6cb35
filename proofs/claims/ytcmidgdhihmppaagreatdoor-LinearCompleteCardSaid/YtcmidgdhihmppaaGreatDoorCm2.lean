/- Contracts and lemmas: DrE, LpA, LpB, LpC, LmA. -/
import Derived.Test.YtcmidgdhihmppaaGreatDoorCm1
namespace Go.Proofs.YtcmidgdhihmppaaGreatDoor
open Go.RowKit SpM
set_option linter.unusedVariables false
set_option linter.unusedSimpArgs false
set_option maxRecDepth 100000
/-- the states of a source that yields numbers: the counter, and whether it is used up. -/
def stD (h : List Int) (q c : Int) : Nat → Int × Bool
  | 0 => (c, false)
  | k + 1 => ((numD h q (maskD q) 256 (stD h q c k).1 0).2.1, (numD h q (maskD q) 256 (stD h q c k).1 0).2.2)
def xD (h : List Int) (q c : Int) (k : Nat) : Int := (numD h q (maskD q) 256 (stD h q c k).1 0).1
def lstD (h : List Int) (q c : Int) (n : Nat) : List Int := (List.range n).map (xD h q c)
theorem lstD_len (h : List Int) (q c : Int) (n : Nat) : (lstD h q c n).length = n := by simp [lstD]
theorem lstD_succ (h : List Int) (q c : Int) (k : Nat) : lstD h q c (k + 1) = lstD h q c k ++ [xD h q c k] := by simp [lstD, List.range_succ]
theorem numD_full {h : List Int} {q m : Int} : ∀ (k : Nat) (c x : Int), (numD h q m k c x).2.2 = true → (numD h q m k c x).2.1 = 1099511627776
  | 0, c, x, hf => by simp [numD] at hf
  | k + 1, c, x, hf => by
    simp only [numD] at hf ⊢
    by_cases he : c = 1099511627776
    · rw [if_pos he]; exact he
    · rw [if_neg he] at hf ⊢
      by_cases hy : bits BinOp.and IntKind.u64 (fst8 (blkL h c)) m < q
      · rw [if_pos hy] at hf; cases hf
      · rw [if_neg hy] at hf ⊢; exact numD_full k _ _ hf
theorem stD_lo {h : List Int} {q c : Int} (hc0 : 0 ≤ c) (hc1 : c ≤ 1099511627776) : ∀ k, 0 ≤ (stD h q c k).1 ∧ (stD h q c k).1 ≤ 1099511627776 ∧ ((stD h q c k).2 = true → (stD h q c k).1 = 1099511627776)
  | 0 => ⟨hc0, hc1, fun h => by cases h⟩
  | k + 1 => by
    obtain ⟨h0, h1, _⟩ := stD_lo (h := h) (q := q) hc0 hc1 k
    have h2 := numD_cnt (h := h) (q := q) (m := maskD q) 256 (stD h q c k).1 0 h1
    exact ⟨by show 0 ≤ (numD h q (maskD q) 256 (stD h q c k).1 0).2.1; omega, h2.2, numD_full 256 _ _⟩
theorem xD_lo {h : List Int} {q c : Int} (hq : 1 ≤ q) (k : Nat) : 0 ≤ xD h q c k ∧ xD h q c k < q := numD_lo hq _ _ _ (Int.le_refl _)
theorem lstD_sc {h : List Int} {q c : Int} (hq : 1 ≤ q) (n : Nat) : (lstD h q c n).all (scB q) = true := by
  rw [List.all_eq_true]
  intro x hx
  obtain ⟨i, _, rfl⟩ := List.mem_map.1 hx
  have := xD_lo (h := h) (c := c) hq i
  simp [scB]; exact this
theorem builtS (h : List Int) (hl : h.length = 32) (c : Int) : Tryz.prog.built 118 [(0, .agg (tcs h c))] = some (scs h c false) := by
  obtain ⟨a0, a1, a2, a3, a4, a5, a6, a7, a8, a9, a10, a11, a12, a13, a14, a15, a16, a17, a18, a19, a20, a21, a22, a23, a24, a25, a26, a27, a28, a29, a30, a31, rfl⟩ := list32 h hl
  kernel_rfl
/-- what a list of draws is: the source behind it and the numbers, or that the source is used up. -/
def LstOut (h : List Int) (q c : Int) (n : Nat) (w : World) (e : Ending) (w' : World) : Prop :=
  if (stD h q c n).2 = true then e = .returned (.tuple #[.agg (tcs (zer 32) 0), .slice none 0 0, .int .i64 5]) ∧ Below w.heap.size w w'
  else ∃ v, e = .returned (.tuple #[.agg (tcs h (stD h q c n).1), v, .int .i64 0]) ∧ OwnL w' w.heap.size v (lstD h q c n) ∧ Below w.heap.size w w'
set_option maxHeartbeats 6400000 in
theorem dlist_any (h : List Int) (hl : Hid (h.length = 32)) (hb : Hid (bytesB h = true)) (c : Int) (hdr : Hid (drB c = true)) (q : Int) (hq1 : 1 ≤ q) (hq2 : q < 2305843009213693952) (n : Nat) (hn : n ≤ 1000) (w : World) (hv : Hid (VarsD w)) :
    Calls Tryz.prog 63 #[.agg (tcs h c), .int .i64 q, .int .i64 n] w (LstOut h q c n w) := by
  obtain ⟨hc0, hc1⟩ : 0 ≤ c ∧ c ≤ 1099511627776 := by have h2 := hdr.out; simp [drB] at h2; exact h2
  obtain ⟨i0, hi, hz0, hz1, hz2⟩ := info_parts intInfo
  obtain ⟨W, hW⟩ : ∃ W, (w.alloc (.cells (tcs h c) 39)).alloc (.cells #[.int .u8 0, .int .u8 0, .int .u8 0, .int .u8 0, .int .u8 0, .int .u8 0, .int .u8 0, .int .u8 0, .int .u8 0, .int .u8 0, .int .u8 0, .int .u8 0, .int .u8 0, .int .u8 0, .int .u8 0, .int .u8 0, .int .u8 0, .int .u8 0, .int .u8 0, .int .u8 0, .int .u8 0, .int .u8 0, .int .u8 0, .int .u8 0, .int .u8 0, .int .u8 0, .int .u8 0, .int .u8 0, .int .u8 0, .int .u8 0, .int .u8 0, .int .u8 0, .int .i64 0] 39) = W := ⟨_, rfl⟩
  have HBX : Hid (Below w.heap.size w W) := Lib.hid (by rw [← hW]; exact below_two (Below.refl _ _))
  have HT0 : Hid (DBlk W w.heap.size h c) := Lib.hid (by rw [← hW]; exact heap_alloc2_old _ _ _)
  have HR0 : Hid (DBlk W (w.heap.size + 1) (zer 32) 0) := Lib.hid (by rw [← hW, ztr]; exact heap_alloc2_new _ _ _)
  have HSZ : Hid (W.heap.size = w.heap.size + 2) := Lib.hid (by rw [← hW]; simp)
  have HV := Lib.hid (hv.out.below HBX.out)
  have HW := Lib.hid hW
  clear hW hv
  go_enter Tryz.func63, Tryz.ntmps63
  go_upto_region 1 with (fail)
  rw [HW.out]
  clear HW
  go_wp2_with ((with_reducible show wpList _ _ _ (⟨some 12, _, _, _, _, _⟩ :: _) _ _); refine wpList_load_row rfl 39 _ rfl w.heap.size rfl _ _ _ _ HT0.out Tryz.underlying39 rfl (dr_info hl.out) ?_)
  refine (dcheck_ok h hl c hdr q 1 2305843009213693951 hq1 (by omega) _).mono ?_
  rintro e w1 ⟨rfl, hb1⟩
  have HT1 := Lib.hid (HT0.out.below hb1)
  have HB1 := Lib.hid (below_ext HBX.out hb1)
  have HBW1 := Lib.hid hb1
  clear hb1
  go_wp2_with ((with_reducible show wpList _ _ _ (⟨some 17, _, _, _, _, _⟩ :: _) _ _); refine wpList_load_row rfl 39 _ rfl w.heap.size rfl _ _ _ _ HT1.out Tryz.underlying39 rfl (dr_info hl.out) ?_)
  refine (dcheck_ok h hl c hdr n 0 1000 (by omega) (by omega) _).mono ?_
  rintro e w2 ⟨rfl, hb2⟩
  have HT2 := Lib.hid (HT1.out.below hb2)
  have HB2 := Lib.hid (below_ext HB1.out hb2)
  have HBW2 := Lib.hid (below_ext HBW1.out hb2)
  have HV2 := Lib.hid (HV.out.below HBW2.out)
  clear hb2 HT1 HB1 HBW1
  go_wp2_with (first
    | ((with_reducible show wpList _ _ _ (⟨some 24, _, _, _, _, _⟩ :: _) _ _); refine wpList_load_row rfl 39 _ rfl w.heap.size rfl _ _ _ _ HT2.out Tryz.underlying39 rfl (dr_info hl.out) ?_)
    | ((with_reducible show wpList _ _ _ (⟨some 25, _, _, _, _, _⟩ :: _) _ _); refine wpList_built rfl 118 _ rfl _ (builtS h hl.out c) ?_))
  have hS3 : SBlk (w2.alloc (.cells (scs h c false) 118)) w2.heap.size h c false := heap_alloc_new _ _
  have hb3 := below_box0 w2 (.cells (scs h c false) 118)
  have hsz3 : (w2.alloc (.cells (scs h c false) 118)).heap.size = w2.heap.size + 1 := by simp
  obtain ⟨W3, hW3⟩ : ∃ u, w2.alloc (.cells (scs h c false) 118) = u := ⟨_, rfl⟩
  rw [hW3] at hS3 hb3 hsz3 ⊢
  have HS3 := Lib.hid hS3
  have HB3 := Lib.hid hb3
  have HSZ3 := Lib.hid hsz3
  obtain ⟨b, hbb⟩ : ∃ b, w2.heap.size = b := ⟨_, rfl⟩
  rw [hbb] at HS3 HSZ3 ⊢
  have HBB := Lib.hid hbb
  have hbw : w.heap.size + 2 ≤ b := by have := HBW2.out.size; have := HSZ.out; omega
  clear hS3 hb3 hsz3 hW3 hbb
  go_loopw [11, 28] (fun v i u => ∃ k : Nat, k ≤ n ∧ i = .int .i64 k ∧ Hid (SBlk u b h (stD h q c k).1 (stD h q c k).2) ∧ Hid (OwnL u (b + 1) v (lstD h q c k)) ∧ Hid (Below b w2 u) ∧ Hid (b + 1 ≤ u.heap.size)) (fun _ i _ => n - (intOf i).toNat)
  case atStart => exact ⟨0, by omega, rfl, HS3, Lib.hid (ownL_nil _ _), Lib.hid (by have h2 := HB3.out; rwa [HBB.out] at h2), Lib.hid (by have := HSZ3.out; omega)⟩
  case round =>
    obtain ⟨k, hk, rfl, HSr, HO, HBr, HZr⟩ := hrel
    by_cases hlt : k < n
    · obtain ⟨hk0, hk1, hkf⟩ := stD_lo (h := h) (q := q) hc0 hc1 k
      have HST : Hid (stD h q c (k + 1) = ((numD h q (maskD q) 256 (stD h q c k).1 0).2.1, (numD h q (maskD q) 256 (stD h q c k).1 0).2.2)) := Lib.hid rfl
      have HX : Hid (xD h q c k = (numD h q (maskD q) 256 (stD h q c k).1 0).1) := Lib.hid rfl
      have HLS := Lib.hid (lstD_succ h q c k)
      have HLL := Lib.hid (lstD_len h q c k)
      obtain ⟨cc, hcc⟩ : ∃ x, (stD h q c k).1 = x := ⟨_, rfl⟩
      obtain ⟨ff, hff⟩ : ∃ x, (stD h q c k).2 = x := ⟨_, rfl⟩
      obtain ⟨L, hL⟩ : ∃ x, lstD h q c k = x := ⟨_, rfl⟩
      obtain ⟨x, hx⟩ : ∃ x, xD h q c k = x := ⟨_, rfl⟩
      obtain ⟨r, hr⟩ : ∃ x, numD h q (maskD q) 256 cc 0 = x := ⟨_, rfl⟩
      rw [hcc, hr] at HST HX
      rw [hL, hx] at HLS
      rw [hL] at HLL HO
      rw [hx] at HX
      rw [hcc, hff] at HSr
      rw [hcc] at hk0 hk1 hkf
      rw [hff] at hkf
      obtain ⟨rn, rc, rf⟩ := r
      have HNR : Kp (numD h q (maskD q) 256 cc 0 = (rn, rc, rf)) := ⟨hr⟩
      obtain rfl : x = rn := HX.out
      clear hcc hff hL hx hr HX
      go_wp2_with fail
      refine (dnumber_any h hl hb q hq1 hq2 cc hk0 hk1 b w2 HV2 _ (Lib.hid (by have h2 := HBr.out; rwa [← HBB.out] at h2)) (by rw [HBB.out]; exact Nat.le_refl _) ff hkf HSr x rc rf HNR).mono ?_
      rintro e w4 ⟨rfl, hS4, hG4⟩
      have HS4 := Lib.hid hS4
      have HB4 : Hid (Below b w2 w4) := Lib.hid (HBr.out.trans (gb_toBelow hG4 (Nat.le_refl _) (by have := HZr.out; omega)))
      have HZ4 : Hid (b + 1 ≤ w4.heap.size) := Lib.hid (Nat.le_trans HZr.out hG4.size)
      have HO4 : Hid (OwnL w4 (b + 1) u11 L) := Lib.hid (World.ownsRow.kept HO.out hG4 (Or.inr (fun e => by have := (World.ownsRow.lt HO.out _ e).1; omega)))
      have hown : w4.ownsRow (b + 1) 3 1 u11 k (L.map (Value.int .i64)) := by
        have h3 := HO4.out
        unfold OwnL at h3
        rwa [HLL.out] at h3
      have hbs := HZ4.out
      clear hS4 hG4 HO
      go_wp2_with (at_builtin; refine wpList_append_own _ rfl _ _ 24 rfl (b + 1) 3 i0 (.int .i64 0) 1 8 Tryz.underlying24 hi hz0 hz1 hz2 rfl (by decide) _ _ _ rfl (hown.alloc _) ⟨w4.heap.size, 0, none⟩ 1 1 [.int .i64 x] rfl rfl (cell_one_new _ _ _) (ints_oneCell .i64 [x]) (by unfold maxLen; omega) (by omega) (by simp; omega) ?_; intro v' w5 hown1 hgrow1 _)
      have HO5 : Hid (OwnL w5 (b + 1) v' (lstD h q c (k + 1))) := Lib.hid (by
        rw [HLS.out]
        exact OwnL.app HLL.out.symm hown1)
      have HB5 : Hid (Below b w2 w5) := Lib.hid ((HB4.out.alloc (by omega) (.cells #[.int .i64 x] 3)).grown hgrow1 (by simp; omega) (fun j hj => by have := (World.ownsRow.lt HO4.out j hj).1; omega))
      have HZ5 : Hid (b + 1 ≤ w5.heap.size) := Lib.hid (by have h2 := hgrow1.size; simp at h2; omega)
      have HS5 : Hid (SBlk w5 b h (stD h q c (k + 1)).1 (stD h q c (k + 1)).2) := Lib.hid (by
        rw [HST.out]
        have h2 : SBlk (w4.alloc (.cells #[.int .i64 x] 3)) b h rc rf := HS4.out.below (below_box0 _ _)
        exact (hgrow1.block b h2.lt (fun e => by have := (World.ownsRow.lt HO4.out _ e.symm).1; omega)).trans h2)
      clear hown hown1 hgrow1
      go_roundw
      case rel => exact ⟨k + 1, by omega, by go_num, HS5, HO5, HB5, HZ5⟩
      case measure => simp [intOf]; omega
    · obtain rfl : k = n := by omega
      clear hlt
      have HT3 : Hid (DBlk wr w.heap.size h c) := Lib.hid ((HBr.out.block _ (by omega)).trans HT2.out)
      have HR3 : Hid (DBlk wr (w.heap.size + 1) (zer 32) 0) := Lib.hid ((HBr.out.block _ (by omega)).trans (HR0.out.below HBW2.out))
      have HBw : Hid (Below w.heap.size w wr) := Lib.hid (HB2.out.trans (HBr.out.mono (by omega)))
      have HLO : Hid (LstOut h q c k w = fun e w' => if (stD h q c k).2 = true then e = .returned (.tuple #[.agg (tcs (zer 32) 0), .slice none 0 0, .int .i64 5]) ∧ Below w.heap.size w w' else ∃ v, e = .returned (.tuple #[.agg (tcs h (stD h q c k).1), v, .int .i64 0]) ∧ OwnL w' w.heap.size v (lstD h q c k) ∧ Below w.heap.size w w') := Lib.hid rfl
      obtain ⟨cc, hcc⟩ : ∃ x, (stD h q c k).1 = x := ⟨_, rfl⟩
      obtain ⟨ff, hff⟩ : ∃ x, (stD h q c k).2 = x := ⟨_, rfl⟩
      obtain ⟨L, hL⟩ : ∃ x, lstD h q c k = x := ⟨_, rfl⟩
      rw [hcc, hff, hL] at HLO
      rw [hcc, hff] at HSr
      rw [hL] at HO
      clear hcc hff hL HBr HB2 HT2 HR0 HBW2
      go_wp2_with fail
      refine (dresult_any h hl cc ff b _ HSr).mono ?_
      rintro e w5 ⟨rfl, hb5⟩
      have HT5 := Lib.hid (HT3.out.below hb5)
      have HR5 := Lib.hid (HR3.out.below hb5)
      have HB5 := Lib.hid (below_ext HBw.out hb5)
      have HO5 : Hid (OwnL w5 (b + 1) u11 L) := Lib.hid (World.ownsRow.kept HO.out (gb_below hb5 none) (by cases hq : u11.ownBlock with | none => exact Or.inl rfl | some j => exact Or.inr (by simp)))
      clear hb5 HT3 HR3 HBw HO HSr
      cases ff with
      | true =>
        rw [if_pos rfl, show DrE (zer 32) 0 5 = .tuple #[.agg (tcs (zer 32) 0), .int .i64 5] from rfl]
        have HR6 : Hid (DBlk (w5.setRow w.heap.size (tcs (zer 32) 0)) (w.heap.size + 1) (zer 32) 0) := Lib.hid ((setRow_other _ _ _ _ (by omega)).trans HR5.out)
        have HB6 := Lib.hid (below_setRow' (cs := tcs (zer 32) 0) HB5.out (Nat.le_refl _))
        go_wp2_with (first
          | ((with_reducible show wpList _ _ _ (⟨some 44, _, _, _, _, _⟩ :: _) _ _); refine wpList_built rfl 39 _ rfl _ builtD ?_)
          | ((with_reducible show wpList _ _ _ (⟨none, Op.store _ (Operand.tmp 3) _, _, _, _, _⟩ :: _) _ _); refine wpList_store_row rfl 39 _ _ rfl w.heap.size (tcs (zer 32) 0) rfl rfl _ _ HT5.out (dr_info rfl) (tcs_sz hl.out rfl) (tcs_one _ _) ?_)
          | ((with_reducible show wpList _ _ _ (⟨none, Op.store _ (Operand.tmp 6) _, _, _, _, _⟩ :: _) _ _); refine wpList_store_row rfl 39 _ _ rfl (w.heap.size + 1) (tcs (zer 32) 0) rfl rfl _ _ HR6.out (dr_info rfl) rfl (tcs_one _ _) ?_))
        have HRR : Hid (DBlk ((w5.setRow w.heap.size (tcs (zer 32) 0)).setRow (w.heap.size + 1) (tcs (zer 32) 0)) (w.heap.size + 1) (zer 32) 0) := Lib.hid HR6.out.setRow
        have HBF := below_setRow' (cs := tcs (zer 32) 0) HB6.out (Nat.le_succ _)
        exact bodyPost_ret (v := .tuple #[.agg (tcs (zer 32) 0), .slice none 0 0, .int .i64 5]) (results_cell_tmp3 (p := 6) (q := 7) (r := 8) (ty := 39) rfl _ _ ⟨w.heap.size + 1, 0, none⟩ _ _ _ rfl rfl rfl (run_loadVar_row _ _ _ _ _ _ _ HRR.out Tryz.underlying39 rfl (dr_info rfl))) rfl (by rw [HLO.out]; show (if True then _ else _ : Prop); rw [if_pos trivial]; exact ⟨rfl, HBF⟩)
      | false =>
        rw [if_neg (by decide), show DrE h cc 0 = .tuple #[.agg (tcs h cc), .int .i64 0] from rfl]
        have HT6 : Hid (DBlk (w5.setRow w.heap.size (tcs h cc)) w.heap.size h cc) := Lib.hid HT5.out.setRow
        have HR6 : Hid (DBlk (w5.setRow w.heap.size (tcs h cc)) (w.heap.size + 1) (zer 32) 0) := Lib.hid ((setRow_other _ _ _ _ (by omega)).trans HR5.out)
        have HB6 := Lib.hid (below_setRow' (cs := tcs h cc) HB5.out (Nat.le_refl _))
        go_wp2_with (first
          | ((with_reducible show wpList _ _ _ (⟨some 46, _, _, _, _, _⟩ :: _) _ _); refine wpList_load_row rfl 39 _ rfl w.heap.size rfl _ _ _ _ HT6.out Tryz.underlying39 rfl (dr_info hl.out) ?_)
          | ((with_reducible show wpList _ _ _ (⟨none, Op.store _ (Operand.tmp 3) _, _, _, _, _⟩ :: _) _ _); refine wpList_store_row rfl 39 _ _ rfl w.heap.size (tcs h cc) rfl rfl _ _ HT5.out (dr_info hl.out) (tcs_sz hl.out hl.out) (tcs_one _ _) ?_)
          | ((with_reducible show wpList _ _ _ (⟨none, Op.store _ (Operand.tmp 6) _, _, _, _, _⟩ :: _) _ _); refine wpList_store_row rfl 39 _ _ rfl (w.heap.size + 1) (tcs h cc) rfl rfl _ _ HR6.out (dr_info hl.out) (tcs_sz rfl hl.out) (tcs_one _ _) ?_))
        have HRR : Hid (DBlk ((w5.setRow w.heap.size (tcs h cc)).setRow (w.heap.size + 1) (tcs h cc)) (w.heap.size + 1) h cc) := Lib.hid HR6.out.setRow
        have HBF := below_setRow' (cs := tcs h cc) HB6.out (Nat.le_succ _)
        have HO6 : OwnL (w5.setRow w.heap.size (tcs h cc)) (b + 1) u11 L := World.ownsRow.kept HO5.out (grown_setRow _ _ _) (Or.inr (fun e => by have := (World.ownsRow.lt HO5.out _ e).1; omega))
        have HO7 : OwnL ((w5.setRow w.heap.size (tcs h cc)).setRow (w.heap.size + 1) (tcs h cc)) (b + 1) u11 L := World.ownsRow.kept HO6 (grown_setRow _ _ _) (Or.inr (fun e => by have := (World.ownsRow.lt HO6 _ e).1; omega))
        exact bodyPost_ret (v := .tuple #[.agg (tcs h cc), u11, .int .i64 0]) (results_cell_tmp3 (p := 6) (q := 7) (r := 8) (ty := 39) rfl _ _ ⟨w.heap.size + 1, 0, none⟩ _ _ _ rfl rfl rfl (run_loadVar_row _ _ _ _ _ _ _ HRR.out Tryz.underlying39 rfl (dr_info hl.out))) rfl (by rw [HLO.out]; show (if (false = true) then _ else _ : Prop); rw [if_neg (by decide)]; exact ⟨u11, rfl, OwnL.mono HO7 (by omega), HBF⟩)
end Go.Proofs.YtcmidgdhihmppaaGreatDoor
namespace Go.Proofs.YtcmidgdhihmppaaGreatDoor
open Go.RowKit SpM
set_option linter.unusedVariables false
set_option linter.unusedSimpArgs false
set_option maxRecDepth 100000
theorem wpList_load_row_g {P : Program} {ops : Array Oper} {rest : List Oper} {o : Oper} {a : Act} {w : World} {Q : Exit → Act → World → Prop} (hw : Region.wanted o (yielded ops a.tmps) = true) (ty : TypeId) (x : Operand) (ho : o.op = .load ty x)
    (g : Nat) (hx : a.eval x = .pointer (some ⟨g, 0, none⟩)) (t : TypeId) (cs : Array Value) (fr : Nat × Nat) (d : TypeDesc) (hg : w.heap[g]? = some (.cells cs t fr))
    (hu : P.underlying ty = some d) (hd : (match d with | .struct _ | .array _ _ => true | _ => false) = true) (hi : (P.info? ty).map (·.size) = some cs.size)
    (h : wpList P ops Q rest (a.put o.dst (.agg cs)) w) : wpList P ops Q (o :: rest) a w :=
  wpList_step fun K hK => by
    rw [if_pos hw]
    unfold Oper.wp execOp
    simp only [ho, hx, Instr.loadAt, Instr.sureAddr, Sem.run_bind, Sem.run_pure, Result.andThen_ok, run_loadVar_row w g t ty cs fr d hg hu hd hi]
    exact hK _ _ h
/-- three results, two of them by value. -/
def PrvE (pv : Value) (h : List Int) (c e : Int) : Value := .tuple #[pv, .agg (tcs h c), .int .i64 e]
theorem results_cell2_tmp {P : Program} {fn : Func} {p q r : Tmp} {ty ty2 : TypeId} (h : fn.results = #[.cell p ty, .cell q ty2, .tmp r]) (tmps : Array Value) (w : World) (a b : Addr) (v u x : Value)
    (hp : tmps.getD p undef = .pointer (some a)) (hq : tmps.getD q undef = .pointer (some b)) (hr : tmps.getD r undef = x) (hl : (loadVar ty a).run P w = .ok v w) (hl2 : (loadVar ty2 b).run P w = .ok u w) : (results fn tmps).run P w = .ok (.tuple #[v, u, x]) w := by
  have hp' : tmps[p]?.getD undef = .pointer (some a) := by simpa using hp
  have hq' : tmps[q]?.getD undef = .pointer (some b) := by simpa using hq
  have hr' : tmps[r]?.getD undef = x := by simpa using hr
  simp [results, h, hp', hq', hr', asAddr, hl, hl2]
theorem infoP : (Tryz.prog.info? 29).map (·.size) = some 3 := by kernel_rfl
/-- a block that holds a proof. -/
def QBlk (w : World) (b : Nat) (x y z : Value) : Prop := w.heap[b]? = some (.cells #[x, y, z] 29 (0, 0))
theorem QBlk.below {w w' : World} {b : Nat} {x y z : Value} (hh : QBlk w b x y z) (hb : Below w.heap.size w w') : QBlk w' b x y z := (hb.block b (Array.getElem?_eq_some_iff.1 hh).1).trans hh
theorem QBlk.lt {w : World} {b : Nat} {x y z : Value} (hh : QBlk w b x y z) : b < w.heap.size := (Array.getElem?_eq_some_iff.1 hh).1
theorem QBlk.setRow {w : World} {b : Nat} {x y z x' y' z' : Value} (hh : QBlk w b x y z) : QBlk (w.setRow b #[x', y', z']) b x' y' z' := setRow_heap w b _ _ _ _ hh
/-- three cells stored. -/
def s3 (w : World) (b : Nat) (x y z : Value) : World := ((w.setCell ⟨b, 0, none⟩ x).setCell ⟨b, 1, none⟩ y).setCell ⟨b, 2, none⟩ z
theorem QBlk.cells {w : World} {b : Nat} {x y z : Value} (hh : QBlk w b x y z) : (w.cell? ⟨b, 0, none⟩ = some x ∧ w.cell? ⟨b, 1, none⟩ = some y ∧ w.cell? ⟨b, 2, none⟩ = some z) ∧ (w.frozen? ⟨b, 0, none⟩ = false ∧ w.frozen? ⟨b, 1, none⟩ = false ∧ w.frozen? ⟨b, 2, none⟩ = false) :=
  ⟨⟨cell_blk hh 0, cell_blk hh 1, cell_blk hh 2⟩, frozen_blk hh 0, frozen_blk hh 1, frozen_blk hh 2⟩
theorem QBlk.s3 {w : World} {b : Nat} {x y z x' y' z' : Value} (hh : QBlk w b x y z) : QBlk (s3 w b x' y' z') b x' y' z' := by
  unfold QBlk Go.Proofs.YtcmidgdhihmppaaGreatDoor.s3
  rw [heap_setCell_same _ _ _ _ _ _ (heap_setCell_same _ _ _ _ _ _ (heap_setCell_same _ _ _ _ _ _ hh))]
  rfl
theorem s3_other {w : World} {b k : Nat} {x y z : Value} (hne : k ≠ b) : (s3 w b x y z).heap[k]? = w.heap[k]? :=
  (heap_setCell_other _ _ _ _ hne).trans ((heap_setCell_other _ _ _ _ hne).trans (heap_setCell_other _ _ _ _ hne))
theorem below_s3 {B b : Nat} {w w1 : World} {x y z : Value} (h : Below B w w1) (hB : B ≤ b) : Below B w (s3 w1 b x y z) := ((h.setCell hB _).setCell hB _).setCell hB _
set_option maxHeartbeats 3200000 in
theorem lfail_any (x : Int) (w : World) :
    Calls Tryz.prog 61 #[.int .i64 x] w fun e w' => e = .returned (PrvE (.agg #[.slice none 0 0, .int .i64 0, .slice none 0 0]) (zer 32) 0 x) ∧ Below w.heap.size w w' := by
  obtain ⟨W, hW⟩ : ∃ W, (w.alloc (.cells #[.slice none 0 0, .int .i64 0, .slice none 0 0] 29)).alloc (.cells #[.int .u8 0, .int .u8 0, .int .u8 0, .int .u8 0, .int .u8 0, .int .u8 0, .int .u8 0, .int .u8 0, .int .u8 0, .int .u8 0, .int .u8 0, .int .u8 0, .int .u8 0, .int .u8 0, .int .u8 0, .int .u8 0, .int .u8 0, .int .u8 0, .int .u8 0, .int .u8 0, .int .u8 0, .int .u8 0, .int .u8 0, .int .u8 0, .int .u8 0, .int .u8 0, .int .u8 0, .int .u8 0, .int .u8 0, .int .u8 0, .int .u8 0, .int .u8 0, .int .i64 0] 39) = W := ⟨_, rfl⟩
  have hb : Below w.heap.size w W := by rw [← hW]; exact below_two (Below.refl _ _)
  have HQ : Hid (QBlk W w.heap.size (.slice none 0 0) (.int .i64 0) (.slice none 0 0)) := Lib.hid (by rw [← hW]; exact heap_alloc2_old _ _ _)
  have HD : Hid (DBlk W (w.heap.size + 1) (zer 32) 0) := Lib.hid (by rw [← hW, ztr]; exact heap_alloc2_new _ _ _)
  have HB := Lib.hid hb
  have HW := Lib.hid hW
  clear hW hb
  go_enter Tryz.func61, Tryz.ntmps61
  go_upto_region 1 with (fail)
  rw [HW.out]
  clear HW
  obtain ⟨⟨p0, p1, p2⟩, pf0, pf1, pf2⟩ := HQ.out.cells
  have HQ2 : Hid (QBlk (s3 W w.heap.size (.slice none 0 0) (.int .i64 0) (.slice none 0 0)) w.heap.size (.slice none 0 0) (.int .i64 0) (.slice none 0 0)) := Lib.hid HQ.out.s3
  have HD2 : Hid (DBlk (s3 W w.heap.size (.slice none 0 0) (.int .i64 0) (.slice none 0 0)) (w.heap.size + 1) (zer 32) 0) := Lib.hid ((s3_other (by omega)).trans HD.out)
  go_wp2_with (first
    | ((with_reducible show wpList _ _ _ (⟨some 6, _, _, _, _, _⟩ :: _) _ _); refine wpList_built rfl 39 _ rfl _ builtD ?_)
    | ((with_reducible show wpList _ _ _ (⟨none, _, _, _, _, _⟩ :: _) _ _); refine wpList_store_row rfl 39 _ _ rfl (w.heap.size + 1) (tcs (zer 32) 0) rfl rfl _ _ HD2.out (dr_info rfl) rfl (tcs_one _ _) ?_))
  have HQF : Hid (QBlk ((s3 W w.heap.size (.slice none 0 0) (.int .i64 0) (.slice none 0 0)).setRow (w.heap.size + 1) (tcs (zer 32) 0)) w.heap.size (.slice none 0 0) (.int .i64 0) (.slice none 0 0)) := Lib.hid ((setRow_other _ _ _ _ (by omega)).trans HQ2.out)
  have HDF : Hid (DBlk ((s3 W w.heap.size (.slice none 0 0) (.int .i64 0) (.slice none 0 0)).setRow (w.heap.size + 1) (tcs (zer 32) 0)) (w.heap.size + 1) (zer 32) 0) := Lib.hid HD2.out.setRow
  have hBF := below_setRow' (cs := tcs (zer 32) 0) (below_s3 (x := .slice none 0 0) (y := .int .i64 0) (z := .slice none 0 0) HB.out (Nat.le_refl _)) (Nat.le_succ _)
  exact bodyPost_ret (v := PrvE (.agg #[.slice none 0 0, .int .i64 0, .slice none 0 0]) (zer 32) 0 x) (results_cell2_tmp (p := 2) (q := 3) (r := 4) (ty := 29) (ty2 := 39) rfl _ _ ⟨w.heap.size, 0, none⟩ ⟨w.heap.size + 1, 0, none⟩ _ _ _ rfl rfl rfl (run_loadVar_row _ _ _ _ _ _ _ HQF.out Tryz.underlying29 rfl infoP) (run_loadVar_row _ _ _ _ _ _ _ HDF.out Tryz.underlying39 rfl (dr_info rfl))) rfl ⟨rfl, hBF⟩
/-- what stands in linear.Prove: its own boxes. -/
structure PvI (w : World) (P Q G : Int) (Y : Option Addr) (yn yc : Nat) (B : Option Addr) (bn bc : Nat) (h : List Int) (c : Int) (u : World) : Prop where
  g : GBox u w.heap.size P Q G
  r : RBox u (w.heap.size + 1) (.slice Y yn yc) (.slice B bn bc)
  d : DBlk u (w.heap.size + 2) h c
  p : QBlk u (w.heap.size + 3) (.slice none 0 0) (.int .i64 0) (.slice none 0 0)
  e : DBlk u (w.heap.size + 4) (zer 32) 0
  b : Below w.heap.size w u
  z : w.heap.size + 5 ≤ u.heap.size
theorem PvI.below {w : World} {P Q G : Int} {Y : Option Addr} {yn yc : Nat} {B : Option Addr} {bn bc : Nat} {h : List Int} {c : Int} {u u' : World} (H : PvI w P Q G Y yn yc B bn bc h c u) (hb : Below u.heap.size u u') : PvI w P Q G Y yn yc B bn bc h c u' :=
  ⟨H.g.below hb, H.r.below hb, H.d.below hb, H.p.below hb, H.e.below hb, below_ext H.b hb, Nat.le_trans H.z hb.size⟩
theorem PvI.start (w : World) (P Q G : Int) (Y : Option Addr) (yn yc : Nat) (B : Option Addr) (bn bc : Nat) (h : List Int) (c : Int) :
    PvI w P Q G Y yn yc B bn bc h c (((((w.alloc (gObj P Q G)).alloc (.cells #[.slice Y yn yc, .slice B bn bc] 27)).alloc (.cells (tcs h c) 39)).alloc (.cells #[.slice none 0 0, .int .i64 0, .slice none 0 0] 29)).alloc (.cells #[.int .u8 0, .int .u8 0, .int .u8 0, .int .u8 0, .int .u8 0, .int .u8 0, .int .u8 0, .int .u8 0, .int .u8 0, .int .u8 0, .int .u8 0, .int .u8 0, .int .u8 0, .int .u8 0, .int .u8 0, .int .u8 0, .int .u8 0, .int .u8 0, .int .u8 0, .int .u8 0, .int .u8 0, .int .u8 0, .int .u8 0, .int .u8 0, .int .u8 0, .int .u8 0, .int .u8 0, .int .u8 0, .int .u8 0, .int .u8 0, .int .u8 0, .int .u8 0, .int .i64 0] 39)) := by
  have e2 : ((w.alloc (gObj P Q G)).alloc (.cells #[.slice Y yn yc, .slice B bn bc] 27)).heap.size = w.heap.size + 2 := by simp
  have e3 : (((w.alloc (gObj P Q G)).alloc (.cells #[.slice Y yn yc, .slice B bn bc] 27)).alloc (.cells (tcs h c) 39)).heap.size = w.heap.size + 3 := by simp
  refine ⟨?_, ?_, ?_, ?_, ?_, ?_, ?_⟩
  · exact ((((gbox_alloc w P Q G).below (below_box0 _ _)).below (below_box0 _ _)).below (below_box0 _ _)).below (below_box0 _ _)
  · exact (((rbox_alloc1 w _ _ _ _).below (below_box0 _ _)).below (below_box0 _ _)).below (below_box0 _ _)
  · rw [← e2]; exact ((DBlk.new _ _ _).below (below_box0 _ _)).below (below_box0 _ _)
  · rw [← e3]; exact heap_alloc2_old _ _ _
  · rw [show w.heap.size + 4 = (((w.alloc (gObj P Q G)).alloc (.cells #[.slice Y yn yc, .slice B bn bc] 27)).alloc (.cells (tcs h c) 39)).heap.size + 1 by rw [e3], ztr]; exact heap_alloc2_new _ _ _
  · exact below_ext (below_ext (below_ext (below_two (Below.refl _ _)) (below_box0 _ _)) (below_box0 _ _)) (below_box0 _ _)
  · simp
/-- the answer of a call that failed. -/
theorem PvI.fail {w : World} {P Q G : Int} {Y : Option Addr} {yn yc : Nat} {B : Option Addr} {bn bc : Nat} {h : List Int} {c : Int} {u : World} (H : PvI w P Q G Y yn yc B bn bc h c u) :
    QBlk ((s3 u (w.heap.size + 3) (.slice none 0 0) (.int .i64 0) (.slice none 0 0)).setRow (w.heap.size + 4) (tcs (zer 32) 0)) (w.heap.size + 3) (.slice none 0 0) (.int .i64 0) (.slice none 0 0) ∧
    DBlk ((s3 u (w.heap.size + 3) (.slice none 0 0) (.int .i64 0) (.slice none 0 0)).setRow (w.heap.size + 4) (tcs (zer 32) 0)) (w.heap.size + 4) (zer 32) 0 ∧
    DBlk (s3 u (w.heap.size + 3) (.slice none 0 0) (.int .i64 0) (.slice none 0 0)) (w.heap.size + 4) (zer 32) 0 ∧
    Below w.heap.size w ((s3 u (w.heap.size + 3) (.slice none 0 0) (.int .i64 0) (.slice none 0 0)).setRow (w.heap.size + 4) (tcs (zer 32) 0)) := by
  have h1 : DBlk (s3 u (w.heap.size + 3) (.slice none 0 0) (.int .i64 0) (.slice none 0 0)) (w.heap.size + 4) (zer 32) 0 := (s3_other (by omega)).trans H.e
  exact ⟨(setRow_other _ _ _ _ (by omega)).trans H.p.s3, h1.setRow, h1, below_setRow' (below_s3 H.b (by omega)) (by omega)⟩
set_option maxHeartbeats 6400000 in
theorem lprove_l (P Q G : Int) (Y : Option Addr) (ys : List Int) (yn yc : Nat) (B : Option Addr) (rows : List Row) (bn bc : Nat) (X : Option Addr) (xs : List Int) (xn xc : Nat) (s : ByteArray) (h : List Int) (c : Int) (hyn : Hid (ys.length = yn)) (hbn : Hid (rows.length = bn)) (hxn : Hid (xs.length = xn)) (hxb : xn < 1000000) (hs : s.size ≤ 1000) (hl : Hid (h.length = 32)) (hQ : Q < 9223372036854775808) (hr : Hid (labB (bys s) = false)) (w : World) (hv : Hid (Vars w)) (hd : Hid (VarsD w)) (hY : Hid (Sl w Y ys)) (hB : Hid (Rw w B rows)) (hX : Hid (Sl w X xs)) :
    Calls Tryz.prog 19 #[gv P Q G, .agg #[.slice Y yn yc, .slice B bn bc], .slice X xn xc, .string s, .agg (tcs h c)] w fun e w' => e = .returned (PrvE (.agg #[.slice none 0 0, .int .i64 0, .slice none 0 0]) (zer 32) 0 1) ∧ Below w.heap.size w w' := by
  obtain ⟨W, hW⟩ : ∃ W, (((((w.alloc (gObj P Q G)).alloc (.cells #[.slice Y yn yc, .slice B bn bc] 27)).alloc (.cells (tcs h c) 39)).alloc (.cells #[.slice none 0 0, .int .i64 0, .slice none 0 0] 29)).alloc (.cells #[.int .u8 0, .int .u8 0, .int .u8 0, .int .u8 0, .int .u8 0, .int .u8 0, .int .u8 0, .int .u8 0, .int .u8 0, .int .u8 0, .int .u8 0, .int .u8 0, .int .u8 0, .int .u8 0, .int .u8 0, .int .u8 0, .int .u8 0, .int .u8 0, .int .u8 0, .int .u8 0, .int .u8 0, .int .u8 0, .int .u8 0, .int .u8 0, .int .u8 0, .int .u8 0, .int .u8 0, .int .u8 0, .int .u8 0, .int .u8 0, .int .u8 0, .int .u8 0, .int .i64 0] 39)) = W := ⟨_, rfl⟩
  have HI0 : Hid (PvI w P Q G Y yn yc B bn bc h c W) := Lib.hid (by rw [← hW]; exact PvI.start w P Q G Y yn yc B bn bc h c)
  have HV := Lib.hid (hv.out.below HI0.out.b)
  have HDV := Lib.hid (hd.out.below HI0.out.b)
  have HYY := Lib.hid (hY.out.below HI0.out.b)
  have HBB := Lib.hid (hB.out.below HI0.out.b)
  have HXX := Lib.hid (hX.out.below HI0.out.b)
  have HW := Lib.hid hW
  clear hW hv hd hY hB hX
  go_enter Tryz.func19, Tryz.ntmps19
  go_upto_region 1 with (fail)
  rw [HW.out]
  clear HW
  go_wp2_with fail
  refine (tnew_bad s hs hr _).mono ?_
  rintro e w1 ⟨rfl, hb1⟩
  have HI1 := Lib.hid (HI0.out.below hb1)
  rw [show TrE (zer 32) 0 1 = .tuple #[.agg (tcs (zer 32) 0), .int .i64 1] from rfl]
  clear hb1
  go_upto_region 3 with ((with_reducible show wpList _ _ _ (⟨none, _, _, _, _, _⟩ :: _) _ _); refine wpList_store_row rfl 87 _ _ rfl w1.heap.size (tcs (zer 32) 0) rfl rfl _ _ (heap_alloc_new _ _) (tr_info rfl) (tcs_sz (h := zer 32) (c := 0) rfl rfl) (tcs_one _ _) ?_)
  rw [World.setRow_alloc_new]
  try simp only [Act.put]
  have HI2 := Lib.hid (HI1.out.below (below_box0 w1 (.cells (tcs (zer 32) 0) 87)))
  obtain ⟨W2, hW2⟩ : ∃ u, w1.alloc (.cells (tcs (zer 32) 0) 87) = u := ⟨_, rfl⟩
  rw [hW2] at HI2 ⊢
  clear hW2
  go_wp2_with fail
  refine (lfail_any 1 _).mono ?_
  rintro e w3 ⟨rfl, hb3⟩
  have HIz := Lib.hid (HI2.out.below hb3)
  rw [show PrvE (.agg #[.slice none 0 0, .int .i64 0, .slice none 0 0]) (zer 32) 0 1 = .tuple #[.agg #[.slice none 0 0, .int .i64 0, .slice none 0 0], .agg (tcs (zer 32) 0), .int .i64 1] from rfl]
  clear hb3
  obtain ⟨hq, hdd, hd1, hbF⟩ := HIz.out.fail
  have HDz := Lib.hid hd1
  have HPz := Lib.hid HIz.out.p
  have HQF := Lib.hid hq
  have HDF := Lib.hid hdd
  have HBF := Lib.hid hbF
  clear hq hdd hd1 hbF
  obtain ⟨⟨p0, p1, p2⟩, pf0, pf1, pf2⟩ := HPz.out.cells
  go_wp2_with (first
    | ((with_reducible show wpList _ _ _ (⟨none, _, _, _, _, _⟩ :: _) _ _); refine wpList_store_row rfl 39 _ _ rfl (w.heap.size + 4) (tcs (zer 32) 0) rfl rfl _ _ HDz.out (dr_info rfl) rfl (tcs_one _ _) ?_))
  exact bodyPost_ret (v := PrvE (.agg #[.slice none 0 0, .int .i64 0, .slice none 0 0]) (zer 32) 0 1) (results_cell2_tmp (p := 10) (q := 11) (r := 12) (ty := 29) (ty2 := 39) rfl _ _ ⟨w.heap.size + 3, 0, none⟩ ⟨w.heap.size + 4, 0, none⟩ _ _ _ rfl rfl rfl (run_loadVar_row _ _ _ _ _ _ _ HQF.out Tryz.underlying29 rfl infoP) (run_loadVar_row _ _ _ _ _ _ _ HDF.out Tryz.underlying39 rfl (dr_info rfl))) rfl ⟨rfl, HBF.out⟩
set_option maxHeartbeats 6400000 in
theorem lprove_d (P Q G : Int) (Y : Option Addr) (ys : List Int) (yn yc : Nat) (B : Option Addr) (rows : List Row) (bn bc : Nat) (X : Option Addr) (xs : List Int) (xn xc : Nat) (s : ByteArray) (h : List Int) (c : Int) (hyn : Hid (ys.length = yn)) (hbn : Hid (rows.length = bn)) (hxn : Hid (xs.length = xn)) (hxb : xn < 1000000) (hs : s.size ≤ 1000) (hl : Hid (h.length = 32)) (hQ : Q < 9223372036854775808) (hr : Hid (labB (bys s) = true)) (hdr : Hid (drB c = false)) (w : World) (hv : Hid (Vars w)) (hd : Hid (VarsD w)) (hY : Hid (Sl w Y ys)) (hB : Hid (Rw w B rows)) (hX : Hid (Sl w X xs)) :
    Calls Tryz.prog 19 #[gv P Q G, .agg #[.slice Y yn yc, .slice B bn bc], .slice X xn xc, .string s, .agg (tcs h c)] w fun e w' => e = .returned (PrvE (.agg #[.slice none 0 0, .int .i64 0, .slice none 0 0]) (zer 32) 0 1) ∧ Below w.heap.size w w' := by
  obtain ⟨W, hW⟩ : ∃ W, (((((w.alloc (gObj P Q G)).alloc (.cells #[.slice Y yn yc, .slice B bn bc] 27)).alloc (.cells (tcs h c) 39)).alloc (.cells #[.slice none 0 0, .int .i64 0, .slice none 0 0] 29)).alloc (.cells #[.int .u8 0, .int .u8 0, .int .u8 0, .int .u8 0, .int .u8 0, .int .u8 0, .int .u8 0, .int .u8 0, .int .u8 0, .int .u8 0, .int .u8 0, .int .u8 0, .int .u8 0, .int .u8 0, .int .u8 0, .int .u8 0, .int .u8 0, .int .u8 0, .int .u8 0, .int .u8 0, .int .u8 0, .int .u8 0, .int .u8 0, .int .u8 0, .int .u8 0, .int .u8 0, .int .u8 0, .int .u8 0, .int .u8 0, .int .u8 0, .int .u8 0, .int .u8 0, .int .i64 0] 39)) = W := ⟨_, rfl⟩
  have HI0 : Hid (PvI w P Q G Y yn yc B bn bc h c W) := Lib.hid (by rw [← hW]; exact PvI.start w P Q G Y yn yc B bn bc h c)
  have HV := Lib.hid (hv.out.below HI0.out.b)
  have HDV := Lib.hid (hd.out.below HI0.out.b)
  have HYY := Lib.hid (hY.out.below HI0.out.b)
  have HBB := Lib.hid (hB.out.below HI0.out.b)
  have HXX := Lib.hid (hX.out.below HI0.out.b)
  have HW := Lib.hid hW
  clear hW hv hd hY hB hX
  go_enter Tryz.func19, Tryz.ntmps19
  go_upto_region 1 with (fail)
  rw [HW.out]
  clear HW
  go_wp2_with fail
  refine (tnew_ok s hs hr _ HDV).mono ?_
  rintro e w1 ⟨rfl, hb1⟩
  have HI1 := Lib.hid (HI0.out.below hb1)
  obtain ⟨S0, hS0⟩ : ∃ S, newL (bys s) = S := ⟨_, rfl⟩
  have HL0 : Hid (S0.length = 32) := Lib.hid (by rw [← hS0]; exact (st_new _).1)
  rw [hS0, show TrE S0 0 0 = .tuple #[.agg (tcs S0 0), .int .i64 0] from rfl]
  have HBW1 := Lib.hid hb1
  clear hb1 hS0
  go_upto_region 3 with ((with_reducible show wpList _ _ _ (⟨none, _, _, _, _, _⟩ :: _) _ _); refine wpList_store_row rfl 87 _ _ rfl w1.heap.size (tcs S0 0) rfl rfl _ _ (heap_alloc_new _ _) (tr_info HL0.out) (tcs_sz (h := zer 32) (c := 0) rfl HL0.out) (tcs_one _ _) ?_)
  rw [World.setRow_alloc_new]
  try simp only [Act.put]
  have HI2 := Lib.hid (HI1.out.below (below_box0 w1 (.cells (tcs S0 0) 87)))
  obtain ⟨W2, hW2⟩ : ∃ u, w1.alloc (.cells (tcs S0 0) 87) = u := ⟨_, rfl⟩
  rw [hW2] at HI2 ⊢
  clear hW2
  go_wp2_with ((with_reducible show wpList _ _ _ (⟨some 28, _, _, _, _, _⟩ :: _) _ _); refine wpList_load_row_g (by rfl) 39 _ rfl (w.heap.size + 2) rfl _ _ _ _ HI2.out.d Tryz.underlying39 rfl (dr_info hl.out) ?_)
  refine (dvalid_any h hl c false hdr _).mono ?_
  rintro e w3 ⟨rfl, hb3⟩
  have HI3 := Lib.hid (HI2.out.below hb3)
  clear hb3
  go_wp2_with fail
  refine (lfail_any 1 _).mono ?_
  rintro e w4 ⟨rfl, hb4⟩
  have HIz := Lib.hid (HI3.out.below hb4)
  rw [show PrvE (.agg #[.slice none 0 0, .int .i64 0, .slice none 0 0]) (zer 32) 0 1 = .tuple #[.agg #[.slice none 0 0, .int .i64 0, .slice none 0 0], .agg (tcs (zer 32) 0), .int .i64 1] from rfl]
  clear hb4
  obtain ⟨hq, hdd, hd1, hbF⟩ := HIz.out.fail
  have HDz := Lib.hid hd1
  have HPz := Lib.hid HIz.out.p
  have HQF := Lib.hid hq
  have HDF := Lib.hid hdd
  have HBF := Lib.hid hbF
  clear hq hdd hd1 hbF
  obtain ⟨⟨p0, p1, p2⟩, pf0, pf1, pf2⟩ := HPz.out.cells
  go_wp2_with (first
    | ((with_reducible show wpList _ _ _ (⟨none, _, _, _, _, _⟩ :: _) _ _); refine wpList_store_row rfl 39 _ _ rfl (w.heap.size + 4) (tcs (zer 32) 0) rfl rfl _ _ HDz.out (dr_info rfl) rfl (tcs_one _ _) ?_))
  exact bodyPost_ret (v := PrvE (.agg #[.slice none 0 0, .int .i64 0, .slice none 0 0]) (zer 32) 0 1) (results_cell2_tmp (p := 10) (q := 11) (r := 12) (ty := 29) (ty2 := 39) rfl _ _ ⟨w.heap.size + 3, 0, none⟩ ⟨w.heap.size + 4, 0, none⟩ _ _ _ rfl rfl rfl (run_loadVar_row _ _ _ _ _ _ _ HQF.out Tryz.underlying29 rfl infoP) (run_loadVar_row _ _ _ _ _ _ _ HDF.out Tryz.underlying39 rfl (dr_info rfl))) rfl ⟨rfl, HBF.out⟩
end Go.Proofs.YtcmidgdhihmppaaGreatDoor
namespace Go.Proofs.YtcmidgdhihmppaaGreatDoor
open Go.RowKit SpM
set_option linter.unusedVariables false
set_option linter.unusedSimpArgs false
set_option maxRecDepth 100000
theorem holdsB_parts' {P Q G : Int} {ys : List Int} {rows : List Row} {xs : List Int} (h : holdsB P Q G ys rows xs = true) : validR P Q G ys rows = true ∧ xs.length = rowN rows ∧ xs.all (scB Q) = true ∧ ((rows.map fun r => prodF P 1 r.xs xs) == ys) = true := by
  simp only [holdsB, Bool.and_eq_true, decide_eq_true_eq] at h
  exact ⟨h.1, h.2.1, h.2.2.1, h.2.2.2⟩
theorem PvI.draw {w : World} {P Q G : Int} {Y : Option Addr} {yn yc : Nat} {B : Option Addr} {bn bc : Nat} {h h' : List Int} {c c' : Int} {u : World} (H : PvI w P Q G Y yn yc B bn bc h c u) : PvI w P Q G Y yn yc B bn bc h' c' (u.setRow (w.heap.size + 2) (tcs h' c')) :=
  ⟨⟨(cell_setRow_other _ _ _ _ (by simp)).trans H.g.1, (cell_setRow_other _ _ _ _ (by simp)).trans H.g.2.1, (cell_setRow_other _ _ _ _ (by simp)).trans H.g.2.2⟩, ⟨(cell_setRow_other _ _ _ _ (by simp)).trans H.r.1, (cell_setRow_other _ _ _ _ (by simp)).trans H.r.2⟩, H.d.setRow, (setRow_other _ _ _ _ (by omega)).trans H.p, (setRow_other _ _ _ _ (by omega)).trans H.e, below_setRow' H.b (by omega), by rw [setRow_size]; exact H.z⟩
set_option maxHeartbeats 12800000 in
theorem lprove_f (P Q G : Int) (Y : Option Addr) (ys : List Int) (yn yc : Nat) (B : Option Addr) (rows : List Row) (bn bc : Nat) (X : Option Addr) (xs : List Int) (xn xc : Nat) (s : ByteArray) (h : List Int) (c : Int) (hyn : Hid (ys.length = yn)) (hbn : Hid (rows.length = bn)) (hxn : Hid (xs.length = xn)) (hxb : xn < 1000000) (hs : s.size ≤ 1000) (hl : Hid (h.length = 32)) (hQ : Q < 9223372036854775808) (hhb : Hid (bytesB h = true)) (hr : Hid (labB (bys s) = true)) (hdr : Hid (drB c = true)) (hck : Hid (chkR P Q G ys rows xs [] = 0)) (hho : Hid (holdsB P Q G ys rows xs = true)) (HST : Hid ((stD h Q c (rowN rows)).2 = true)) (w : World) (hv : Hid (Vars w)) (hd : Hid (VarsD w)) (hY : Hid (Sl w Y ys)) (hB : Hid (Rw w B rows)) (hX : Hid (Sl w X xs)) :
    Calls Tryz.prog 19 #[gv P Q G, .agg #[.slice Y yn yc, .slice B bn bc], .slice X xn xc, .string s, .agg (tcs h c)] w fun e w' => e = .returned (PrvE (.agg #[.slice none 0 0, .int .i64 0, .slice none 0 0]) (zer 32) 0 5) ∧ Below w.heap.size w w' := by
  obtain ⟨W, hW⟩ : ∃ W, (((((w.alloc (gObj P Q G)).alloc (.cells #[.slice Y yn yc, .slice B bn bc] 27)).alloc (.cells (tcs h c) 39)).alloc (.cells #[.slice none 0 0, .int .i64 0, .slice none 0 0] 29)).alloc (.cells #[.int .u8 0, .int .u8 0, .int .u8 0, .int .u8 0, .int .u8 0, .int .u8 0, .int .u8 0, .int .u8 0, .int .u8 0, .int .u8 0, .int .u8 0, .int .u8 0, .int .u8 0, .int .u8 0, .int .u8 0, .int .u8 0, .int .u8 0, .int .u8 0, .int .u8 0, .int .u8 0, .int .u8 0, .int .u8 0, .int .u8 0, .int .u8 0, .int .u8 0, .int .u8 0, .int .u8 0, .int .u8 0, .int .u8 0, .int .u8 0, .int .u8 0, .int .u8 0, .int .i64 0] 39)) = W := ⟨_, rfl⟩
  have HI0 : Hid (PvI w P Q G Y yn yc B bn bc h c W) := Lib.hid (by rw [← hW]; exact PvI.start w P Q G Y yn yc B bn bc h c)
  have HV := Lib.hid (hv.out.below HI0.out.b)
  have HDV := Lib.hid (hd.out.below HI0.out.b)
  have HYY := Lib.hid (hY.out.below HI0.out.b)
  have HBB := Lib.hid (hB.out.below HI0.out.b)
  have HXX := Lib.hid (hX.out.below HI0.out.b)
  have HW := Lib.hid hW
  clear hW hv hd hY hB hX
  go_enter Tryz.func19, Tryz.ntmps19
  go_upto_region 1 with (fail)
  rw [HW.out]
  clear HW
  go_wp2_with fail
  refine (tnew_ok s hs hr _ HDV).mono ?_
  rintro e w1 ⟨rfl, hb1⟩
  have HI1 := Lib.hid (HI0.out.below hb1)
  obtain ⟨S0, hS0⟩ : ∃ S, newL (bys s) = S := ⟨_, rfl⟩
  have HL0 : Hid (S0.length = 32) := Lib.hid (by rw [← hS0]; exact (st_new _).1)
  rw [hS0, show TrE S0 0 0 = .tuple #[.agg (tcs S0 0), .int .i64 0] from rfl]
  have HBW1 := Lib.hid hb1
  clear hb1 hS0
  go_upto_region 3 with ((with_reducible show wpList _ _ _ (⟨none, _, _, _, _, _⟩ :: _) _ _); refine wpList_store_row rfl 87 _ _ rfl w1.heap.size (tcs S0 0) rfl rfl _ _ (heap_alloc_new _ _) (tr_info HL0.out) (tcs_sz (h := zer 32) (c := 0) rfl HL0.out) (tcs_one _ _) ?_)
  rw [World.setRow_alloc_new]
  try simp only [Act.put]
  have HI2 := Lib.hid (HI1.out.below (below_box0 w1 (.cells (tcs S0 0) 87)))
  have HBW2 := Lib.hid (below_ext HBW1.out (below_box0 w1 (.cells (tcs S0 0) 87)))
  obtain ⟨W2, hW2⟩ : ∃ u, w1.alloc (.cells (tcs S0 0) 87) = u := ⟨_, rfl⟩
  rw [hW2] at HI2 HBW2 ⊢
  clear hW2
  go_wp2_with ((with_reducible show wpList _ _ _ (⟨some 28, _, _, _, _, _⟩ :: _) _ _); refine wpList_load_row_g (by rfl) 39 _ rfl (w.heap.size + 2) rfl _ _ _ _ HI2.out.d Tryz.underlying39 rfl (dr_info hl.out) ?_)
  refine (dvalid_any h hl c true hdr _).mono ?_
  rintro e w3 ⟨rfl, hb3⟩
  have HI3 := Lib.hid (HI2.out.below hb3)
  have HBB3 : Hid (Below W.heap.size W w3) := Lib.hid (below_ext HBW2.out hb3)
  clear hb3
  obtain ⟨g0, g1, g2⟩ := HI3.out.g
  obtain ⟨r0, r1⟩ := HI3.out.r
  go_wp2_with fail
  refine (lcheck_any P Q G Y ys yn yc B rows bn bc X xs xn xc none [] 0 0 0 hck hyn hbn hxn hxb (Lib.hid rfl) (by omega) hQ _ (Lib.hid (HV.out.below HBB3.out)) (Lib.hid (HYY.out.below HBB3.out)) (Lib.hid (HBB.out.below HBB3.out)) (Lib.hid (HXX.out.below HBB3.out)) (Lib.hid (sl_nil _))).mono ?_
  rintro e w4 ⟨rfl, hb4⟩
  have HI4 := Lib.hid (HI3.out.below hb4)
  have HBB4 : Hid (Below W.heap.size W w4) := Lib.hid (below_ext HBB3.out hb4)
  clear hb4 g0 g1 g2 r0 r1
  obtain ⟨g0, g1, g2⟩ := HI4.out.g
  obtain ⟨r0, r1⟩ := HI4.out.r
  go_wp2_with fail
  refine (lholds_any P Q G Y ys yn yc B rows bn bc X xs xn xc true hho hyn hbn hxn hxb hQ _ (Lib.hid (HV.out.below HBB4.out)) (Lib.hid (HYY.out.below HBB4.out)) (Lib.hid (HBB.out.below HBB4.out)) (Lib.hid (HXX.out.below HBB4.out))).mono ?_
  rintro e w5 ⟨rfl, hb5⟩
  have HI5 := Lib.hid (HI4.out.below hb5)
  have HBB5 : Hid (Below W.heap.size W w5) := Lib.hid (below_ext HBB4.out hb5)
  clear hb5 g0 g1 g2 r0 r1 HI0 HI1 HI2 HI3 HI4 HBB3 HBB4
  obtain ⟨g0, g1, g2⟩ := HI5.out.g
  obtain ⟨r0, r1⟩ := HI5.out.r
  obtain ⟨nu, hnu⟩ : ∃ k, rowN rows = k := ⟨_, rfl⟩
  have HN := Lib.hid hnu
  rw [hnu] at HST
  obtain ⟨v1, v2, v3, v4, v5, v6, v7, v8⟩ := validR_parts (holdsB_parts' hho.out).1
  obtain ⟨hp2, hp, hq3, hqp⟩ := validG_P v1
  have hxn2 : xs.length = nu := by rw [← hnu]; exact (holdsB_parts' hho.out).2.1
  have hxc := (holdsB_parts' hho.out).2.2.1
  have hn1 : 1 ≤ nu := by rw [← hnu]; exact v6
  have hn12 : nu ≤ 12 := by rw [← hnu]; exact v7
  have hbp : 0 < bn := by rw [← hbn.out]; omega
  have hb8 : bn ≤ 8 := by rw [← hbn.out]; omega
  have HRB : Hid (rows.all (rowB P Q nu) = true) := Lib.hid (by rw [← hnu]; exact v8)
  have HXN : Hid (xs.length = nu) := Lib.hid hxn2
  have HXC := Lib.hid hxc
  have HVG := Lib.hid v1
  have HVR := Lib.hid (holdsB_parts' hho.out).1
  clear hnu v1 v2 v3 v4 v5 v6 v7 v8 hxn2 hxc
  have HId := Lib.hid (HI5.out.below (Below.refl _ _).drew)
  have HBBd : Hid (Below W.heap.size W w5.drew) := Lib.hid (below_ext HBB5.out (Below.refl _ _).drew)
  go_wp2_with fail
  clear g0 g1 g2 r0 r1
  refine wp_region_T (S := fun w' => w'.cell? ⟨w.heap.size, 0, none⟩ = some (.int .i64 P) ∧ w'.cell? ⟨w.heap.size, 1, none⟩ = some (.int .i64 Q) ∧ w'.cell? ⟨w.heap.size, 2, none⟩ = some (.int .i64 G) ∧ w'.cell? ⟨w.heap.size + 1, 0, none⟩ = some (.slice Y yn yc) ∧ w'.cell? ⟨w.heap.size + 1, 1, none⟩ = some (.slice B bn bc)) (E := []) (by kernel_rfl) (by exact ⟨HId.out.g.1, HId.out.g.2.1, HId.out.g.2.2, HId.out.r.1, HId.out.r.2⟩) (fun hHeld => ?_)
  refine wpT_take (i := 1) (oi := _) (v := ?_) rfl (by kernel_rfl) (by kernel_rfl) (by kernel_rfl) (by kernel_rfl) (fun _ _ _ h => h) (Or.inl ⟨by rfl, ?_⟩) (by assumption) ?_
  rotate_left; (intro wS hSw; (try dsimp only at hSw); go_simp <;> with_reducible rfl)
  try simp only [List.getElem_toArray, List.getElem_cons_zero, List.getElem_cons_succ, Act.put, List.setIfInBounds_toArray, List.set_cons_zero, List.set_cons_succ]
  refine wpT_take (i := 2) (oi := _) (v := ?_) rfl (by kernel_rfl) (by kernel_rfl) (by kernel_rfl) (by kernel_rfl) (fun _ _ _ h => h) (Or.inl ⟨by rfl, ?_⟩) (by assumption) ?_
  rotate_left; (intro wS hSw; (try dsimp only at hSw); go_simp <;> with_reducible rfl)
  try simp only [List.getElem_toArray, List.getElem_cons_zero, List.getElem_cons_succ, Act.put, List.setIfInBounds_toArray, List.set_cons_zero, List.set_cons_succ]
  refine wpT_take (i := 3) (oi := _) (v := ?_) rfl (by kernel_rfl) (by kernel_rfl) (by kernel_rfl) (by kernel_rfl) (fun _ _ _ h => h) (Or.inl ⟨by rfl, ?_⟩) (by assumption) ?_
  rotate_left; (intro wS hSw; (try dsimp only at hSw); go_simp <;> with_reducible rfl)
  try simp only [List.getElem_toArray, List.getElem_cons_zero, List.getElem_cons_succ, Act.put, List.setIfInBounds_toArray, List.set_cons_zero, List.set_cons_succ]
  refine wpT_two (i1 := 0) (i2 := 4) (by kernel_rfl) rfl rfl (fun K hK => ?_) (fun K hK => ?_)
  · skip
    rw [show (if Region.wanted _ _ = true then _ else _ : Prop) = _ from if_pos rfl]
    refine wp_load_row 39 _ rfl (w.heap.size + 2) rfl _ _ _ _ HId.out.d Tryz.underlying39 rfl (dr_info hl.out) ?_
    refine hK.out _ _ ?_ (fun hHeld => ?_)
    · exact ⟨HId.out.g.1, HId.out.g.2.1, HId.out.g.2.2, HId.out.r.1, HId.out.r.2⟩
    clear hK K
    try simp only [List.getElem_toArray, List.getElem_cons_zero, List.getElem_cons_succ, Act.put, List.setIfInBounds_toArray, List.set_cons_zero, List.set_cons_succ]
    refine wpT_one (i := 4) (by kernel_rfl) rfl (fun K hK => ?_)
    go_simp
    refine (lunknowns_any Y yn yc B rows bn bc nu hbn hbp HN _ (Lib.hid (HBB.out.below HBBd.out))).mono ?_
    rintro e w6 ⟨rfl, hb6⟩
    have HI6 := Lib.hid (HId.out.below hb6)
    have HBB6 : Hid (Below W.heap.size W w6) := Lib.hid (below_ext HBBd.out hb6)
    clear hb6
    refine hK.out _ _ ?_ (fun hHeld => ?_)
    · exact ⟨HI6.out.g.1, HI6.out.g.2.1, HI6.out.g.2.2, HI6.out.r.1, HI6.out.r.2⟩
    clear hK K
    try simp only [List.getElem_toArray, List.getElem_cons_zero, List.getElem_cons_succ, Act.put, List.setIfInBounds_toArray, List.set_cons_zero, List.set_cons_succ]
    refine wpT_one (i := 5) (by kernel_rfl) rfl (fun K hK => ?_)
    go_simp
    refine (dlist_any h hl hhb c hdr Q (by omega) (by omega) nu (by omega) _ (Lib.hid (HDV.out.below HBB6.out))).mono ?_
    intro e w7 hLO
    unfold LstOut at hLO
    rw [HST.out] at hLO
    rw [if_pos rfl] at hLO
    obtain ⟨rfl, hb7⟩ := hLO
    have HI7 := Lib.hid (HI6.out.below hb7)
    have HBB7 : Hid (Below W.heap.size W w7) := Lib.hid (below_ext HBB6.out hb7)
    clear hb7
    refine hK.out _ _ ?_ (fun hHeld => ?_)
    · exact ⟨HI7.out.g.1, HI7.out.g.2.1, HI7.out.g.2.2, HI7.out.r.1, HI7.out.r.2⟩
    clear hK K
    try simp only [List.getElem_toArray, List.getElem_cons_zero, List.getElem_cons_succ, Act.put, List.setIfInBounds_toArray, List.set_cons_zero, List.set_cons_succ]
    refine wpT_one (i := 6) (by kernel_rfl) rfl (fun K hK => ?_)
    go_simp
    refine hK.out _ _ ?_ (fun hHeld => ?_)
    · exact ⟨HI7.out.g.1, HI7.out.g.2.1, HI7.out.g.2.2, HI7.out.r.1, HI7.out.r.2⟩
    clear hK K
    try simp only [List.getElem_toArray, List.getElem_cons_zero, List.getElem_cons_succ, Act.put, List.setIfInBounds_toArray, List.set_cons_zero, List.set_cons_succ]
    refine wpT_take (i := 7) (oi := _) (v := ?_) rfl (by kernel_rfl) (by kernel_rfl) (by kernel_rfl) (by kernel_rfl) (fun _ _ _ h => h) (Or.inl ⟨by rfl, ?_⟩) (by assumption) ?_
    rotate_left; (intro wS hSw; (try dsimp only at hSw); go_simp <;> with_reducible rfl)
    try simp only [List.getElem_toArray, List.getElem_cons_zero, List.getElem_cons_succ, Act.put, List.setIfInBounds_toArray, List.set_cons_zero, List.set_cons_succ]
    refine wpT_take (i := 8) (oi := _) (v := ?_) rfl (by kernel_rfl) (by kernel_rfl) (by kernel_rfl) (by kernel_rfl) (fun _ _ _ h => h) (Or.inl ⟨by rfl, ?_⟩) (by assumption) ?_
    rotate_left; (intro wS hSw; (try dsimp only at hSw); go_simp <;> with_reducible rfl)
    try simp only [List.getElem_toArray, List.getElem_cons_zero, List.getElem_cons_succ, Act.put, List.setIfInBounds_toArray, List.set_cons_zero, List.set_cons_succ]
    refine wpT_take (i := 9) (oi := _) (v := ?_) rfl (by kernel_rfl) (by kernel_rfl) (by kernel_rfl) (by kernel_rfl) (fun _ _ _ h => h) (Or.inl ⟨by rfl, ?_⟩) (by assumption) ?_
    rotate_left; (intro wS hSw; (try dsimp only at hSw); go_simp <;> with_reducible rfl)
    try simp only [List.getElem_toArray, List.getElem_cons_zero, List.getElem_cons_succ, Act.put, List.setIfInBounds_toArray, List.set_cons_zero, List.set_cons_succ]
    refine wpT_one (i := 10) (by kernel_rfl) rfl (fun K hK => ?_)
    rw [show (if Region.wanted _ _ = true then _ else _ : Prop) = _ from if_pos rfl]
    refine wp_store_row 39 _ _ rfl (w.heap.size + 2) (tcs (zer 32) 0) rfl rfl 39 _ HI7.out.d (dr_info rfl) (tcs_sz hl.out rfl) (tcs_one _ _) ?_
    refine hK.out _ _ ?_ (fun hHeld => ?_)
    · exact ⟨(cell_setRow_other _ _ _ _ (by simp)).trans HI7.out.g.1, (cell_setRow_other _ _ _ _ (by simp)).trans HI7.out.g.2.1, (cell_setRow_other _ _ _ _ (by simp)).trans HI7.out.g.2.2, (cell_setRow_other _ _ _ _ (by simp)).trans HI7.out.r.1, (cell_setRow_other _ _ _ _ (by simp)).trans HI7.out.r.2⟩
    clear hK K
    try simp only [List.getElem_toArray, List.getElem_cons_zero, List.getElem_cons_succ, Act.put, List.setIfInBounds_toArray, List.set_cons_zero, List.set_cons_succ]
    refine wpT_one (i := 11) (by kernel_rfl) rfl (fun K hK => ?_)
    go_simp
    refine hK.out _ _ ?_ (fun hHeld => ?_)
    · exact ⟨(cell_setRow_other _ _ _ _ (by simp)).trans HI7.out.g.1, (cell_setRow_other _ _ _ _ (by simp)).trans HI7.out.g.2.1, (cell_setRow_other _ _ _ _ (by simp)).trans HI7.out.g.2.2, (cell_setRow_other _ _ _ _ (by simp)).trans HI7.out.r.1, (cell_setRow_other _ _ _ _ (by simp)).trans HI7.out.r.2⟩
    clear hK K
    try simp only [List.getElem_toArray, List.getElem_cons_zero, List.getElem_cons_succ, Act.put, List.setIfInBounds_toArray, List.set_cons_zero, List.set_cons_succ]
    refine wpT_one (i := 12) (by kernel_rfl) rfl (fun K hK => ?_)
    go_simp
    refine hK.out _ _ ?_ (fun hHeld => ?_)
    · exact ⟨(cell_setRow_other _ _ _ _ (by simp)).trans HI7.out.g.1, (cell_setRow_other _ _ _ _ (by simp)).trans HI7.out.g.2.1, (cell_setRow_other _ _ _ _ (by simp)).trans HI7.out.g.2.2, (cell_setRow_other _ _ _ _ (by simp)).trans HI7.out.r.1, (cell_setRow_other _ _ _ _ (by simp)).trans HI7.out.r.2⟩
    clear hK K
    try simp only [List.getElem_toArray, List.getElem_cons_zero, List.getElem_cons_succ, Act.put, List.setIfInBounds_toArray, List.set_cons_zero, List.set_cons_succ]
    refine wpT_done (by kernel_rfl) ?_ _
    have HI8 : Hid (PvI w P Q G Y yn yc B bn bc (zer 32) 0 (w7.setRow (w.heap.size + 2) (tcs (zer 32) 0))) := Lib.hid (HI7.out.draw (h' := zer 32) (c' := 0))
    obtain ⟨W8, hW8⟩ : ∃ u, w7.setRow (w.heap.size + 2) (tcs (zer 32) 0) = u := ⟨_, rfl⟩
    rw [hW8] at HI8 ⊢
    clear hW8 HI7 HBB7
    go_wp2_with fail
    refine (lfail_any 5 _).mono ?_
    rintro e w9 ⟨rfl, hb9⟩
    have HIz := Lib.hid (HI8.out.below hb9)
    rw [show PrvE (.agg #[.slice none 0 0, .int .i64 0, .slice none 0 0]) (zer 32) 0 5 = .tuple #[.agg #[.slice none 0 0, .int .i64 0, .slice none 0 0], .agg (tcs (zer 32) 0), .int .i64 5] from rfl]
    clear hb9
    obtain ⟨hq, hdd, hd1, hbF⟩ := HIz.out.fail
    have HDz := Lib.hid hd1
    have HPz := Lib.hid HIz.out.p
    have HQF := Lib.hid hq
    have HDF := Lib.hid hdd
    have HBF := Lib.hid hbF
    clear hq hdd hd1 hbF
    obtain ⟨⟨p0, p1, p2⟩, pf0, pf1, pf2⟩ := HPz.out.cells
    go_wp2_with (first
      | ((with_reducible show wpList _ _ _ (⟨none, _, _, _, _, _⟩ :: _) _ _); refine wpList_store_row rfl 39 _ _ rfl (w.heap.size + 4) (tcs (zer 32) 0) rfl rfl _ _ HDz.out (dr_info rfl) rfl (tcs_one _ _) ?_))
    exact bodyPost_ret (v := PrvE (.agg #[.slice none 0 0, .int .i64 0, .slice none 0 0]) (zer 32) 0 5) (results_cell2_tmp (p := 10) (q := 11) (r := 12) (ty := 29) (ty2 := 39) rfl _ _ ⟨w.heap.size + 3, 0, none⟩ ⟨w.heap.size + 4, 0, none⟩ _ _ _ rfl rfl rfl (run_loadVar_row _ _ _ _ _ _ _ HQF.out Tryz.underlying29 rfl infoP) (run_loadVar_row _ _ _ _ _ _ _ HDF.out Tryz.underlying39 rfl (dr_info rfl))) rfl ⟨rfl, HBF.out⟩
  · skip
    go_simp
    refine (lunknowns_any Y yn yc B rows bn bc nu hbn hbp HN _ (Lib.hid (HBB.out.below HBBd.out))).mono ?_
    rintro e w6 ⟨rfl, hb6⟩
    have HI6 := Lib.hid (HId.out.below hb6)
    have HBB6 : Hid (Below W.heap.size W w6) := Lib.hid (below_ext HBBd.out hb6)
    clear hb6
    refine hK.out _ _ ?_ (fun hHeld => ?_)
    · exact ⟨HI6.out.g.1, HI6.out.g.2.1, HI6.out.g.2.2, HI6.out.r.1, HI6.out.r.2⟩
    clear hK K
    try simp only [List.getElem_toArray, List.getElem_cons_zero, List.getElem_cons_succ, Act.put, List.setIfInBounds_toArray, List.set_cons_zero, List.set_cons_succ]
    refine wpT_one (i := 0) (by kernel_rfl) rfl (fun K hK => ?_)
    rw [show (if Region.wanted _ _ = true then _ else _ : Prop) = _ from if_pos rfl]
    refine wp_load_row 39 _ rfl (w.heap.size + 2) rfl _ _ _ _ HI6.out.d Tryz.underlying39 rfl (dr_info hl.out) ?_
    refine hK.out _ _ ?_ (fun hHeld => ?_)
    · exact ⟨HI6.out.g.1, HI6.out.g.2.1, HI6.out.g.2.2, HI6.out.r.1, HI6.out.r.2⟩
    clear hK K
    try simp only [List.getElem_toArray, List.getElem_cons_zero, List.getElem_cons_succ, Act.put, List.setIfInBounds_toArray, List.set_cons_zero, List.set_cons_succ]
    refine wpT_one (i := 5) (by kernel_rfl) rfl (fun K hK => ?_)
    go_simp
    refine (dlist_any h hl hhb c hdr Q (by omega) (by omega) nu (by omega) _ (Lib.hid (HDV.out.below HBB6.out))).mono ?_
    intro e w7 hLO
    unfold LstOut at hLO
    rw [HST.out] at hLO
    rw [if_pos rfl] at hLO
    obtain ⟨rfl, hb7⟩ := hLO
    have HI7 := Lib.hid (HI6.out.below hb7)
    have HBB7 : Hid (Below W.heap.size W w7) := Lib.hid (below_ext HBB6.out hb7)
    clear hb7
    refine hK.out _ _ ?_ (fun hHeld => ?_)
    · exact ⟨HI7.out.g.1, HI7.out.g.2.1, HI7.out.g.2.2, HI7.out.r.1, HI7.out.r.2⟩
    clear hK K
    try simp only [List.getElem_toArray, List.getElem_cons_zero, List.getElem_cons_succ, Act.put, List.setIfInBounds_toArray, List.set_cons_zero, List.set_cons_succ]
    refine wpT_one (i := 6) (by kernel_rfl) rfl (fun K hK => ?_)
    go_simp
    refine hK.out _ _ ?_ (fun hHeld => ?_)
    · exact ⟨HI7.out.g.1, HI7.out.g.2.1, HI7.out.g.2.2, HI7.out.r.1, HI7.out.r.2⟩
    clear hK K
    try simp only [List.getElem_toArray, List.getElem_cons_zero, List.getElem_cons_succ, Act.put, List.setIfInBounds_toArray, List.set_cons_zero, List.set_cons_succ]
    refine wpT_take (i := 7) (oi := _) (v := ?_) rfl (by kernel_rfl) (by kernel_rfl) (by kernel_rfl) (by kernel_rfl) (fun _ _ _ h => h) (Or.inl ⟨by rfl, ?_⟩) (by assumption) ?_
    rotate_left; (intro wS hSw; (try dsimp only at hSw); go_simp <;> with_reducible rfl)
    try simp only [List.getElem_toArray, List.getElem_cons_zero, List.getElem_cons_succ, Act.put, List.setIfInBounds_toArray, List.set_cons_zero, List.set_cons_succ]
    refine wpT_take (i := 8) (oi := _) (v := ?_) rfl (by kernel_rfl) (by kernel_rfl) (by kernel_rfl) (by kernel_rfl) (fun _ _ _ h => h) (Or.inl ⟨by rfl, ?_⟩) (by assumption) ?_
    rotate_left; (intro wS hSw; (try dsimp only at hSw); go_simp <;> with_reducible rfl)
    try simp only [List.getElem_toArray, List.getElem_cons_zero, List.getElem_cons_succ, Act.put, List.setIfInBounds_toArray, List.set_cons_zero, List.set_cons_succ]
    refine wpT_take (i := 9) (oi := _) (v := ?_) rfl (by kernel_rfl) (by kernel_rfl) (by kernel_rfl) (by kernel_rfl) (fun _ _ _ h => h) (Or.inl ⟨by rfl, ?_⟩) (by assumption) ?_
    rotate_left; (intro wS hSw; (try dsimp only at hSw); go_simp <;> with_reducible rfl)
    try simp only [List.getElem_toArray, List.getElem_cons_zero, List.getElem_cons_succ, Act.put, List.setIfInBounds_toArray, List.set_cons_zero, List.set_cons_succ]
    refine wpT_one (i := 10) (by kernel_rfl) rfl (fun K hK => ?_)
    rw [show (if Region.wanted _ _ = true then _ else _ : Prop) = _ from if_pos rfl]
    refine wp_store_row 39 _ _ rfl (w.heap.size + 2) (tcs (zer 32) 0) rfl rfl 39 _ HI7.out.d (dr_info rfl) (tcs_sz hl.out rfl) (tcs_one _ _) ?_
    refine hK.out _ _ ?_ (fun hHeld => ?_)
    · exact ⟨(cell_setRow_other _ _ _ _ (by simp)).trans HI7.out.g.1, (cell_setRow_other _ _ _ _ (by simp)).trans HI7.out.g.2.1, (cell_setRow_other _ _ _ _ (by simp)).trans HI7.out.g.2.2, (cell_setRow_other _ _ _ _ (by simp)).trans HI7.out.r.1, (cell_setRow_other _ _ _ _ (by simp)).trans HI7.out.r.2⟩
    clear hK K
    try simp only [List.getElem_toArray, List.getElem_cons_zero, List.getElem_cons_succ, Act.put, List.setIfInBounds_toArray, List.set_cons_zero, List.set_cons_succ]
    refine wpT_one (i := 11) (by kernel_rfl) rfl (fun K hK => ?_)
    go_simp
    refine hK.out _ _ ?_ (fun hHeld => ?_)
    · exact ⟨(cell_setRow_other _ _ _ _ (by simp)).trans HI7.out.g.1, (cell_setRow_other _ _ _ _ (by simp)).trans HI7.out.g.2.1, (cell_setRow_other _ _ _ _ (by simp)).trans HI7.out.g.2.2, (cell_setRow_other _ _ _ _ (by simp)).trans HI7.out.r.1, (cell_setRow_other _ _ _ _ (by simp)).trans HI7.out.r.2⟩
    clear hK K
    try simp only [List.getElem_toArray, List.getElem_cons_zero, List.getElem_cons_succ, Act.put, List.setIfInBounds_toArray, List.set_cons_zero, List.set_cons_succ]
    refine wpT_one (i := 12) (by kernel_rfl) rfl (fun K hK => ?_)
    go_simp
    refine hK.out _ _ ?_ (fun hHeld => ?_)
    · exact ⟨(cell_setRow_other _ _ _ _ (by simp)).trans HI7.out.g.1, (cell_setRow_other _ _ _ _ (by simp)).trans HI7.out.g.2.1, (cell_setRow_other _ _ _ _ (by simp)).trans HI7.out.g.2.2, (cell_setRow_other _ _ _ _ (by simp)).trans HI7.out.r.1, (cell_setRow_other _ _ _ _ (by simp)).trans HI7.out.r.2⟩
    clear hK K
    try simp only [List.getElem_toArray, List.getElem_cons_zero, List.getElem_cons_succ, Act.put, List.setIfInBounds_toArray, List.set_cons_zero, List.set_cons_succ]
    refine wpT_done (by kernel_rfl) ?_ _
    have HI8 : Hid (PvI w P Q G Y yn yc B bn bc (zer 32) 0 (w7.setRow (w.heap.size + 2) (tcs (zer 32) 0))) := Lib.hid (HI7.out.draw (h' := zer 32) (c' := 0))
    obtain ⟨W8, hW8⟩ : ∃ u, w7.setRow (w.heap.size + 2) (tcs (zer 32) 0) = u := ⟨_, rfl⟩
    rw [hW8] at HI8 ⊢
    clear hW8 HI7 HBB7
    go_wp2_with fail
    refine (lfail_any 5 _).mono ?_
    rintro e w9 ⟨rfl, hb9⟩
    have HIz := Lib.hid (HI8.out.below hb9)
    rw [show PrvE (.agg #[.slice none 0 0, .int .i64 0, .slice none 0 0]) (zer 32) 0 5 = .tuple #[.agg #[.slice none 0 0, .int .i64 0, .slice none 0 0], .agg (tcs (zer 32) 0), .int .i64 5] from rfl]
    clear hb9
    obtain ⟨hq, hdd, hd1, hbF⟩ := HIz.out.fail
    have HDz := Lib.hid hd1
    have HPz := Lib.hid HIz.out.p
    have HQF := Lib.hid hq
    have HDF := Lib.hid hdd
    have HBF := Lib.hid hbF
    clear hq hdd hd1 hbF
    obtain ⟨⟨p0, p1, p2⟩, pf0, pf1, pf2⟩ := HPz.out.cells
    go_wp2_with (first
      | ((with_reducible show wpList _ _ _ (⟨none, _, _, _, _, _⟩ :: _) _ _); refine wpList_store_row rfl 39 _ _ rfl (w.heap.size + 4) (tcs (zer 32) 0) rfl rfl _ _ HDz.out (dr_info rfl) rfl (tcs_one _ _) ?_))
    exact bodyPost_ret (v := PrvE (.agg #[.slice none 0 0, .int .i64 0, .slice none 0 0]) (zer 32) 0 5) (results_cell2_tmp (p := 10) (q := 11) (r := 12) (ty := 29) (ty2 := 39) rfl _ _ ⟨w.heap.size + 3, 0, none⟩ ⟨w.heap.size + 4, 0, none⟩ _ _ _ rfl rfl rfl (run_loadVar_row _ _ _ _ _ _ _ HQF.out Tryz.underlying29 rfl infoP) (run_loadVar_row _ _ _ _ _ _ _ HDF.out Tryz.underlying39 rfl (dr_info rfl))) rfl ⟨rfl, HBF.out⟩
end Go.Proofs.YtcmidgdhihmppaaGreatDoor
namespace Go.Proofs.YtcmidgdhihmppaaGreatDoor
open Go.RowKit SpM
set_option linter.unusedVariables false
set_option linter.unusedSimpArgs false
set_option maxRecDepth 100000
theorem QBlk.set1 {w : World} {b : Nat} {x y z y' : Value} (hh : QBlk w b x y z) : QBlk (w.setCell ⟨b, 1, none⟩ y') b x y' z := by
  unfold QBlk
  rw [heap_setCell_same _ _ _ _ _ _ hh]
  rfl
theorem QBlk.set2 {w : World} {b : Nat} {x y z z' : Value} (hh : QBlk w b x y z) : QBlk (w.setCell ⟨b, 2, none⟩ z') b x y z' := by
  unfold QBlk
  rw [heap_setCell_same _ _ _ _ _ _ hh]
  rfl
theorem sl_set {w : World} {g b j : Nat} {v : Value} {xs : List Int} (h : Sl w (some ⟨g, 0, none⟩) xs) (hne : g ≠ b) : Sl (w.setCell ⟨b, j, none⟩ v) (some ⟨g, 0, none⟩) xs :=
  h.set (fun b' o' e _ => by cases e; exact hne)
theorem sl_far {w w' : World} {g : Nat} {xs : List Int} (h : Sl w (some ⟨g, 0, none⟩) xs) (hb : w'.heap[g]? = w.heap[g]?) : Sl w' (some ⟨g, 0, none⟩) xs := fun k hk => by
  obtain ⟨b, o, e, hc⟩ := h k hk
  cases e
  exact ⟨g, 0, rfl, (World.cell?_of_block hb).trans hc⟩
theorem PvI.belowB {w : World} {P Q G : Int} {Y : Option Addr} {yn yc : Nat} {B : Option Addr} {bn bc : Nat} {h : List Int} {c : Int} {u u' : World} (H : PvI w P Q G Y yn yc B bn bc h c u) (hb : Below (w.heap.size + 5) u u') : PvI w P Q G Y yn yc B bn bc h c u' :=
  ⟨⟨(hb.cell (p := ⟨w.heap.size, 0, none⟩) (by simp)).trans H.g.1, (hb.cell (p := ⟨w.heap.size, 1, none⟩) (by simp)).trans H.g.2.1, (hb.cell (p := ⟨w.heap.size, 2, none⟩) (by simp)).trans H.g.2.2⟩,
   ⟨(hb.cell (p := ⟨w.heap.size + 1, 0, none⟩) (by simp)).trans H.r.1, (hb.cell (p := ⟨w.heap.size + 1, 1, none⟩) (by simp)).trans H.r.2⟩,
   (hb.block _ (by omega)).trans H.d, (hb.block _ (by omega)).trans H.p, (hb.block _ (by omega)).trans H.e, H.b.trans (hb.mono (by omega)), Nat.le_trans H.z hb.size⟩
/-- what linear.Prove answers. -/
def ProvOut (P Q G : Int) (lb ys : List Int) (rows : List Row) (ks xs : List Int) (bn : Nat) (h : List Int) (c2 : Int) (w : World) (e : Ending) (w' : World) : Prop :=
  ∃ A ca Z cz V, Kp (chalV P Q G lb ys rows (rows.map fun r => prodF P 1 r.xs ks) = V) ∧ e = .returned (PrvE (.agg #[.slice A bn ca, .int .i64 V, .slice Z (rowN rows) cz]) h c2 0) ∧ Sl w' A (rows.map fun r => prodF P 1 r.xs ks) ∧ Sl w' Z (rspL Q V ks xs (rowN rows)) ∧ Below w.heap.size w w'
set_option maxHeartbeats 25600000 in
theorem lprove_o (P Q G : Int) (Y : Option Addr) (ys : List Int) (yn yc : Nat) (B : Option Addr) (rows : List Row) (bn bc : Nat) (X : Option Addr) (xs : List Int) (xn xc : Nat) (s : ByteArray) (h : List Int) (c : Int) (hyn : Hid (ys.length = yn)) (hbn : Hid (rows.length = bn)) (hxn : Hid (xs.length = xn)) (hxb : xn < 1000000) (hs : s.size ≤ 1000) (hl : Hid (h.length = 32)) (hQ : Q < 9223372036854775808) (hhb : Hid (bytesB h = true)) (hr : Hid (labB (bys s) = true)) (hdr : Hid (drB c = true)) (hck : Hid (chkR P Q G ys rows xs [] = 0)) (hho : Hid (holdsB P Q G ys rows xs = true)) (HST : Hid ((stD h Q c (rowN rows)).2 = false)) (c2 : Int) (hc2 : Hid ((stD h Q c (rowN rows)).1 = c2)) (ks : List Int) (hks : Hid (lstD h Q c (rowN rows) = ks)) (w : World) (hv : Hid (Vars w)) (hd : Hid (VarsD w)) (hY : Hid (Sl w Y ys)) (hB : Hid (Rw w B rows)) (hX : Hid (Sl w X xs)) :
    Calls Tryz.prog 19 #[gv P Q G, .agg #[.slice Y yn yc, .slice B bn bc], .slice X xn xc, .string s, .agg (tcs h c)] w (ProvOut P Q G (bys s) ys rows ks xs bn h c2 w) := by
  obtain ⟨W, hW⟩ : ∃ W, (((((w.alloc (gObj P Q G)).alloc (.cells #[.slice Y yn yc, .slice B bn bc] 27)).alloc (.cells (tcs h c) 39)).alloc (.cells #[.slice none 0 0, .int .i64 0, .slice none 0 0] 29)).alloc (.cells #[.int .u8 0, .int .u8 0, .int .u8 0, .int .u8 0, .int .u8 0, .int .u8 0, .int .u8 0, .int .u8 0, .int .u8 0, .int .u8 0, .int .u8 0, .int .u8 0, .int .u8 0, .int .u8 0, .int .u8 0, .int .u8 0, .int .u8 0, .int .u8 0, .int .u8 0, .int .u8 0, .int .u8 0, .int .u8 0, .int .u8 0, .int .u8 0, .int .u8 0, .int .u8 0, .int .u8 0, .int .u8 0, .int .u8 0, .int .u8 0, .int .u8 0, .int .u8 0, .int .i64 0] 39)) = W := ⟨_, rfl⟩
  have HI0 : Hid (PvI w P Q G Y yn yc B bn bc h c W) := Lib.hid (by rw [← hW]; exact PvI.start w P Q G Y yn yc B bn bc h c)
  have HV := Lib.hid (hv.out.below HI0.out.b)
  have HDV := Lib.hid (hd.out.below HI0.out.b)
  have HYY := Lib.hid (hY.out.below HI0.out.b)
  have HBB := Lib.hid (hB.out.below HI0.out.b)
  have HXX := Lib.hid (hX.out.below HI0.out.b)
  have HW := Lib.hid hW
  clear hW
  go_enter Tryz.func19, Tryz.ntmps19
  go_upto_region 1 with (fail)
  rw [HW.out]
  clear HW
  go_wp2_with fail
  refine (tnew_ok s hs hr _ HDV).mono ?_
  rintro e w1 ⟨rfl, hb1⟩
  have HI1 := Lib.hid (HI0.out.below hb1)
  obtain ⟨S0, hS0⟩ : ∃ S, newL (bys s) = S := ⟨_, rfl⟩
  have HL0 : Hid (S0.length = 32) := Lib.hid (by rw [← hS0]; exact (st_new _).1)
  rw [hS0, show TrE S0 0 0 = .tuple #[.agg (tcs S0 0), .int .i64 0] from rfl]
  have HBW1 := Lib.hid hb1
  clear hb1 hS0
  go_upto_region 3 with ((with_reducible show wpList _ _ _ (⟨none, _, _, _, _, _⟩ :: _) _ _); refine wpList_store_row rfl 87 _ _ rfl w1.heap.size (tcs S0 0) rfl rfl _ _ (heap_alloc_new _ _) (tr_info HL0.out) (tcs_sz (h := zer 32) (c := 0) rfl HL0.out) (tcs_one _ _) ?_)
  rw [World.setRow_alloc_new]
  try simp only [Act.put]
  have HI2 := Lib.hid (HI1.out.below (below_box0 w1 (.cells (tcs S0 0) 87)))
  have HBW2 := Lib.hid (below_ext HBW1.out (below_box0 w1 (.cells (tcs S0 0) 87)))
  obtain ⟨W2, hW2⟩ : ∃ u, w1.alloc (.cells (tcs S0 0) 87) = u := ⟨_, rfl⟩
  rw [hW2] at HI2 HBW2 ⊢
  clear hW2
  go_wp2_with ((with_reducible show wpList _ _ _ (⟨some 28, _, _, _, _, _⟩ :: _) _ _); refine wpList_load_row_g (by rfl) 39 _ rfl (w.heap.size + 2) rfl _ _ _ _ HI2.out.d Tryz.underlying39 rfl (dr_info hl.out) ?_)
  refine (dvalid_any h hl c true hdr _).mono ?_
  rintro e w3 ⟨rfl, hb3⟩
  have HI3 := Lib.hid (HI2.out.below hb3)
  have HBB3 : Hid (Below W.heap.size W w3) := Lib.hid (below_ext HBW2.out hb3)
  clear hb3
  obtain ⟨g0, g1, g2⟩ := HI3.out.g
  obtain ⟨r0, r1⟩ := HI3.out.r
  go_wp2_with fail
  refine (lcheck_any P Q G Y ys yn yc B rows bn bc X xs xn xc none [] 0 0 0 hck hyn hbn hxn hxb (Lib.hid rfl) (by omega) hQ _ (Lib.hid (HV.out.below HBB3.out)) (Lib.hid (HYY.out.below HBB3.out)) (Lib.hid (HBB.out.below HBB3.out)) (Lib.hid (HXX.out.below HBB3.out)) (Lib.hid (sl_nil _))).mono ?_
  rintro e w4 ⟨rfl, hb4⟩
  have HI4 := Lib.hid (HI3.out.below hb4)
  have HBB4 : Hid (Below W.heap.size W w4) := Lib.hid (below_ext HBB3.out hb4)
  clear hb4 g0 g1 g2 r0 r1
  obtain ⟨g0, g1, g2⟩ := HI4.out.g
  obtain ⟨r0, r1⟩ := HI4.out.r
  go_wp2_with fail
  refine (lholds_any P Q G Y ys yn yc B rows bn bc X xs xn xc true hho hyn hbn hxn hxb hQ _ (Lib.hid (HV.out.below HBB4.out)) (Lib.hid (HYY.out.below HBB4.out)) (Lib.hid (HBB.out.below HBB4.out)) (Lib.hid (HXX.out.below HBB4.out))).mono ?_
  rintro e w5 ⟨rfl, hb5⟩
  have HI5 := Lib.hid (HI4.out.below hb5)
  have HBB5 : Hid (Below W.heap.size W w5) := Lib.hid (below_ext HBB4.out hb5)
  clear hb5 g0 g1 g2 r0 r1 HI0 HI1 HI2 HI3 HI4 HBB3 HBB4
  obtain ⟨g0, g1, g2⟩ := HI5.out.g
  obtain ⟨r0, r1⟩ := HI5.out.r
  obtain ⟨nu, hnu⟩ : ∃ k, rowN rows = k := ⟨_, rfl⟩
  have HN := Lib.hid hnu
  rw [hnu] at HST hc2 hks
  have HC2 := hc2
  have HKS := hks
  obtain ⟨v1, v2, v3, v4, v5, v6, v7, v8⟩ := validR_parts (holdsB_parts' hho.out).1
  obtain ⟨hp2, hp, hq3, hqp⟩ := validG_P v1
  have hxn2 : xs.length = nu := by rw [← hnu]; exact (holdsB_parts' hho.out).2.1
  have hxc := (holdsB_parts' hho.out).2.2.1
  have hn1 : 1 ≤ nu := by rw [← hnu]; exact v6
  have hn12 : nu ≤ 12 := by rw [← hnu]; exact v7
  have hbp : 0 < bn := by rw [← hbn.out]; omega
  have hb8 : bn ≤ 8 := by rw [← hbn.out]; omega
  have HRB : Hid (rows.all (rowB P Q nu) = true) := Lib.hid (by rw [← hnu]; exact v8)
  have HXN : Hid (xs.length = nu) := Lib.hid hxn2
  have HXC := Lib.hid hxc
  have HVG := Lib.hid v1
  have HVR := Lib.hid (holdsB_parts' hho.out).1
  clear hnu v1 v2 v3 v4 v5 v6 v7 v8 hxn2 hxc
  have HId := Lib.hid (HI5.out.below (Below.refl _ _).drew)
  have HBBd : Hid (Below W.heap.size W w5.drew) := Lib.hid (below_ext HBB5.out (Below.refl _ _).drew)
  go_wp2_with fail
  clear g0 g1 g2 r0 r1
  refine wp_region_T (S := fun w' => w'.cell? ⟨w.heap.size, 0, none⟩ = some (.int .i64 P) ∧ w'.cell? ⟨w.heap.size, 1, none⟩ = some (.int .i64 Q) ∧ w'.cell? ⟨w.heap.size, 2, none⟩ = some (.int .i64 G) ∧ w'.cell? ⟨w.heap.size + 1, 0, none⟩ = some (.slice Y yn yc) ∧ w'.cell? ⟨w.heap.size + 1, 1, none⟩ = some (.slice B bn bc)) (E := []) (by kernel_rfl) (by exact ⟨HId.out.g.1, HId.out.g.2.1, HId.out.g.2.2, HId.out.r.1, HId.out.r.2⟩) (fun hHeld => ?_)
  refine wpT_take (i := 1) (oi := _) (v := ?_) rfl (by kernel_rfl) (by kernel_rfl) (by kernel_rfl) (by kernel_rfl) (fun _ _ _ h => h) (Or.inl ⟨by rfl, ?_⟩) (by assumption) ?_
  rotate_left; (intro wS hSw; (try dsimp only at hSw); go_simp <;> with_reducible rfl)
  try simp only [List.getElem_toArray, List.getElem_cons_zero, List.getElem_cons_succ, Act.put, List.setIfInBounds_toArray, List.set_cons_zero, List.set_cons_succ]
  refine wpT_take (i := 2) (oi := _) (v := ?_) rfl (by kernel_rfl) (by kernel_rfl) (by kernel_rfl) (by kernel_rfl) (fun _ _ _ h => h) (Or.inl ⟨by rfl, ?_⟩) (by assumption) ?_
  rotate_left; (intro wS hSw; (try dsimp only at hSw); go_simp <;> with_reducible rfl)
  try simp only [List.getElem_toArray, List.getElem_cons_zero, List.getElem_cons_succ, Act.put, List.setIfInBounds_toArray, List.set_cons_zero, List.set_cons_succ]
  refine wpT_take (i := 3) (oi := _) (v := ?_) rfl (by kernel_rfl) (by kernel_rfl) (by kernel_rfl) (by kernel_rfl) (fun _ _ _ h => h) (Or.inl ⟨by rfl, ?_⟩) (by assumption) ?_
  rotate_left; (intro wS hSw; (try dsimp only at hSw); go_simp <;> with_reducible rfl)
  try simp only [List.getElem_toArray, List.getElem_cons_zero, List.getElem_cons_succ, Act.put, List.setIfInBounds_toArray, List.set_cons_zero, List.set_cons_succ]
  refine wpT_two (i1 := 0) (i2 := 4) (by kernel_rfl) rfl rfl (fun K hK => ?_) (fun K hK => ?_)
  · skip
    rw [show (if Region.wanted _ _ = true then _ else _ : Prop) = _ from if_pos rfl]
    refine wp_load_row 39 _ rfl (w.heap.size + 2) rfl _ _ _ _ HId.out.d Tryz.underlying39 rfl (dr_info hl.out) ?_
    refine hK.out _ _ ?_ (fun hHeld => ?_)
    · exact ⟨HId.out.g.1, HId.out.g.2.1, HId.out.g.2.2, HId.out.r.1, HId.out.r.2⟩
    clear hK K
    try simp only [List.getElem_toArray, List.getElem_cons_zero, List.getElem_cons_succ, Act.put, List.setIfInBounds_toArray, List.set_cons_zero, List.set_cons_succ]
    refine wpT_one (i := 4) (by kernel_rfl) rfl (fun K hK => ?_)
    go_simp
    refine (lunknowns_any Y yn yc B rows bn bc nu hbn hbp HN _ (Lib.hid (HBB.out.below HBBd.out))).mono ?_
    rintro e w6 ⟨rfl, hb6⟩
    have HI6 := Lib.hid (HId.out.below hb6)
    have HBB6 : Hid (Below W.heap.size W w6) := Lib.hid (below_ext HBBd.out hb6)
    clear hb6
    refine hK.out _ _ ?_ (fun hHeld => ?_)
    · exact ⟨HI6.out.g.1, HI6.out.g.2.1, HI6.out.g.2.2, HI6.out.r.1, HI6.out.r.2⟩
    clear hK K
    try simp only [List.getElem_toArray, List.getElem_cons_zero, List.getElem_cons_succ, Act.put, List.setIfInBounds_toArray, List.set_cons_zero, List.set_cons_succ]
    refine wpT_one (i := 5) (by kernel_rfl) rfl (fun K hK => ?_)
    go_simp
    refine (dlist_any h hl hhb c hdr Q (by omega) (by omega) nu (by omega) _ (Lib.hid (HDV.out.below HBB6.out))).mono ?_
    intro e w7 hLO
    unfold LstOut at hLO
    rw [HST.out] at hLO
    rw [if_neg (by decide)] at hLO
    obtain ⟨v7, rfl, ho7, hb7⟩ := hLO
    have HI7 := Lib.hid (HI6.out.below hb7)
    have HBB7 : Hid (Below W.heap.size W w7) := Lib.hid (below_ext HBB6.out hb7)
    have HZ6 : Hid (w.heap.size + 5 ≤ w6.heap.size) := Lib.hid HI6.out.z
    rw [HKS.out] at ho7
    have HO7 := Lib.hid ho7
    rw [HC2.out]
    clear hb7 ho7
    refine hK.out _ _ ?_ (fun hHeld => ?_)
    · exact ⟨HI7.out.g.1, HI7.out.g.2.1, HI7.out.g.2.2, HI7.out.r.1, HI7.out.r.2⟩
    clear hK K
    try simp only [List.getElem_toArray, List.getElem_cons_zero, List.getElem_cons_succ, Act.put, List.setIfInBounds_toArray, List.set_cons_zero, List.set_cons_succ]
    refine wpT_one (i := 6) (by kernel_rfl) rfl (fun K hK => ?_)
    go_simp
    refine hK.out _ _ ?_ (fun hHeld => ?_)
    · exact ⟨HI7.out.g.1, HI7.out.g.2.1, HI7.out.g.2.2, HI7.out.r.1, HI7.out.r.2⟩
    clear hK K
    try simp only [List.getElem_toArray, List.getElem_cons_zero, List.getElem_cons_succ, Act.put, List.setIfInBounds_toArray, List.set_cons_zero, List.set_cons_succ]
    refine wpT_take (i := 7) (oi := _) (v := ?_) rfl (by kernel_rfl) (by kernel_rfl) (by kernel_rfl) (by kernel_rfl) (fun _ _ _ h => h) (Or.inl ⟨by rfl, ?_⟩) (by assumption) ?_
    rotate_left; (intro wS hSw; (try dsimp only at hSw); go_simp <;> with_reducible rfl)
    try simp only [List.getElem_toArray, List.getElem_cons_zero, List.getElem_cons_succ, Act.put, List.setIfInBounds_toArray, List.set_cons_zero, List.set_cons_succ]
    refine wpT_take (i := 8) (oi := _) (v := ?_) rfl (by kernel_rfl) (by kernel_rfl) (by kernel_rfl) (by kernel_rfl) (fun _ _ _ h => h) (Or.inl ⟨by rfl, ?_⟩) (by assumption) ?_
    rotate_left; (intro wS hSw; (try dsimp only at hSw); go_simp <;> with_reducible rfl)
    try simp only [List.getElem_toArray, List.getElem_cons_zero, List.getElem_cons_succ, Act.put, List.setIfInBounds_toArray, List.set_cons_zero, List.set_cons_succ]
    refine wpT_take (i := 9) (oi := _) (v := ?_) rfl (by kernel_rfl) (by kernel_rfl) (by kernel_rfl) (by kernel_rfl) (fun _ _ _ h => h) (Or.inl ⟨by rfl, ?_⟩) (by assumption) ?_
    rotate_left; (intro wS hSw; (try dsimp only at hSw); go_simp <;> with_reducible rfl)
    try simp only [List.getElem_toArray, List.getElem_cons_zero, List.getElem_cons_succ, Act.put, List.setIfInBounds_toArray, List.set_cons_zero, List.set_cons_succ]
    refine wpT_one (i := 10) (by kernel_rfl) rfl (fun K hK => ?_)
    rw [show (if Region.wanted _ _ = true then _ else _ : Prop) = _ from if_pos rfl]
    refine wp_store_row 39 _ _ rfl (w.heap.size + 2) (tcs h c2) rfl rfl 39 _ HI7.out.d (dr_info hl.out) (tcs_sz hl.out hl.out) (tcs_one _ _) ?_
    refine hK.out _ _ ?_ (fun hHeld => ?_)
    · exact ⟨(cell_setRow_other _ _ _ _ (by simp)).trans HI7.out.g.1, (cell_setRow_other _ _ _ _ (by simp)).trans HI7.out.g.2.1, (cell_setRow_other _ _ _ _ (by simp)).trans HI7.out.g.2.2, (cell_setRow_other _ _ _ _ (by simp)).trans HI7.out.r.1, (cell_setRow_other _ _ _ _ (by simp)).trans HI7.out.r.2⟩
    clear hK K
    try simp only [List.getElem_toArray, List.getElem_cons_zero, List.getElem_cons_succ, Act.put, List.setIfInBounds_toArray, List.set_cons_zero, List.set_cons_succ]
    refine wpT_one (i := 11) (by kernel_rfl) rfl (fun K hK => ?_)
    go_simp
    refine hK.out _ _ ?_ (fun hHeld => ?_)
    · exact ⟨(cell_setRow_other _ _ _ _ (by simp)).trans HI7.out.g.1, (cell_setRow_other _ _ _ _ (by simp)).trans HI7.out.g.2.1, (cell_setRow_other _ _ _ _ (by simp)).trans HI7.out.g.2.2, (cell_setRow_other _ _ _ _ (by simp)).trans HI7.out.r.1, (cell_setRow_other _ _ _ _ (by simp)).trans HI7.out.r.2⟩
    clear hK K
    try simp only [List.getElem_toArray, List.getElem_cons_zero, List.getElem_cons_succ, Act.put, List.setIfInBounds_toArray, List.set_cons_zero, List.set_cons_succ]
    refine wpT_one (i := 12) (by kernel_rfl) rfl (fun K hK => ?_)
    go_simp
    refine hK.out _ _ ?_ (fun hHeld => ?_)
    · exact ⟨(cell_setRow_other _ _ _ _ (by simp)).trans HI7.out.g.1, (cell_setRow_other _ _ _ _ (by simp)).trans HI7.out.g.2.1, (cell_setRow_other _ _ _ _ (by simp)).trans HI7.out.g.2.2, (cell_setRow_other _ _ _ _ (by simp)).trans HI7.out.r.1, (cell_setRow_other _ _ _ _ (by simp)).trans HI7.out.r.2⟩
    clear hK K
    try simp only [List.getElem_toArray, List.getElem_cons_zero, List.getElem_cons_succ, Act.put, List.setIfInBounds_toArray, List.set_cons_zero, List.set_cons_succ]
    refine wpT_done (by kernel_rfl) ?_ _
    have HI8 : Hid (PvI w P Q G Y yn yc B bn bc h c2 (w7.setRow (w.heap.size + 2) (tcs h c2))) := Lib.hid (HI7.out.draw (h' := h) (c' := c2))
    have HKL : Hid (ks.length = nu) := Lib.hid (by rw [← HKS.out]; exact lstD_len _ _ _ _)
    have HKC : Hid (ks.all (scB Q) = true) := Lib.hid (by rw [← HKS.out]; exact lstD_sc (by omega) _)
    have HO8 : Hid (OwnL (w7.setRow (w.heap.size + 2) (tcs h c2)) w6.heap.size v7 ks) := Lib.hid (World.ownsRow.kept HO7.out (grown_setRow _ _ _) (Or.inr (fun e => by have := (World.ownsRow.lt HO7.out _ e).1; have := HZ6.out; omega)))
    obtain ⟨W8, hW8⟩ : ∃ u, w7.setRow (w.heap.size + 2) (tcs h c2) = u := ⟨_, rfl⟩
    rw [hW8] at HI8 HO8 ⊢
    obtain ⟨g7, cap7, hv7, hg7, hc7⟩ := OwnL.cells HO8.out (by rw [HKL.out]; omega)
    rw [HKL.out] at hv7
    subst hv7
    have HK8 : Hid (Sl W8 (some ⟨g7, 0, none⟩) ks) := Lib.hid (sl_of_cells hc7)
    have HG7 : Hid (g7 < W8.heap.size) := Lib.hid (World.block_lt_of_cell? _ _ (hc7 0 (by rw [HKL.out]; omega)))
    clear hW8 HI7 HBB7 HO7 HO8 hg7 hc7 HI6 HBB6
    obtain ⟨g0, g1, g2⟩ := HI8.out.g
    obtain ⟨r0, r1⟩ := HI8.out.r
    go_wp2_with fail
    refine (lproducts_any P Q G B rows bn bc (some ⟨g7, 0, none⟩) ks nu cap7 hbn HKL (by omega) (by omega) HRB HKC hp2 hp hQ _ (Lib.hid (hB.out.below HI8.out.b)) HK8).mono ?_
    intro e w9 hL9
    obtain ⟨v9, rfl, ho9, hb9⟩ := hL9
    obtain ⟨al, hal⟩ : ∃ al, (rows.map fun r => prodF P 1 r.xs ks) = al := ⟨_, rfl⟩
    have HALL : Hid (al.length = bn) := Lib.hid (by rw [← hal, List.length_map]; exact hbn.out)
    have HAOK : Hid (okL al) := Lib.hid (by
      refine ⟨by rw [HALL.out]; omega, fun x hx => ?_⟩
      rw [← hal] at hx
      obtain ⟨r, _, rfl⟩ := List.mem_map.1 hx
      have := prodF_in hp2 r.xs ks 1 (by omega) (by omega)
      omega)
    rw [hal] at ho9
    obtain ⟨g9, cap9, hv9, hg9, hc9⟩ := OwnL.cells ho9 (by rw [HALL.out]; exact hbp)
    rw [HALL.out] at hv9
    subst hv9
    have HAL := Lib.hid hal
    have HA9 : Hid (Sl w9 (some ⟨g9, 0, none⟩) al) := Lib.hid (sl_of_cells hc9)
    have HG9 : Hid (g9 < w9.heap.size) := Lib.hid (World.block_lt_of_cell? _ _ (hc9 0 (by rw [HALL.out]; exact hbp)))
    have HI9 := Lib.hid (HI8.out.below hb9)
    have HK9 := Lib.hid (HK8.out.below hb9)
    have HG79 : Hid (g7 < w9.heap.size) := Lib.hid (Nat.lt_of_lt_of_le HG7.out hb9.size)
    have HG9g : Hid (w.heap.size + 5 ≤ g9) := Lib.hid (by have := HI8.out.z; omega)
    clear hal ho9 hg9 hc9 hb9 g0 g1 g2 r0 r1 HI8 HK8 HG7
    go_upto_region 14 with (fail)
    have HQ10 : Hid (QBlk (w9.alloc (.cells #[.slice (some ⟨g9, 0, none⟩) bn cap9, .int .i64 0, .slice none 0 0] 29)) w9.heap.size (.slice (some ⟨g9, 0, none⟩) bn cap9) (.int .i64 0) (.slice none 0 0)) := Lib.hid (heap_alloc_new _ _)
    have HI10 := Lib.hid (HI9.out.below (below_box0 w9 (.cells #[.slice (some ⟨g9, 0, none⟩) bn cap9, .int .i64 0, .slice none 0 0] 29)))
    have HK10 := Lib.hid (HK9.out.below (below_box0 w9 (.cells #[.slice (some ⟨g9, 0, none⟩) bn cap9, .int .i64 0, .slice none 0 0] 29)))
    have HA10 := Lib.hid (HA9.out.below (below_box0 w9 (.cells #[.slice (some ⟨g9, 0, none⟩) bn cap9, .int .i64 0, .slice none 0 0] 29)))
    have HZb : Hid (w.heap.size + 5 ≤ w9.heap.size) := Lib.hid HI9.out.z
    obtain ⟨W10, hW10⟩ : ∃ u, w9.alloc (.cells #[.slice (some ⟨g9, 0, none⟩) bn cap9, .int .i64 0, .slice none 0 0] 29) = u := ⟨_, rfl⟩
    rw [hW10] at HQ10 HI10 HK10 HA10 ⊢
    obtain ⟨b, hbb⟩ : ∃ b, w9.heap.size = b := ⟨_, rfl⟩
    rw [hbb] at HQ10 HZb HG9 HG79 ⊢
    clear hW10 hbb HI9 HK9 HA9
    obtain ⟨g0, g1, g2⟩ := HI10.out.g
    obtain ⟨r0, r1⟩ := HI10.out.r
    obtain ⟨⟨p0, p1, p2⟩, -⟩ := HQ10.out.cells
    obtain ⟨okg, oky, okr⟩ := valid_ok HVR.out hB.out
    have HOKG := Lib.hid okg
    have HOKY := Lib.hid oky
    have HOKR := Lib.hid okr
    obtain ⟨V, hV⟩ : ∃ V, chalV P Q G (bys s) ys rows al = V := ⟨_, rfl⟩
    have hVlo : 0 ≤ V ∧ V < Q := by rw [← hV]; exact chalV_lo (by omega) _ _ _ _
    obtain ⟨hV0, hV1⟩ := hVlo
    have HVV : Kp (chalV P Q G (bys s) ys rows al = V) := ⟨hV⟩
    clear hV okg oky okr
    go_wp2_with fail
    refine (lchal_ok P Q G Y ys yn yc B rows bn bc (some ⟨g9, 0, none⟩) al bn cap9 s hs hr hyn hbn HALL (by omega) HOKG HOKY HAOK HOKR (by omega) (by omega) V HVV _ (Lib.hid (hd.out.below HI10.out.b)) (Lib.hid (hY.out.below HI10.out.b)) (Lib.hid (hB.out.below HI10.out.b)) HA10).mono ?_
    rintro e w11 ⟨rfl, hb11⟩
    have HI11 := Lib.hid (HI10.out.below hb11)
    have HQ11 := Lib.hid (HQ10.out.below hb11)
    have HK11 := Lib.hid (HK10.out.below hb11)
    have HA11 := Lib.hid (HA10.out.below hb11)
    clear hb11 g0 g1 g2 r0 r1 p0 p1 p2 HI10 HQ10 HK10 HA10
    obtain ⟨⟨p0, p1, p2⟩, pf0, pf1, pf2⟩ := HQ11.out.cells
    go_upto_region 15 with (fail)
    clear p0 p1 p2 pf0 pf1 pf2
    have HQ12 : Hid (QBlk (w11.setCell ⟨b, 1, none⟩ (.int .i64 V)) b (.slice (some ⟨g9, 0, none⟩) bn cap9) (.int .i64 V) (.slice none 0 0)) := Lib.hid HQ11.out.set1
    have HI12 := Lib.hid (HI11.out.belowB (((Below.refl _ _).setCell HZb.out _) : Below (w.heap.size + 5) w11 (w11.setCell ⟨b, 1, none⟩ (.int .i64 V))))
    have HK12 : Hid (Sl (w11.setCell ⟨b, 1, none⟩ (.int .i64 V)) (some ⟨g7, 0, none⟩) ks) := Lib.hid (sl_set HK11.out (by have := HG79.out; omega))
    have HA12 : Hid (Sl (w11.setCell ⟨b, 1, none⟩ (.int .i64 V)) (some ⟨g9, 0, none⟩) al) := Lib.hid (sl_set HA11.out (by have := HG9.out; omega))
    obtain ⟨W12, hW12⟩ : ∃ u, w11.setCell ⟨b, 1, none⟩ (.int .i64 V) = u := ⟨_, rfl⟩
    rw [hW12] at HQ12 HI12 HK12 HA12 ⊢
    clear hW12 HI11 HQ11 HK11 HA11
    obtain ⟨g0, g1, g2⟩ := HI12.out.g
    obtain ⟨⟨p0, p1, p2⟩, -⟩ := HQ12.out.cells
    have hxe : xn = nu := by rw [← hxn.out, HXN.out]
    go_wp2_with fail
    rw [hxe]
    refine (lrespond_ok P Q G (some ⟨g7, 0, none⟩) ks nu cap7 V X xs xc HVG HKL HXN hn1 hn12 HKC HXC hV0 hV1 hQ _ (Lib.hid (hv.out.below HI12.out.b)) HK12 (Lib.hid (hX.out.below HI12.out.b))).mono ?_
    intro e w13 hL13
    obtain ⟨v13, rfl, ho13, hb13⟩ := hL13
    obtain ⟨zl, hzl⟩ : ∃ zl, rspL Q V ks xs nu = zl := ⟨_, rfl⟩
    have HZL : Hid (zl.length = nu) := Lib.hid (by rw [← hzl]; exact rspL_length _ _ _ _ _)
    rw [hzl] at ho13
    obtain ⟨g13, cap13, hv13, hg13, hc13⟩ := OwnL.cells ho13 (by rw [HZL.out]; omega)
    rw [HZL.out] at hv13
    subst hv13
    have HZZ := Lib.hid hzl
    have HS13 : Hid (Sl w13 (some ⟨g13, 0, none⟩) zl) := Lib.hid (sl_of_cells hc13)
    have HG13 : Hid (b < g13) := Lib.hid (by have := HQ12.out.lt; omega)
    have HI13 := Lib.hid (HI12.out.below hb13)
    have HQ13 := Lib.hid (HQ12.out.below hb13)
    have HA13 := Lib.hid (HA12.out.below hb13)
    clear hzl ho13 hg13 hc13 hb13 g0 g1 g2 p0 p1 p2 HI12 HQ12 HK12 HA12 hxe
    obtain ⟨⟨p0, p1, p2⟩, pf0, pf1, pf2⟩ := HQ13.out.cells
    go_upto_region 18 with (fail)
    clear p0 p1 p2 pf0 pf1 pf2
    have HQ14 : Hid (QBlk (w13.setCell ⟨b, 2, none⟩ (.slice (some ⟨g13, 0, none⟩) nu cap13)) b (.slice (some ⟨g9, 0, none⟩) bn cap9) (.int .i64 V) (.slice (some ⟨g13, 0, none⟩) nu cap13)) := Lib.hid HQ13.out.set2
    have HI14 := Lib.hid (HI13.out.belowB (((Below.refl _ _).setCell HZb.out _) : Below (w.heap.size + 5) w13 (w13.setCell ⟨b, 2, none⟩ (.slice (some ⟨g13, 0, none⟩) nu cap13))))
    have HS14 : Hid (Sl (w13.setCell ⟨b, 2, none⟩ (.slice (some ⟨g13, 0, none⟩) nu cap13)) (some ⟨g13, 0, none⟩) zl) := Lib.hid (sl_set HS13.out (by have := HG13.out; omega))
    have HA14 : Hid (Sl (w13.setCell ⟨b, 2, none⟩ (.slice (some ⟨g13, 0, none⟩) nu cap13)) (some ⟨g9, 0, none⟩) al) := Lib.hid (sl_set HA13.out (by have := HG9.out; omega))
    obtain ⟨W14, hW14⟩ : ∃ u, w13.setCell ⟨b, 2, none⟩ (.slice (some ⟨g13, 0, none⟩) nu cap13) = u := ⟨_, rfl⟩
    rw [hW14] at HQ14 HI14 HS14 HA14 ⊢
    clear hW14 HI13 HQ13 HS13 HA13
    go_wp2_with fail
    have HId14 := Lib.hid (HI14.out.below (Below.refl _ _).drew)
    have HQd14 := Lib.hid (HQ14.out.below (Below.refl _ _).drew)
    obtain ⟨⟨q0, q1, q2⟩, -⟩ := HQd14.out.cells
    have HE15 : Hid (DBlk (W14.drew.setRow (w.heap.size + 3) #[.slice (some ⟨g9, 0, none⟩) bn cap9, .int .i64 V, .slice (some ⟨g13, 0, none⟩) nu cap13]) (w.heap.size + 4) (zer 32) 0) := Lib.hid ((setRow_other _ _ _ _ (by omega)).trans HId14.out.e)
    have HP15 : Hid (QBlk ((W14.drew.setRow (w.heap.size + 3) #[.slice (some ⟨g9, 0, none⟩) bn cap9, .int .i64 V, .slice (some ⟨g13, 0, none⟩) nu cap13]).setRow (w.heap.size + 4) (tcs h c2)) (w.heap.size + 3) (.slice (some ⟨g9, 0, none⟩) bn cap9) (.int .i64 V) (.slice (some ⟨g13, 0, none⟩) nu cap13)) := Lib.hid ((setRow_other _ _ _ _ (by omega)).trans HId14.out.p.setRow)
    have HD15 : Hid (DBlk ((W14.drew.setRow (w.heap.size + 3) #[.slice (some ⟨g9, 0, none⟩) bn cap9, .int .i64 V, .slice (some ⟨g13, 0, none⟩) nu cap13]).setRow (w.heap.size + 4) (tcs h c2)) (w.heap.size + 4) h c2) := Lib.hid HE15.out.setRow
    have HBF : Hid (Below w.heap.size w ((W14.drew.setRow (w.heap.size + 3) #[.slice (some ⟨g9, 0, none⟩) bn cap9, .int .i64 V, .slice (some ⟨g13, 0, none⟩) nu cap13]).setRow (w.heap.size + 4) (tcs h c2))) := Lib.hid (below_setRow' (below_setRow' HId14.out.b (by omega)) (by omega))
    have hzz := HZb.out
    have hgg := HG9.out
    have hgh := HG13.out
    have HAF : Hid (Sl ((W14.drew.setRow (w.heap.size + 3) #[.slice (some ⟨g9, 0, none⟩) bn cap9, .int .i64 V, .slice (some ⟨g13, 0, none⟩) nu cap13]).setRow (w.heap.size + 4) (tcs h c2)) (some ⟨g9, 0, none⟩) al) := Lib.hid (sl_far HA14.out (by have := HG9g.out; exact (setRow_other _ _ _ _ (by omega)).trans (setRow_other _ _ _ _ (by omega))))
    have HZF : Hid (Sl ((W14.drew.setRow (w.heap.size + 3) #[.slice (some ⟨g9, 0, none⟩) bn cap9, .int .i64 V, .slice (some ⟨g13, 0, none⟩) nu cap13]).setRow (w.heap.size + 4) (tcs h c2)) (some ⟨g13, 0, none⟩) zl) := Lib.hid (sl_far HS14.out ((setRow_other _ _ _ _ (by omega)).trans (setRow_other _ _ _ _ (by omega))))
    refine wp_region_T (S := fun w' => w'.cell? ⟨b, 0, none⟩ = some (.slice (some ⟨g9, 0, none⟩) bn cap9) ∧ w'.cell? ⟨b, 1, none⟩ = some (.int .i64 V) ∧ w'.cell? ⟨b, 2, none⟩ = some (.slice (some ⟨g13, 0, none⟩) nu cap13) ∧ w'.heap[w.heap.size + 2]? = some (.cells (tcs h c2) 39 (0, 0))) (E := [3, 4]) (by kernel_rfl) (⟨q0, q1, q2, HId14.out.d⟩) (fun hHeld => ?_)
    refine wpT_take (i := 0) (oi := _) (v := ?_) rfl (by kernel_rfl) (by kernel_rfl) (by kernel_rfl) (by kernel_rfl) (fun _ _ _ h => h) (Or.inl ⟨by rfl, ?_⟩) (by assumption) ?_
    rotate_left; (intro wS hSw; (try dsimp only at hSw); go_simp <;> with_reducible rfl)
    try simp only [List.getElem_toArray, List.getElem_cons_zero, List.getElem_cons_succ, Act.put, List.setIfInBounds_toArray, List.set_cons_zero, List.set_cons_succ]
    refine wpT_take (i := 1) (oi := _) (v := (.agg (tcs h c2))) rfl (by kernel_rfl) (by kernel_rfl) (by kernel_rfl) (by kernel_rfl) (fun _ _ _ h => h) (Or.inl ⟨by rfl, yields_row 39 _ rfl (w.heap.size + 2) rfl _ _ _ _ (fun _ h => h.2.2.2) Tryz.underlying39 rfl (dr_info hl.out)⟩) (by assumption) ?_
    try simp only [List.getElem_toArray, List.getElem_cons_zero, List.getElem_cons_succ, Act.put, List.setIfInBounds_toArray, List.set_cons_zero, List.set_cons_succ]
    refine wpT_one (i := 2) (by kernel_rfl) rfl (fun K hK => ?_)
    rw [show (if Region.wanted _ _ = true then _ else _ : Prop) = _ from if_pos rfl]
    refine wp_store_row 29 _ _ rfl (w.heap.size + 3) #[.slice (some ⟨g9, 0, none⟩) bn cap9, .int .i64 V, .slice (some ⟨g13, 0, none⟩) nu cap13] rfl rfl 29 _ HId14.out.p infoP rfl (by simp [Value.oneCell']) ?_
    refine hK.out _ _ ?_ (fun hHeld => ?_)
    · exact ⟨(cell_setRow_other _ _ _ _ (by show b ≠ _; omega)).trans q0, (cell_setRow_other _ _ _ _ (by show b ≠ _; omega)).trans q1, (cell_setRow_other _ _ _ _ (by show b ≠ _; omega)).trans q2, (setRow_other _ _ _ _ (by omega)).trans HId14.out.d⟩
    clear hK K
    try simp only [List.getElem_toArray, List.getElem_cons_zero, List.getElem_cons_succ, Act.put, List.setIfInBounds_toArray, List.set_cons_zero, List.set_cons_succ]
    refine wpT_pass (i := 3) (by kernel_rfl) (by simp) rfl (fun K hK => ?_)
    rw [show (if Region.wanted _ _ = true then _ else _ : Prop) = _ from if_pos rfl]
    refine wp_store_row 39 _ _ rfl (w.heap.size + 4) (tcs h c2) rfl rfl 39 _ HE15.out (dr_info hl.out) (tcs_sz rfl hl.out) (tcs_one _ _) ?_
    refine hK.out _ _ ?_
    clear hK K
    try simp only [List.getElem_toArray, List.getElem_cons_zero, List.getElem_cons_succ, Act.put, List.setIfInBounds_toArray, List.set_cons_zero, List.set_cons_succ]
    refine wpT_pass (i := 4) (by kernel_rfl) (by simp) rfl (fun K hK => ?_)
    go_simp
    refine hK.out _ _ ?_
    clear hK K
    try simp only [List.getElem_toArray, List.getElem_cons_zero, List.getElem_cons_succ, Act.put, List.setIfInBounds_toArray, List.set_cons_zero, List.set_cons_succ]
    refine wpT_done (by kernel_rfl) ?_ _
    have HVV2 : Kp (chalV P Q G (bys s) ys rows (rows.map fun r => prodF P 1 r.xs ks) = V) := ⟨by rw [HAL.out]; exact HVV.1⟩
    have HAF2 := HAF.out
    rw [← HAL.out] at HAF2
    have HZE : Hid (rspL Q V ks xs (rowN rows) = zl) := Lib.hid (by rw [HN.out]; exact HZZ.out)
    have HAFH := Lib.hid HAF2
    clear HAF2
    go_wp2
    exact bodyPost_ret (v := PrvE (prvL (some ⟨g9, 0, none⟩) bn cap9 V (some ⟨g13, 0, none⟩) nu cap13) h c2 0) (results_cell2_tmp (p := 10) (q := 11) (r := 12) (ty := 29) (ty2 := 39) rfl _ _ ⟨w.heap.size + 3, 0, none⟩ ⟨w.heap.size + 4, 0, none⟩ _ _ _ rfl rfl rfl (run_loadVar_row _ _ _ _ _ _ _ HP15.out Tryz.underlying29 rfl infoP) (run_loadVar_row _ _ _ _ _ _ _ HD15.out Tryz.underlying39 rfl (dr_info hl.out))) rfl ⟨some ⟨g9, 0, none⟩, cap9, some ⟨g13, 0, none⟩, cap13, V, HVV2, by rw [HN.out], HAFH.out, by rw [HZE.out]; exact HZF.out, HBF.out⟩
  · skip
    go_simp
    refine (lunknowns_any Y yn yc B rows bn bc nu hbn hbp HN _ (Lib.hid (HBB.out.below HBBd.out))).mono ?_
    rintro e w6 ⟨rfl, hb6⟩
    have HI6 := Lib.hid (HId.out.below hb6)
    have HBB6 : Hid (Below W.heap.size W w6) := Lib.hid (below_ext HBBd.out hb6)
    clear hb6
    refine hK.out _ _ ?_ (fun hHeld => ?_)
    · exact ⟨HI6.out.g.1, HI6.out.g.2.1, HI6.out.g.2.2, HI6.out.r.1, HI6.out.r.2⟩
    clear hK K
    try simp only [List.getElem_toArray, List.getElem_cons_zero, List.getElem_cons_succ, Act.put, List.setIfInBounds_toArray, List.set_cons_zero, List.set_cons_succ]
    refine wpT_one (i := 0) (by kernel_rfl) rfl (fun K hK => ?_)
    rw [show (if Region.wanted _ _ = true then _ else _ : Prop) = _ from if_pos rfl]
    refine wp_load_row 39 _ rfl (w.heap.size + 2) rfl _ _ _ _ HI6.out.d Tryz.underlying39 rfl (dr_info hl.out) ?_
    refine hK.out _ _ ?_ (fun hHeld => ?_)
    · exact ⟨HI6.out.g.1, HI6.out.g.2.1, HI6.out.g.2.2, HI6.out.r.1, HI6.out.r.2⟩
    clear hK K
    try simp only [List.getElem_toArray, List.getElem_cons_zero, List.getElem_cons_succ, Act.put, List.setIfInBounds_toArray, List.set_cons_zero, List.set_cons_succ]
    refine wpT_one (i := 5) (by kernel_rfl) rfl (fun K hK => ?_)
    go_simp
    refine (dlist_any h hl hhb c hdr Q (by omega) (by omega) nu (by omega) _ (Lib.hid (HDV.out.below HBB6.out))).mono ?_
    intro e w7 hLO
    unfold LstOut at hLO
    rw [HST.out] at hLO
    rw [if_neg (by decide)] at hLO
    obtain ⟨v7, rfl, ho7, hb7⟩ := hLO
    have HI7 := Lib.hid (HI6.out.below hb7)
    have HBB7 : Hid (Below W.heap.size W w7) := Lib.hid (below_ext HBB6.out hb7)
    have HZ6 : Hid (w.heap.size + 5 ≤ w6.heap.size) := Lib.hid HI6.out.z
    rw [HKS.out] at ho7
    have HO7 := Lib.hid ho7
    rw [HC2.out]
    clear hb7 ho7
    refine hK.out _ _ ?_ (fun hHeld => ?_)
    · exact ⟨HI7.out.g.1, HI7.out.g.2.1, HI7.out.g.2.2, HI7.out.r.1, HI7.out.r.2⟩
    clear hK K
    try simp only [List.getElem_toArray, List.getElem_cons_zero, List.getElem_cons_succ, Act.put, List.setIfInBounds_toArray, List.set_cons_zero, List.set_cons_succ]
    refine wpT_one (i := 6) (by kernel_rfl) rfl (fun K hK => ?_)
    go_simp
    refine hK.out _ _ ?_ (fun hHeld => ?_)
    · exact ⟨HI7.out.g.1, HI7.out.g.2.1, HI7.out.g.2.2, HI7.out.r.1, HI7.out.r.2⟩
    clear hK K
    try simp only [List.getElem_toArray, List.getElem_cons_zero, List.getElem_cons_succ, Act.put, List.setIfInBounds_toArray, List.set_cons_zero, List.set_cons_succ]
    refine wpT_take (i := 7) (oi := _) (v := ?_) rfl (by kernel_rfl) (by kernel_rfl) (by kernel_rfl) (by kernel_rfl) (fun _ _ _ h => h) (Or.inl ⟨by rfl, ?_⟩) (by assumption) ?_
    rotate_left; (intro wS hSw; (try dsimp only at hSw); go_simp <;> with_reducible rfl)
    try simp only [List.getElem_toArray, List.getElem_cons_zero, List.getElem_cons_succ, Act.put, List.setIfInBounds_toArray, List.set_cons_zero, List.set_cons_succ]
    refine wpT_take (i := 8) (oi := _) (v := ?_) rfl (by kernel_rfl) (by kernel_rfl) (by kernel_rfl) (by kernel_rfl) (fun _ _ _ h => h) (Or.inl ⟨by rfl, ?_⟩) (by assumption) ?_
    rotate_left; (intro wS hSw; (try dsimp only at hSw); go_simp <;> with_reducible rfl)
    try simp only [List.getElem_toArray, List.getElem_cons_zero, List.getElem_cons_succ, Act.put, List.setIfInBounds_toArray, List.set_cons_zero, List.set_cons_succ]
    refine wpT_take (i := 9) (oi := _) (v := ?_) rfl (by kernel_rfl) (by kernel_rfl) (by kernel_rfl) (by kernel_rfl) (fun _ _ _ h => h) (Or.inl ⟨by rfl, ?_⟩) (by assumption) ?_
    rotate_left; (intro wS hSw; (try dsimp only at hSw); go_simp <;> with_reducible rfl)
    try simp only [List.getElem_toArray, List.getElem_cons_zero, List.getElem_cons_succ, Act.put, List.setIfInBounds_toArray, List.set_cons_zero, List.set_cons_succ]
    refine wpT_one (i := 10) (by kernel_rfl) rfl (fun K hK => ?_)
    rw [show (if Region.wanted _ _ = true then _ else _ : Prop) = _ from if_pos rfl]
    refine wp_store_row 39 _ _ rfl (w.heap.size + 2) (tcs h c2) rfl rfl 39 _ HI7.out.d (dr_info hl.out) (tcs_sz hl.out hl.out) (tcs_one _ _) ?_
    refine hK.out _ _ ?_ (fun hHeld => ?_)
    · exact ⟨(cell_setRow_other _ _ _ _ (by simp)).trans HI7.out.g.1, (cell_setRow_other _ _ _ _ (by simp)).trans HI7.out.g.2.1, (cell_setRow_other _ _ _ _ (by simp)).trans HI7.out.g.2.2, (cell_setRow_other _ _ _ _ (by simp)).trans HI7.out.r.1, (cell_setRow_other _ _ _ _ (by simp)).trans HI7.out.r.2⟩
    clear hK K
    try simp only [List.getElem_toArray, List.getElem_cons_zero, List.getElem_cons_succ, Act.put, List.setIfInBounds_toArray, List.set_cons_zero, List.set_cons_succ]
    refine wpT_one (i := 11) (by kernel_rfl) rfl (fun K hK => ?_)
    go_simp
    refine hK.out _ _ ?_ (fun hHeld => ?_)
    · exact ⟨(cell_setRow_other _ _ _ _ (by simp)).trans HI7.out.g.1, (cell_setRow_other _ _ _ _ (by simp)).trans HI7.out.g.2.1, (cell_setRow_other _ _ _ _ (by simp)).trans HI7.out.g.2.2, (cell_setRow_other _ _ _ _ (by simp)).trans HI7.out.r.1, (cell_setRow_other _ _ _ _ (by simp)).trans HI7.out.r.2⟩
    clear hK K
    try simp only [List.getElem_toArray, List.getElem_cons_zero, List.getElem_cons_succ, Act.put, List.setIfInBounds_toArray, List.set_cons_zero, List.set_cons_succ]
    refine wpT_one (i := 12) (by kernel_rfl) rfl (fun K hK => ?_)
    go_simp
    refine hK.out _ _ ?_ (fun hHeld => ?_)
    · exact ⟨(cell_setRow_other _ _ _ _ (by simp)).trans HI7.out.g.1, (cell_setRow_other _ _ _ _ (by simp)).trans HI7.out.g.2.1, (cell_setRow_other _ _ _ _ (by simp)).trans HI7.out.g.2.2, (cell_setRow_other _ _ _ _ (by simp)).trans HI7.out.r.1, (cell_setRow_other _ _ _ _ (by simp)).trans HI7.out.r.2⟩
    clear hK K
    try simp only [List.getElem_toArray, List.getElem_cons_zero, List.getElem_cons_succ, Act.put, List.setIfInBounds_toArray, List.set_cons_zero, List.set_cons_succ]
    refine wpT_done (by kernel_rfl) ?_ _
    have HI8 : Hid (PvI w P Q G Y yn yc B bn bc h c2 (w7.setRow (w.heap.size + 2) (tcs h c2))) := Lib.hid (HI7.out.draw (h' := h) (c' := c2))
    have HKL : Hid (ks.length = nu) := Lib.hid (by rw [← HKS.out]; exact lstD_len _ _ _ _)
    have HKC : Hid (ks.all (scB Q) = true) := Lib.hid (by rw [← HKS.out]; exact lstD_sc (by omega) _)
    have HO8 : Hid (OwnL (w7.setRow (w.heap.size + 2) (tcs h c2)) w6.heap.size v7 ks) := Lib.hid (World.ownsRow.kept HO7.out (grown_setRow _ _ _) (Or.inr (fun e => by have := (World.ownsRow.lt HO7.out _ e).1; have := HZ6.out; omega)))
    obtain ⟨W8, hW8⟩ : ∃ u, w7.setRow (w.heap.size + 2) (tcs h c2) = u := ⟨_, rfl⟩
    rw [hW8] at HI8 HO8 ⊢
    obtain ⟨g7, cap7, hv7, hg7, hc7⟩ := OwnL.cells HO8.out (by rw [HKL.out]; omega)
    rw [HKL.out] at hv7
    subst hv7
    have HK8 : Hid (Sl W8 (some ⟨g7, 0, none⟩) ks) := Lib.hid (sl_of_cells hc7)
    have HG7 : Hid (g7 < W8.heap.size) := Lib.hid (World.block_lt_of_cell? _ _ (hc7 0 (by rw [HKL.out]; omega)))
    clear hW8 HI7 HBB7 HO7 HO8 hg7 hc7 HI6 HBB6
    obtain ⟨g0, g1, g2⟩ := HI8.out.g
    obtain ⟨r0, r1⟩ := HI8.out.r
    go_wp2_with fail
    refine (lproducts_any P Q G B rows bn bc (some ⟨g7, 0, none⟩) ks nu cap7 hbn HKL (by omega) (by omega) HRB HKC hp2 hp hQ _ (Lib.hid (hB.out.below HI8.out.b)) HK8).mono ?_
    intro e w9 hL9
    obtain ⟨v9, rfl, ho9, hb9⟩ := hL9
    obtain ⟨al, hal⟩ : ∃ al, (rows.map fun r => prodF P 1 r.xs ks) = al := ⟨_, rfl⟩
    have HALL : Hid (al.length = bn) := Lib.hid (by rw [← hal, List.length_map]; exact hbn.out)
    have HAOK : Hid (okL al) := Lib.hid (by
      refine ⟨by rw [HALL.out]; omega, fun x hx => ?_⟩
      rw [← hal] at hx
      obtain ⟨r, _, rfl⟩ := List.mem_map.1 hx
      have := prodF_in hp2 r.xs ks 1 (by omega) (by omega)
      omega)
    rw [hal] at ho9
    obtain ⟨g9, cap9, hv9, hg9, hc9⟩ := OwnL.cells ho9 (by rw [HALL.out]; exact hbp)
    rw [HALL.out] at hv9
    subst hv9
    have HAL := Lib.hid hal
    have HA9 : Hid (Sl w9 (some ⟨g9, 0, none⟩) al) := Lib.hid (sl_of_cells hc9)
    have HG9 : Hid (g9 < w9.heap.size) := Lib.hid (World.block_lt_of_cell? _ _ (hc9 0 (by rw [HALL.out]; exact hbp)))
    have HI9 := Lib.hid (HI8.out.below hb9)
    have HK9 := Lib.hid (HK8.out.below hb9)
    have HG79 : Hid (g7 < w9.heap.size) := Lib.hid (Nat.lt_of_lt_of_le HG7.out hb9.size)
    have HG9g : Hid (w.heap.size + 5 ≤ g9) := Lib.hid (by have := HI8.out.z; omega)
    clear hal ho9 hg9 hc9 hb9 g0 g1 g2 r0 r1 HI8 HK8 HG7
    go_upto_region 14 with (fail)
    have HQ10 : Hid (QBlk (w9.alloc (.cells #[.slice (some ⟨g9, 0, none⟩) bn cap9, .int .i64 0, .slice none 0 0] 29)) w9.heap.size (.slice (some ⟨g9, 0, none⟩) bn cap9) (.int .i64 0) (.slice none 0 0)) := Lib.hid (heap_alloc_new _ _)
    have HI10 := Lib.hid (HI9.out.below (below_box0 w9 (.cells #[.slice (some ⟨g9, 0, none⟩) bn cap9, .int .i64 0, .slice none 0 0] 29)))
    have HK10 := Lib.hid (HK9.out.below (below_box0 w9 (.cells #[.slice (some ⟨g9, 0, none⟩) bn cap9, .int .i64 0, .slice none 0 0] 29)))
    have HA10 := Lib.hid (HA9.out.below (below_box0 w9 (.cells #[.slice (some ⟨g9, 0, none⟩) bn cap9, .int .i64 0, .slice none 0 0] 29)))
    have HZb : Hid (w.heap.size + 5 ≤ w9.heap.size) := Lib.hid HI9.out.z
    obtain ⟨W10, hW10⟩ : ∃ u, w9.alloc (.cells #[.slice (some ⟨g9, 0, none⟩) bn cap9, .int .i64 0, .slice none 0 0] 29) = u := ⟨_, rfl⟩
    rw [hW10] at HQ10 HI10 HK10 HA10 ⊢
    obtain ⟨b, hbb⟩ : ∃ b, w9.heap.size = b := ⟨_, rfl⟩
    rw [hbb] at HQ10 HZb HG9 HG79 ⊢
    clear hW10 hbb HI9 HK9 HA9
    obtain ⟨g0, g1, g2⟩ := HI10.out.g
    obtain ⟨r0, r1⟩ := HI10.out.r
    obtain ⟨⟨p0, p1, p2⟩, -⟩ := HQ10.out.cells
    obtain ⟨okg, oky, okr⟩ := valid_ok HVR.out hB.out
    have HOKG := Lib.hid okg
    have HOKY := Lib.hid oky
    have HOKR := Lib.hid okr
    obtain ⟨V, hV⟩ : ∃ V, chalV P Q G (bys s) ys rows al = V := ⟨_, rfl⟩
    have hVlo : 0 ≤ V ∧ V < Q := by rw [← hV]; exact chalV_lo (by omega) _ _ _ _
    obtain ⟨hV0, hV1⟩ := hVlo
    have HVV : Kp (chalV P Q G (bys s) ys rows al = V) := ⟨hV⟩
    clear hV okg oky okr
    go_wp2_with fail
    refine (lchal_ok P Q G Y ys yn yc B rows bn bc (some ⟨g9, 0, none⟩) al bn cap9 s hs hr hyn hbn HALL (by omega) HOKG HOKY HAOK HOKR (by omega) (by omega) V HVV _ (Lib.hid (hd.out.below HI10.out.b)) (Lib.hid (hY.out.below HI10.out.b)) (Lib.hid (hB.out.below HI10.out.b)) HA10).mono ?_
    rintro e w11 ⟨rfl, hb11⟩
    have HI11 := Lib.hid (HI10.out.below hb11)
    have HQ11 := Lib.hid (HQ10.out.below hb11)
    have HK11 := Lib.hid (HK10.out.below hb11)
    have HA11 := Lib.hid (HA10.out.below hb11)
    clear hb11 g0 g1 g2 r0 r1 p0 p1 p2 HI10 HQ10 HK10 HA10
    obtain ⟨⟨p0, p1, p2⟩, pf0, pf1, pf2⟩ := HQ11.out.cells
    go_upto_region 15 with (fail)
    clear p0 p1 p2 pf0 pf1 pf2
    have HQ12 : Hid (QBlk (w11.setCell ⟨b, 1, none⟩ (.int .i64 V)) b (.slice (some ⟨g9, 0, none⟩) bn cap9) (.int .i64 V) (.slice none 0 0)) := Lib.hid HQ11.out.set1
    have HI12 := Lib.hid (HI11.out.belowB (((Below.refl _ _).setCell HZb.out _) : Below (w.heap.size + 5) w11 (w11.setCell ⟨b, 1, none⟩ (.int .i64 V))))
    have HK12 : Hid (Sl (w11.setCell ⟨b, 1, none⟩ (.int .i64 V)) (some ⟨g7, 0, none⟩) ks) := Lib.hid (sl_set HK11.out (by have := HG79.out; omega))
    have HA12 : Hid (Sl (w11.setCell ⟨b, 1, none⟩ (.int .i64 V)) (some ⟨g9, 0, none⟩) al) := Lib.hid (sl_set HA11.out (by have := HG9.out; omega))
    obtain ⟨W12, hW12⟩ : ∃ u, w11.setCell ⟨b, 1, none⟩ (.int .i64 V) = u := ⟨_, rfl⟩
    rw [hW12] at HQ12 HI12 HK12 HA12 ⊢
    clear hW12 HI11 HQ11 HK11 HA11
    obtain ⟨g0, g1, g2⟩ := HI12.out.g
    obtain ⟨⟨p0, p1, p2⟩, -⟩ := HQ12.out.cells
    have hxe : xn = nu := by rw [← hxn.out, HXN.out]
    go_wp2_with fail
    rw [hxe]
    refine (lrespond_ok P Q G (some ⟨g7, 0, none⟩) ks nu cap7 V X xs xc HVG HKL HXN hn1 hn12 HKC HXC hV0 hV1 hQ _ (Lib.hid (hv.out.below HI12.out.b)) HK12 (Lib.hid (hX.out.below HI12.out.b))).mono ?_
    intro e w13 hL13
    obtain ⟨v13, rfl, ho13, hb13⟩ := hL13
    obtain ⟨zl, hzl⟩ : ∃ zl, rspL Q V ks xs nu = zl := ⟨_, rfl⟩
    have HZL : Hid (zl.length = nu) := Lib.hid (by rw [← hzl]; exact rspL_length _ _ _ _ _)
    rw [hzl] at ho13
    obtain ⟨g13, cap13, hv13, hg13, hc13⟩ := OwnL.cells ho13 (by rw [HZL.out]; omega)
    rw [HZL.out] at hv13
    subst hv13
    have HZZ := Lib.hid hzl
    have HS13 : Hid (Sl w13 (some ⟨g13, 0, none⟩) zl) := Lib.hid (sl_of_cells hc13)
    have HG13 : Hid (b < g13) := Lib.hid (by have := HQ12.out.lt; omega)
    have HI13 := Lib.hid (HI12.out.below hb13)
    have HQ13 := Lib.hid (HQ12.out.below hb13)
    have HA13 := Lib.hid (HA12.out.below hb13)
    clear hzl ho13 hg13 hc13 hb13 g0 g1 g2 p0 p1 p2 HI12 HQ12 HK12 HA12 hxe
    obtain ⟨⟨p0, p1, p2⟩, pf0, pf1, pf2⟩ := HQ13.out.cells
    go_upto_region 18 with (fail)
    clear p0 p1 p2 pf0 pf1 pf2
    have HQ14 : Hid (QBlk (w13.setCell ⟨b, 2, none⟩ (.slice (some ⟨g13, 0, none⟩) nu cap13)) b (.slice (some ⟨g9, 0, none⟩) bn cap9) (.int .i64 V) (.slice (some ⟨g13, 0, none⟩) nu cap13)) := Lib.hid HQ13.out.set2
    have HI14 := Lib.hid (HI13.out.belowB (((Below.refl _ _).setCell HZb.out _) : Below (w.heap.size + 5) w13 (w13.setCell ⟨b, 2, none⟩ (.slice (some ⟨g13, 0, none⟩) nu cap13))))
    have HS14 : Hid (Sl (w13.setCell ⟨b, 2, none⟩ (.slice (some ⟨g13, 0, none⟩) nu cap13)) (some ⟨g13, 0, none⟩) zl) := Lib.hid (sl_set HS13.out (by have := HG13.out; omega))
    have HA14 : Hid (Sl (w13.setCell ⟨b, 2, none⟩ (.slice (some ⟨g13, 0, none⟩) nu cap13)) (some ⟨g9, 0, none⟩) al) := Lib.hid (sl_set HA13.out (by have := HG9.out; omega))
    obtain ⟨W14, hW14⟩ : ∃ u, w13.setCell ⟨b, 2, none⟩ (.slice (some ⟨g13, 0, none⟩) nu cap13) = u := ⟨_, rfl⟩
    rw [hW14] at HQ14 HI14 HS14 HA14 ⊢
    clear hW14 HI13 HQ13 HS13 HA13
    go_wp2_with fail
    have HId14 := Lib.hid (HI14.out.below (Below.refl _ _).drew)
    have HQd14 := Lib.hid (HQ14.out.below (Below.refl _ _).drew)
    obtain ⟨⟨q0, q1, q2⟩, -⟩ := HQd14.out.cells
    have HE15 : Hid (DBlk (W14.drew.setRow (w.heap.size + 3) #[.slice (some ⟨g9, 0, none⟩) bn cap9, .int .i64 V, .slice (some ⟨g13, 0, none⟩) nu cap13]) (w.heap.size + 4) (zer 32) 0) := Lib.hid ((setRow_other _ _ _ _ (by omega)).trans HId14.out.e)
    have HP15 : Hid (QBlk ((W14.drew.setRow (w.heap.size + 3) #[.slice (some ⟨g9, 0, none⟩) bn cap9, .int .i64 V, .slice (some ⟨g13, 0, none⟩) nu cap13]).setRow (w.heap.size + 4) (tcs h c2)) (w.heap.size + 3) (.slice (some ⟨g9, 0, none⟩) bn cap9) (.int .i64 V) (.slice (some ⟨g13, 0, none⟩) nu cap13)) := Lib.hid ((setRow_other _ _ _ _ (by omega)).trans HId14.out.p.setRow)
    have HD15 : Hid (DBlk ((W14.drew.setRow (w.heap.size + 3) #[.slice (some ⟨g9, 0, none⟩) bn cap9, .int .i64 V, .slice (some ⟨g13, 0, none⟩) nu cap13]).setRow (w.heap.size + 4) (tcs h c2)) (w.heap.size + 4) h c2) := Lib.hid HE15.out.setRow
    have HBF : Hid (Below w.heap.size w ((W14.drew.setRow (w.heap.size + 3) #[.slice (some ⟨g9, 0, none⟩) bn cap9, .int .i64 V, .slice (some ⟨g13, 0, none⟩) nu cap13]).setRow (w.heap.size + 4) (tcs h c2))) := Lib.hid (below_setRow' (below_setRow' HId14.out.b (by omega)) (by omega))
    have hzz := HZb.out
    have hgg := HG9.out
    have hgh := HG13.out
    have HAF : Hid (Sl ((W14.drew.setRow (w.heap.size + 3) #[.slice (some ⟨g9, 0, none⟩) bn cap9, .int .i64 V, .slice (some ⟨g13, 0, none⟩) nu cap13]).setRow (w.heap.size + 4) (tcs h c2)) (some ⟨g9, 0, none⟩) al) := Lib.hid (sl_far HA14.out (by have := HG9g.out; exact (setRow_other _ _ _ _ (by omega)).trans (setRow_other _ _ _ _ (by omega))))
    have HZF : Hid (Sl ((W14.drew.setRow (w.heap.size + 3) #[.slice (some ⟨g9, 0, none⟩) bn cap9, .int .i64 V, .slice (some ⟨g13, 0, none⟩) nu cap13]).setRow (w.heap.size + 4) (tcs h c2)) (some ⟨g13, 0, none⟩) zl) := Lib.hid (sl_far HS14.out ((setRow_other _ _ _ _ (by omega)).trans (setRow_other _ _ _ _ (by omega))))
    refine wp_region_T (S := fun w' => w'.cell? ⟨b, 0, none⟩ = some (.slice (some ⟨g9, 0, none⟩) bn cap9) ∧ w'.cell? ⟨b, 1, none⟩ = some (.int .i64 V) ∧ w'.cell? ⟨b, 2, none⟩ = some (.slice (some ⟨g13, 0, none⟩) nu cap13) ∧ w'.heap[w.heap.size + 2]? = some (.cells (tcs h c2) 39 (0, 0))) (E := [3, 4]) (by kernel_rfl) (⟨q0, q1, q2, HId14.out.d⟩) (fun hHeld => ?_)
    refine wpT_take (i := 0) (oi := _) (v := ?_) rfl (by kernel_rfl) (by kernel_rfl) (by kernel_rfl) (by kernel_rfl) (fun _ _ _ h => h) (Or.inl ⟨by rfl, ?_⟩) (by assumption) ?_
    rotate_left; (intro wS hSw; (try dsimp only at hSw); go_simp <;> with_reducible rfl)
    try simp only [List.getElem_toArray, List.getElem_cons_zero, List.getElem_cons_succ, Act.put, List.setIfInBounds_toArray, List.set_cons_zero, List.set_cons_succ]
    refine wpT_take (i := 1) (oi := _) (v := (.agg (tcs h c2))) rfl (by kernel_rfl) (by kernel_rfl) (by kernel_rfl) (by kernel_rfl) (fun _ _ _ h => h) (Or.inl ⟨by rfl, yields_row 39 _ rfl (w.heap.size + 2) rfl _ _ _ _ (fun _ h => h.2.2.2) Tryz.underlying39 rfl (dr_info hl.out)⟩) (by assumption) ?_
    try simp only [List.getElem_toArray, List.getElem_cons_zero, List.getElem_cons_succ, Act.put, List.setIfInBounds_toArray, List.set_cons_zero, List.set_cons_succ]
    refine wpT_one (i := 2) (by kernel_rfl) rfl (fun K hK => ?_)
    rw [show (if Region.wanted _ _ = true then _ else _ : Prop) = _ from if_pos rfl]
    refine wp_store_row 29 _ _ rfl (w.heap.size + 3) #[.slice (some ⟨g9, 0, none⟩) bn cap9, .int .i64 V, .slice (some ⟨g13, 0, none⟩) nu cap13] rfl rfl 29 _ HId14.out.p infoP rfl (by simp [Value.oneCell']) ?_
    refine hK.out _ _ ?_ (fun hHeld => ?_)
    · exact ⟨(cell_setRow_other _ _ _ _ (by show b ≠ _; omega)).trans q0, (cell_setRow_other _ _ _ _ (by show b ≠ _; omega)).trans q1, (cell_setRow_other _ _ _ _ (by show b ≠ _; omega)).trans q2, (setRow_other _ _ _ _ (by omega)).trans HId14.out.d⟩
    clear hK K
    try simp only [List.getElem_toArray, List.getElem_cons_zero, List.getElem_cons_succ, Act.put, List.setIfInBounds_toArray, List.set_cons_zero, List.set_cons_succ]
    refine wpT_pass (i := 3) (by kernel_rfl) (by simp) rfl (fun K hK => ?_)
    rw [show (if Region.wanted _ _ = true then _ else _ : Prop) = _ from if_pos rfl]
    refine wp_store_row 39 _ _ rfl (w.heap.size + 4) (tcs h c2) rfl rfl 39 _ HE15.out (dr_info hl.out) (tcs_sz rfl hl.out) (tcs_one _ _) ?_
    refine hK.out _ _ ?_
    clear hK K
    try simp only [List.getElem_toArray, List.getElem_cons_zero, List.getElem_cons_succ, Act.put, List.setIfInBounds_toArray, List.set_cons_zero, List.set_cons_succ]
    refine wpT_pass (i := 4) (by kernel_rfl) (by simp) rfl (fun K hK => ?_)
    go_simp
    refine hK.out _ _ ?_
    clear hK K
    try simp only [List.getElem_toArray, List.getElem_cons_zero, List.getElem_cons_succ, Act.put, List.setIfInBounds_toArray, List.set_cons_zero, List.set_cons_succ]
    refine wpT_done (by kernel_rfl) ?_ _
    have HVV2 : Kp (chalV P Q G (bys s) ys rows (rows.map fun r => prodF P 1 r.xs ks) = V) := ⟨by rw [HAL.out]; exact HVV.1⟩
    have HAF2 := HAF.out
    rw [← HAL.out] at HAF2
    have HZE : Hid (rspL Q V ks xs (rowN rows) = zl) := Lib.hid (by rw [HN.out]; exact HZZ.out)
    have HAFH := Lib.hid HAF2
    clear HAF2
    go_wp2
    exact bodyPost_ret (v := PrvE (prvL (some ⟨g9, 0, none⟩) bn cap9 V (some ⟨g13, 0, none⟩) nu cap13) h c2 0) (results_cell2_tmp (p := 10) (q := 11) (r := 12) (ty := 29) (ty2 := 39) rfl _ _ ⟨w.heap.size + 3, 0, none⟩ ⟨w.heap.size + 4, 0, none⟩ _ _ _ rfl rfl rfl (run_loadVar_row _ _ _ _ _ _ _ HP15.out Tryz.underlying29 rfl infoP) (run_loadVar_row _ _ _ _ _ _ _ HD15.out Tryz.underlying39 rfl (dr_info hl.out))) rfl ⟨some ⟨g9, 0, none⟩, cap9, some ⟨g13, 0, none⟩, cap13, V, HVV2, by rw [HN.out], HAFH.out, by rw [HZE.out]; exact HZF.out, HBF.out⟩
end Go.Proofs.YtcmidgdhihmppaaGreatDoor
namespace Go.Proofs.YtcmidgdhihmppaaGreatDoor
open Go.RowKit SpM
set_option linter.unusedVariables false
set_option linter.unusedSimpArgs false
set_option maxRecDepth 100000
theorem chkR_ok' {P Q G : Int} {ys : List Int} {rows : List Row} {ls os : List Int} (h1 : validR P Q G ys rows = true) (h2 : ls.length = rowN rows) (h3 : ls.all (scB Q) = true) (h4 : os.all (scB Q) = true) : chkR P Q G ys rows ls os = 0 := by
  unfold chkR
  rw [if_pos h1, if_pos h2, if_pos h3, if_pos h4]
theorem rspL_all' {Q n : Int} {ks xs : List Int} {m : Nat} (hQ : 1 ≤ Q) : (rspL Q n ks xs m).all (scB Q) = true := by
  rw [List.all_eq_true]
  intro x hx
  obtain ⟨i, _, rfl⟩ := List.mem_map.1 hx
  have h0 := Int.emod_nonneg (ks.getD i 0 + n * xs.getD i 0 % Q) (show Q ≠ 0 by omega)
  have h1 := Int.emod_lt_of_pos (ks.getD i 0 + n * xs.getD i 0 % Q) (show 0 < Q by omega)
  simp only [scB, Bool.and_eq_true, decide_eq_true_eq]
  exact ⟨h0, h1⟩
/-- an honest proof is accepted. -/
theorem honest {P Q G n : Int} {ys : List Int} {rows : List Row} {ks xs : List Int} {m : Nat} (hh : holdsB P Q G ys rows xs = true) (hn0 : 0 ≤ n) (hn1 : n < Q) (hm : rowN rows = m) (lk : ks.length = m) (hk : ks.all (scB Q) = true) (hok : ∀ i, i < rows.length → (rows.getD i noRow).xs.length = (rows.getD i noRow).n) :
    chkL P Q G n ys rows (rows.map fun r => prodF P 1 r.xs ks) (rspL Q n ks xs m) = true := by
  obtain ⟨m1, m2, m3, m4⟩ := holdsB_parts' hh
  obtain ⟨hp2, hp, hq3, hqp⟩ := validG_P (validR_parts m1).1
  have hz := zero_sim m1 hm hn0 hn1 lk (m2.trans hm) hk m3 m4 hok
  have hs : scB Q n = true := by simp [scB]; exact ⟨hn0, hn1⟩
  simp only [chkL, checkB, Bool.and_eq_true, decide_eq_true_eq]
  refine ⟨m1, by rw [List.length_map], by rw [rspL_length, hm], hs, rspL_all' (by omega), ?_⟩
  rw [hz]; simp
set_option maxHeartbeats 25600000 in
theorem lm_few (P Q G : Int) (Y : Option Addr) (ys : List Int) (yn yc : Nat) (B : Option Addr) (rows : List Row) (bn bc : Nat) (X : Option Addr) (xs : List Int) (xn xc : Nat) (K : Option Addr) (ks : List Int) (kn kc : Nat) (c : Int) (s o : ByteArray) (h : List Int) (dc : Int) (hyn : Hid (ys.length = yn)) (hbn : Hid (rows.length = bn)) (hxn : Hid (xs.length = xn)) (hkn : Hid (ks.length = kn)) (hl : Hid (h.length = 32)) (hhb : Hid (bytesB h = true)) (hQ : Q < 9223372036854775808) (hf : Hid (fewB yn bn rows = false)) (w : World) (hv : Hid (Vars w)) (hd : Hid (VarsD w)) (hY : Hid (Sl w Y ys)) (hB : Hid (Rw w B rows)) (hX : Hid (Sl w X xs)) (hK : Hid (Sl w K ks)) :
    Calls Tryz.prog 4 #[gv P Q G, relV Y yn yc B bn bc, .slice X xn xc, .slice K kn kc, .int .u32 c, .string s, .string o, .agg (tcs h dc)] w fun e' w' => e' = .returned (.bool true) ∧ Below w.heap.size w w' := by
  obtain ⟨w0, hW⟩ : ∃ W, (((w.alloc (gObj P Q G)).alloc (relO Y yn yc B bn bc)).alloc (.cells (tcs h dc) 39)) = W := ⟨_, rfl⟩
  have HBw : Hid (Below w.heap.size w w0) := Lib.hid (by rw [← hW]; exact (((Below.refl _ _).alloc (Nat.le_refl _) _).alloc (by simp) _).alloc (by simp; omega) _)
  have hc : w0.cell? ⟨w.heap.size, 0, none⟩ = some (.int .i64 P) ∧ w0.cell? ⟨w.heap.size, 1, none⟩ = some (.int .i64 Q) ∧ w0.cell? ⟨w.heap.size, 2, none⟩ = some (.int .i64 G) ∧ w0.cell? ⟨w.heap.size + 1, 0, none⟩ = some (.slice Y yn yc) ∧ w0.cell? ⟨w.heap.size + 1, 1, none⟩ = some (.slice B bn bc) := by rw [← hW]; exact ⟨cell_below (cell_below (allocs_cell (by simp) (by rfl)) (below_box0 _ _)) (below_box0 _ _), cell_below (cell_below (allocs_cell (by simp) (by rfl)) (below_box0 _ _)) (below_box0 _ _), cell_below (cell_below (allocs_cell (by simp) (by rfl)) (below_box0 _ _)) (below_box0 _ _), cell_below (allocs_cell (by simp) (by rfl)) (below_box0 _ _), cell_below (allocs_cell (by simp) (by rfl)) (below_box0 _ _)⟩
  have kC := Lib.hid (show ∀ u : World, Hid (Below w0.heap.size w0 u) → u.cell? ⟨w.heap.size, 0, none⟩ = some (.int .i64 P) ∧ u.cell? ⟨w.heap.size, 1, none⟩ = some (.int .i64 Q) ∧ u.cell? ⟨w.heap.size, 2, none⟩ = some (.int .i64 G) ∧ u.cell? ⟨w.heap.size + 1, 0, none⟩ = some (.slice Y yn yc) ∧ u.cell? ⟨w.heap.size + 1, 1, none⟩ = some (.slice B bn bc) from fun u h => ⟨cell_below hc.1 h.out, cell_below hc.2.1 h.out, cell_below hc.2.2.1 h.out, cell_below hc.2.2.2.1 h.out, cell_below hc.2.2.2.2 h.out⟩)
  have kV := Lib.hid (show ∀ u : World, Hid (Below w0.heap.size w0 u) → Hid (Vars u) from fun u h => Lib.hid ((hv.out.below) (below_ext HBw.out h.out)))
  have kD := Lib.hid (show ∀ u : World, Hid (Below w0.heap.size w0 u) → Hid (VarsD u) from fun u h => Lib.hid ((hd.out.below) (below_ext HBw.out h.out)))
  have kY := Lib.hid (show ∀ u : World, Hid (Below w0.heap.size w0 u) → Hid (Sl u Y ys) from fun u h => Lib.hid ((hY.out.below) (below_ext HBw.out h.out)))
  have kB := Lib.hid (show ∀ u : World, Hid (Below w0.heap.size w0 u) → Hid (Rw u B rows) from fun u h => Lib.hid ((hB.out.below) (below_ext HBw.out h.out)))
  have kX := Lib.hid (show ∀ u : World, Hid (Below w0.heap.size w0 u) → Hid (Sl u X xs) from fun u h => Lib.hid ((hX.out.below) (below_ext HBw.out h.out)))
  have kK := Lib.hid (show ∀ u : World, Hid (Below w0.heap.size w0 u) → Hid (Sl u K ks) from fun u h => Lib.hid ((hK.out.below) (below_ext HBw.out h.out)))
  have HB_0 : Hid (Below w0.heap.size w0 w0) := Lib.hid (Below.refl _ _)
  have HW := Lib.hid hW
  clear hW hc hv hd hY hB hX hK
  have HT0 : Hid (DBlk w0 (w.heap.size + 2) h dc) := Lib.hid (by rw [← HW.out, show w.heap.size + 2 = ((w.alloc (gObj P Q G)).alloc (relO Y yn yc B bn bc)).heap.size by simp]; exact heap_alloc_new _ _)
  have kT := Lib.hid (show ∀ u : World, Hid (Below w0.heap.size w0 u) → Hid (DBlk u (w.heap.size + 2) h dc) from fun u hh => Lib.hid (HT0.out.below hh.out))
  go_enter Tryz.func4, Tryz.ntmps4
  go_upto_region 1 with (fail)
  rw [HW.out]
  obtain ⟨zc0, zc1, zc2, zc3, zc4⟩ := kC.out _ HB_0
  go_wp2_with fail
  refine (awake17 _ (kV.out _ HB_0)).mono ?_
  rintro e w1 ⟨rfl, hb0⟩
  have HB_1 := Lib.hid (below_ext HB_0.out hb0)
  clear zc0 zc1 zc2 zc3 zc4
  clear hb0
  obtain ⟨zc0, zc1, zc2, zc3, zc4⟩ := kC.out _ HB_1
  go_wp2_with fail
  refine (few_any Y yn yc B rows bn bc false hf hbn _ (kB.out _ HB_1)).mono ?_
  rintro e w2 ⟨rfl, hb0⟩
  have HB_2 := Lib.hid (below_ext HB_1.out hb0)
  clear zc0 zc1 zc2 zc3 zc4
  clear hb0
  obtain ⟨zc0, zc1, zc2, zc3, zc4⟩ := kC.out _ HB_2
  have hbF := below_ext HBw.out HB_2.out
  go_wp2
  go_ret
  exact ⟨rfl, hbF⟩
set_option maxHeartbeats 25600000 in
theorem lm_x (P Q G : Int) (Y : Option Addr) (ys : List Int) (yn yc : Nat) (B : Option Addr) (rows : List Row) (bn bc : Nat) (X : Option Addr) (xs : List Int) (xn xc : Nat) (K : Option Addr) (ks : List Int) (kn kc : Nat) (c : Int) (s o : ByteArray) (h : List Int) (dc : Int) (hyn : Hid (ys.length = yn)) (hbn : Hid (rows.length = bn)) (hxn : Hid (xs.length = xn)) (hkn : Hid (ks.length = kn)) (hl : Hid (h.length = 32)) (hhb : Hid (bytesB h = true)) (hQ : Q < 9223372036854775808) (hf : Hid (fewB yn bn rows = true)) (h1 : 30 < xn) (w : World) (hv : Hid (Vars w)) (hd : Hid (VarsD w)) (hY : Hid (Sl w Y ys)) (hB : Hid (Rw w B rows)) (hX : Hid (Sl w X xs)) (hK : Hid (Sl w K ks)) :
    Calls Tryz.prog 4 #[gv P Q G, relV Y yn yc B bn bc, .slice X xn xc, .slice K kn kc, .int .u32 c, .string s, .string o, .agg (tcs h dc)] w fun e' w' => e' = .returned (.bool true) ∧ Below w.heap.size w w' := by
  have d1 : decide ((30 : Int) < (xn : Int)) = true := by simp; omega
  obtain ⟨w0, hW⟩ : ∃ W, (((w.alloc (gObj P Q G)).alloc (relO Y yn yc B bn bc)).alloc (.cells (tcs h dc) 39)) = W := ⟨_, rfl⟩
  have HBw : Hid (Below w.heap.size w w0) := Lib.hid (by rw [← hW]; exact (((Below.refl _ _).alloc (Nat.le_refl _) _).alloc (by simp) _).alloc (by simp; omega) _)
  have hc : w0.cell? ⟨w.heap.size, 0, none⟩ = some (.int .i64 P) ∧ w0.cell? ⟨w.heap.size, 1, none⟩ = some (.int .i64 Q) ∧ w0.cell? ⟨w.heap.size, 2, none⟩ = some (.int .i64 G) ∧ w0.cell? ⟨w.heap.size + 1, 0, none⟩ = some (.slice Y yn yc) ∧ w0.cell? ⟨w.heap.size + 1, 1, none⟩ = some (.slice B bn bc) := by rw [← hW]; exact ⟨cell_below (cell_below (allocs_cell (by simp) (by rfl)) (below_box0 _ _)) (below_box0 _ _), cell_below (cell_below (allocs_cell (by simp) (by rfl)) (below_box0 _ _)) (below_box0 _ _), cell_below (cell_below (allocs_cell (by simp) (by rfl)) (below_box0 _ _)) (below_box0 _ _), cell_below (allocs_cell (by simp) (by rfl)) (below_box0 _ _), cell_below (allocs_cell (by simp) (by rfl)) (below_box0 _ _)⟩
  have kC := Lib.hid (show ∀ u : World, Hid (Below w0.heap.size w0 u) → u.cell? ⟨w.heap.size, 0, none⟩ = some (.int .i64 P) ∧ u.cell? ⟨w.heap.size, 1, none⟩ = some (.int .i64 Q) ∧ u.cell? ⟨w.heap.size, 2, none⟩ = some (.int .i64 G) ∧ u.cell? ⟨w.heap.size + 1, 0, none⟩ = some (.slice Y yn yc) ∧ u.cell? ⟨w.heap.size + 1, 1, none⟩ = some (.slice B bn bc) from fun u h => ⟨cell_below hc.1 h.out, cell_below hc.2.1 h.out, cell_below hc.2.2.1 h.out, cell_below hc.2.2.2.1 h.out, cell_below hc.2.2.2.2 h.out⟩)
  have kV := Lib.hid (show ∀ u : World, Hid (Below w0.heap.size w0 u) → Hid (Vars u) from fun u h => Lib.hid ((hv.out.below) (below_ext HBw.out h.out)))
  have kD := Lib.hid (show ∀ u : World, Hid (Below w0.heap.size w0 u) → Hid (VarsD u) from fun u h => Lib.hid ((hd.out.below) (below_ext HBw.out h.out)))
  have kY := Lib.hid (show ∀ u : World, Hid (Below w0.heap.size w0 u) → Hid (Sl u Y ys) from fun u h => Lib.hid ((hY.out.below) (below_ext HBw.out h.out)))
  have kB := Lib.hid (show ∀ u : World, Hid (Below w0.heap.size w0 u) → Hid (Rw u B rows) from fun u h => Lib.hid ((hB.out.below) (below_ext HBw.out h.out)))
  have kX := Lib.hid (show ∀ u : World, Hid (Below w0.heap.size w0 u) → Hid (Sl u X xs) from fun u h => Lib.hid ((hX.out.below) (below_ext HBw.out h.out)))
  have kK := Lib.hid (show ∀ u : World, Hid (Below w0.heap.size w0 u) → Hid (Sl u K ks) from fun u h => Lib.hid ((hK.out.below) (below_ext HBw.out h.out)))
  have HB_0 : Hid (Below w0.heap.size w0 w0) := Lib.hid (Below.refl _ _)
  have HW := Lib.hid hW
  clear hW hc hv hd hY hB hX hK
  have HT0 : Hid (DBlk w0 (w.heap.size + 2) h dc) := Lib.hid (by rw [← HW.out, show w.heap.size + 2 = ((w.alloc (gObj P Q G)).alloc (relO Y yn yc B bn bc)).heap.size by simp]; exact heap_alloc_new _ _)
  have kT := Lib.hid (show ∀ u : World, Hid (Below w0.heap.size w0 u) → Hid (DBlk u (w.heap.size + 2) h dc) from fun u hh => Lib.hid (HT0.out.below hh.out))
  go_enter Tryz.func4, Tryz.ntmps4
  go_upto_region 1 with (fail)
  rw [HW.out]
  obtain ⟨zc0, zc1, zc2, zc3, zc4⟩ := kC.out _ HB_0
  go_wp2_with fail
  refine (awake17 _ (kV.out _ HB_0)).mono ?_
  rintro e w1 ⟨rfl, hb0⟩
  have HB_1 := Lib.hid (below_ext HB_0.out hb0)
  clear zc0 zc1 zc2 zc3 zc4
  clear hb0
  obtain ⟨zc0, zc1, zc2, zc3, zc4⟩ := kC.out _ HB_1
  go_wp2_with fail
  refine (few_any Y yn yc B rows bn bc true hf hbn _ (kB.out _ HB_1)).mono ?_
  rintro e w2 ⟨rfl, hb0⟩
  have HB_2 := Lib.hid (below_ext HB_1.out hb0)
  clear zc0 zc1 zc2 zc3 zc4
  clear hb0
  obtain ⟨zc0, zc1, zc2, zc3, zc4⟩ := kC.out _ HB_2
  have hbF := below_ext HBw.out HB_2.out
  go_wp2
  go_ret
  exact ⟨rfl, hbF⟩
set_option maxHeartbeats 25600000 in
theorem lm_k (P Q G : Int) (Y : Option Addr) (ys : List Int) (yn yc : Nat) (B : Option Addr) (rows : List Row) (bn bc : Nat) (X : Option Addr) (xs : List Int) (xn xc : Nat) (K : Option Addr) (ks : List Int) (kn kc : Nat) (c : Int) (s o : ByteArray) (h : List Int) (dc : Int) (hyn : Hid (ys.length = yn)) (hbn : Hid (rows.length = bn)) (hxn : Hid (xs.length = xn)) (hkn : Hid (ks.length = kn)) (hl : Hid (h.length = 32)) (hhb : Hid (bytesB h = true)) (hQ : Q < 9223372036854775808) (hf : Hid (fewB yn bn rows = true)) (h1 : xn ≤ 30) (h2 : 30 < kn) (w : World) (hv : Hid (Vars w)) (hd : Hid (VarsD w)) (hY : Hid (Sl w Y ys)) (hB : Hid (Rw w B rows)) (hX : Hid (Sl w X xs)) (hK : Hid (Sl w K ks)) :
    Calls Tryz.prog 4 #[gv P Q G, relV Y yn yc B bn bc, .slice X xn xc, .slice K kn kc, .int .u32 c, .string s, .string o, .agg (tcs h dc)] w fun e' w' => e' = .returned (.bool true) ∧ Below w.heap.size w w' := by
  have d1 : decide ((30 : Int) < (xn : Int)) = false := by simp; omega
  have d2 : decide ((30 : Int) < (kn : Int)) = true := by simp; omega
  obtain ⟨w0, hW⟩ : ∃ W, (((w.alloc (gObj P Q G)).alloc (relO Y yn yc B bn bc)).alloc (.cells (tcs h dc) 39)) = W := ⟨_, rfl⟩
  have HBw : Hid (Below w.heap.size w w0) := Lib.hid (by rw [← hW]; exact (((Below.refl _ _).alloc (Nat.le_refl _) _).alloc (by simp) _).alloc (by simp; omega) _)
  have hc : w0.cell? ⟨w.heap.size, 0, none⟩ = some (.int .i64 P) ∧ w0.cell? ⟨w.heap.size, 1, none⟩ = some (.int .i64 Q) ∧ w0.cell? ⟨w.heap.size, 2, none⟩ = some (.int .i64 G) ∧ w0.cell? ⟨w.heap.size + 1, 0, none⟩ = some (.slice Y yn yc) ∧ w0.cell? ⟨w.heap.size + 1, 1, none⟩ = some (.slice B bn bc) := by rw [← hW]; exact ⟨cell_below (cell_below (allocs_cell (by simp) (by rfl)) (below_box0 _ _)) (below_box0 _ _), cell_below (cell_below (allocs_cell (by simp) (by rfl)) (below_box0 _ _)) (below_box0 _ _), cell_below (cell_below (allocs_cell (by simp) (by rfl)) (below_box0 _ _)) (below_box0 _ _), cell_below (allocs_cell (by simp) (by rfl)) (below_box0 _ _), cell_below (allocs_cell (by simp) (by rfl)) (below_box0 _ _)⟩
  have kC := Lib.hid (show ∀ u : World, Hid (Below w0.heap.size w0 u) → u.cell? ⟨w.heap.size, 0, none⟩ = some (.int .i64 P) ∧ u.cell? ⟨w.heap.size, 1, none⟩ = some (.int .i64 Q) ∧ u.cell? ⟨w.heap.size, 2, none⟩ = some (.int .i64 G) ∧ u.cell? ⟨w.heap.size + 1, 0, none⟩ = some (.slice Y yn yc) ∧ u.cell? ⟨w.heap.size + 1, 1, none⟩ = some (.slice B bn bc) from fun u h => ⟨cell_below hc.1 h.out, cell_below hc.2.1 h.out, cell_below hc.2.2.1 h.out, cell_below hc.2.2.2.1 h.out, cell_below hc.2.2.2.2 h.out⟩)
  have kV := Lib.hid (show ∀ u : World, Hid (Below w0.heap.size w0 u) → Hid (Vars u) from fun u h => Lib.hid ((hv.out.below) (below_ext HBw.out h.out)))
  have kD := Lib.hid (show ∀ u : World, Hid (Below w0.heap.size w0 u) → Hid (VarsD u) from fun u h => Lib.hid ((hd.out.below) (below_ext HBw.out h.out)))
  have kY := Lib.hid (show ∀ u : World, Hid (Below w0.heap.size w0 u) → Hid (Sl u Y ys) from fun u h => Lib.hid ((hY.out.below) (below_ext HBw.out h.out)))
  have kB := Lib.hid (show ∀ u : World, Hid (Below w0.heap.size w0 u) → Hid (Rw u B rows) from fun u h => Lib.hid ((hB.out.below) (below_ext HBw.out h.out)))
  have kX := Lib.hid (show ∀ u : World, Hid (Below w0.heap.size w0 u) → Hid (Sl u X xs) from fun u h => Lib.hid ((hX.out.below) (below_ext HBw.out h.out)))
  have kK := Lib.hid (show ∀ u : World, Hid (Below w0.heap.size w0 u) → Hid (Sl u K ks) from fun u h => Lib.hid ((hK.out.below) (below_ext HBw.out h.out)))
  have HB_0 : Hid (Below w0.heap.size w0 w0) := Lib.hid (Below.refl _ _)
  have HW := Lib.hid hW
  clear hW hc hv hd hY hB hX hK
  have HT0 : Hid (DBlk w0 (w.heap.size + 2) h dc) := Lib.hid (by rw [← HW.out, show w.heap.size + 2 = ((w.alloc (gObj P Q G)).alloc (relO Y yn yc B bn bc)).heap.size by simp]; exact heap_alloc_new _ _)
  have kT := Lib.hid (show ∀ u : World, Hid (Below w0.heap.size w0 u) → Hid (DBlk u (w.heap.size + 2) h dc) from fun u hh => Lib.hid (HT0.out.below hh.out))
  go_enter Tryz.func4, Tryz.ntmps4
  go_upto_region 1 with (fail)
  rw [HW.out]
  obtain ⟨zc0, zc1, zc2, zc3, zc4⟩ := kC.out _ HB_0
  go_wp2_with fail
  refine (awake17 _ (kV.out _ HB_0)).mono ?_
  rintro e w1 ⟨rfl, hb0⟩
  have HB_1 := Lib.hid (below_ext HB_0.out hb0)
  clear zc0 zc1 zc2 zc3 zc4
  clear hb0
  obtain ⟨zc0, zc1, zc2, zc3, zc4⟩ := kC.out _ HB_1
  go_wp2_with fail
  refine (few_any Y yn yc B rows bn bc true hf hbn _ (kB.out _ HB_1)).mono ?_
  rintro e w2 ⟨rfl, hb0⟩
  have HB_2 := Lib.hid (below_ext HB_1.out hb0)
  clear zc0 zc1 zc2 zc3 zc4
  clear hb0
  obtain ⟨zc0, zc1, zc2, zc3, zc4⟩ := kC.out _ HB_2
  have hbF := below_ext HBw.out HB_2.out
  go_wp2
  go_ret
  exact ⟨rfl, hbF⟩
set_option maxHeartbeats 25600000 in
theorem lm_s (P Q G : Int) (Y : Option Addr) (ys : List Int) (yn yc : Nat) (B : Option Addr) (rows : List Row) (bn bc : Nat) (X : Option Addr) (xs : List Int) (xn xc : Nat) (K : Option Addr) (ks : List Int) (kn kc : Nat) (c : Int) (s o : ByteArray) (h : List Int) (dc : Int) (hyn : Hid (ys.length = yn)) (hbn : Hid (rows.length = bn)) (hxn : Hid (xs.length = xn)) (hkn : Hid (ks.length = kn)) (hl : Hid (h.length = 32)) (hhb : Hid (bytesB h = true)) (hQ : Q < 9223372036854775808) (hf : Hid (fewB yn bn rows = true)) (h1 : xn ≤ 30) (h2 : kn ≤ 30) (h3 : 60 < s.size) (w : World) (hv : Hid (Vars w)) (hd : Hid (VarsD w)) (hY : Hid (Sl w Y ys)) (hB : Hid (Rw w B rows)) (hX : Hid (Sl w X xs)) (hK : Hid (Sl w K ks)) :
    Calls Tryz.prog 4 #[gv P Q G, relV Y yn yc B bn bc, .slice X xn xc, .slice K kn kc, .int .u32 c, .string s, .string o, .agg (tcs h dc)] w fun e' w' => e' = .returned (.bool true) ∧ Below w.heap.size w w' := by
  have d1 : decide ((30 : Int) < (xn : Int)) = false := by simp; omega
  have d2 : decide ((30 : Int) < (kn : Int)) = false := by simp; omega
  have d3 : decide ((60 : Int) < (s.size : Int)) = true := by simp; omega
  obtain ⟨w0, hW⟩ : ∃ W, (((w.alloc (gObj P Q G)).alloc (relO Y yn yc B bn bc)).alloc (.cells (tcs h dc) 39)) = W := ⟨_, rfl⟩
  have HBw : Hid (Below w.heap.size w w0) := Lib.hid (by rw [← hW]; exact (((Below.refl _ _).alloc (Nat.le_refl _) _).alloc (by simp) _).alloc (by simp; omega) _)
  have hc : w0.cell? ⟨w.heap.size, 0, none⟩ = some (.int .i64 P) ∧ w0.cell? ⟨w.heap.size, 1, none⟩ = some (.int .i64 Q) ∧ w0.cell? ⟨w.heap.size, 2, none⟩ = some (.int .i64 G) ∧ w0.cell? ⟨w.heap.size + 1, 0, none⟩ = some (.slice Y yn yc) ∧ w0.cell? ⟨w.heap.size + 1, 1, none⟩ = some (.slice B bn bc) := by rw [← hW]; exact ⟨cell_below (cell_below (allocs_cell (by simp) (by rfl)) (below_box0 _ _)) (below_box0 _ _), cell_below (cell_below (allocs_cell (by simp) (by rfl)) (below_box0 _ _)) (below_box0 _ _), cell_below (cell_below (allocs_cell (by simp) (by rfl)) (below_box0 _ _)) (below_box0 _ _), cell_below (allocs_cell (by simp) (by rfl)) (below_box0 _ _), cell_below (allocs_cell (by simp) (by rfl)) (below_box0 _ _)⟩
  have kC := Lib.hid (show ∀ u : World, Hid (Below w0.heap.size w0 u) → u.cell? ⟨w.heap.size, 0, none⟩ = some (.int .i64 P) ∧ u.cell? ⟨w.heap.size, 1, none⟩ = some (.int .i64 Q) ∧ u.cell? ⟨w.heap.size, 2, none⟩ = some (.int .i64 G) ∧ u.cell? ⟨w.heap.size + 1, 0, none⟩ = some (.slice Y yn yc) ∧ u.cell? ⟨w.heap.size + 1, 1, none⟩ = some (.slice B bn bc) from fun u h => ⟨cell_below hc.1 h.out, cell_below hc.2.1 h.out, cell_below hc.2.2.1 h.out, cell_below hc.2.2.2.1 h.out, cell_below hc.2.2.2.2 h.out⟩)
  have kV := Lib.hid (show ∀ u : World, Hid (Below w0.heap.size w0 u) → Hid (Vars u) from fun u h => Lib.hid ((hv.out.below) (below_ext HBw.out h.out)))
  have kD := Lib.hid (show ∀ u : World, Hid (Below w0.heap.size w0 u) → Hid (VarsD u) from fun u h => Lib.hid ((hd.out.below) (below_ext HBw.out h.out)))
  have kY := Lib.hid (show ∀ u : World, Hid (Below w0.heap.size w0 u) → Hid (Sl u Y ys) from fun u h => Lib.hid ((hY.out.below) (below_ext HBw.out h.out)))
  have kB := Lib.hid (show ∀ u : World, Hid (Below w0.heap.size w0 u) → Hid (Rw u B rows) from fun u h => Lib.hid ((hB.out.below) (below_ext HBw.out h.out)))
  have kX := Lib.hid (show ∀ u : World, Hid (Below w0.heap.size w0 u) → Hid (Sl u X xs) from fun u h => Lib.hid ((hX.out.below) (below_ext HBw.out h.out)))
  have kK := Lib.hid (show ∀ u : World, Hid (Below w0.heap.size w0 u) → Hid (Sl u K ks) from fun u h => Lib.hid ((hK.out.below) (below_ext HBw.out h.out)))
  have HB_0 : Hid (Below w0.heap.size w0 w0) := Lib.hid (Below.refl _ _)
  have HW := Lib.hid hW
  clear hW hc hv hd hY hB hX hK
  have HT0 : Hid (DBlk w0 (w.heap.size + 2) h dc) := Lib.hid (by rw [← HW.out, show w.heap.size + 2 = ((w.alloc (gObj P Q G)).alloc (relO Y yn yc B bn bc)).heap.size by simp]; exact heap_alloc_new _ _)
  have kT := Lib.hid (show ∀ u : World, Hid (Below w0.heap.size w0 u) → Hid (DBlk u (w.heap.size + 2) h dc) from fun u hh => Lib.hid (HT0.out.below hh.out))
  go_enter Tryz.func4, Tryz.ntmps4
  go_upto_region 1 with (fail)
  rw [HW.out]
  obtain ⟨zc0, zc1, zc2, zc3, zc4⟩ := kC.out _ HB_0
  go_wp2_with fail
  refine (awake17 _ (kV.out _ HB_0)).mono ?_
  rintro e w1 ⟨rfl, hb0⟩
  have HB_1 := Lib.hid (below_ext HB_0.out hb0)
  clear zc0 zc1 zc2 zc3 zc4
  clear hb0
  obtain ⟨zc0, zc1, zc2, zc3, zc4⟩ := kC.out _ HB_1
  go_wp2_with fail
  refine (few_any Y yn yc B rows bn bc true hf hbn _ (kB.out _ HB_1)).mono ?_
  rintro e w2 ⟨rfl, hb0⟩
  have HB_2 := Lib.hid (below_ext HB_1.out hb0)
  clear zc0 zc1 zc2 zc3 zc4
  clear hb0
  obtain ⟨zc0, zc1, zc2, zc3, zc4⟩ := kC.out _ HB_2
  have hbF := below_ext HBw.out HB_2.out
  go_wp2
  go_ret
  exact ⟨rfl, hbF⟩
set_option maxHeartbeats 25600000 in
theorem lm_o (P Q G : Int) (Y : Option Addr) (ys : List Int) (yn yc : Nat) (B : Option Addr) (rows : List Row) (bn bc : Nat) (X : Option Addr) (xs : List Int) (xn xc : Nat) (K : Option Addr) (ks : List Int) (kn kc : Nat) (c : Int) (s o : ByteArray) (h : List Int) (dc : Int) (hyn : Hid (ys.length = yn)) (hbn : Hid (rows.length = bn)) (hxn : Hid (xs.length = xn)) (hkn : Hid (ks.length = kn)) (hl : Hid (h.length = 32)) (hhb : Hid (bytesB h = true)) (hQ : Q < 9223372036854775808) (hf : Hid (fewB yn bn rows = true)) (h1 : xn ≤ 30) (h2 : kn ≤ 30) (h3 : s.size ≤ 60) (h4 : 60 < o.size) (w : World) (hv : Hid (Vars w)) (hd : Hid (VarsD w)) (hY : Hid (Sl w Y ys)) (hB : Hid (Rw w B rows)) (hX : Hid (Sl w X xs)) (hK : Hid (Sl w K ks)) :
    Calls Tryz.prog 4 #[gv P Q G, relV Y yn yc B bn bc, .slice X xn xc, .slice K kn kc, .int .u32 c, .string s, .string o, .agg (tcs h dc)] w fun e' w' => e' = .returned (.bool true) ∧ Below w.heap.size w w' := by
  have d1 : decide ((30 : Int) < (xn : Int)) = false := by simp; omega
  have d2 : decide ((30 : Int) < (kn : Int)) = false := by simp; omega
  have d3 : decide ((60 : Int) < (s.size : Int)) = false := by simp; omega
  have d4 : decide ((60 : Int) < (o.size : Int)) = true := by simp; omega
  obtain ⟨w0, hW⟩ : ∃ W, (((w.alloc (gObj P Q G)).alloc (relO Y yn yc B bn bc)).alloc (.cells (tcs h dc) 39)) = W := ⟨_, rfl⟩
  have HBw : Hid (Below w.heap.size w w0) := Lib.hid (by rw [← hW]; exact (((Below.refl _ _).alloc (Nat.le_refl _) _).alloc (by simp) _).alloc (by simp; omega) _)
  have hc : w0.cell? ⟨w.heap.size, 0, none⟩ = some (.int .i64 P) ∧ w0.cell? ⟨w.heap.size, 1, none⟩ = some (.int .i64 Q) ∧ w0.cell? ⟨w.heap.size, 2, none⟩ = some (.int .i64 G) ∧ w0.cell? ⟨w.heap.size + 1, 0, none⟩ = some (.slice Y yn yc) ∧ w0.cell? ⟨w.heap.size + 1, 1, none⟩ = some (.slice B bn bc) := by rw [← hW]; exact ⟨cell_below (cell_below (allocs_cell (by simp) (by rfl)) (below_box0 _ _)) (below_box0 _ _), cell_below (cell_below (allocs_cell (by simp) (by rfl)) (below_box0 _ _)) (below_box0 _ _), cell_below (cell_below (allocs_cell (by simp) (by rfl)) (below_box0 _ _)) (below_box0 _ _), cell_below (allocs_cell (by simp) (by rfl)) (below_box0 _ _), cell_below (allocs_cell (by simp) (by rfl)) (below_box0 _ _)⟩
  have kC := Lib.hid (show ∀ u : World, Hid (Below w0.heap.size w0 u) → u.cell? ⟨w.heap.size, 0, none⟩ = some (.int .i64 P) ∧ u.cell? ⟨w.heap.size, 1, none⟩ = some (.int .i64 Q) ∧ u.cell? ⟨w.heap.size, 2, none⟩ = some (.int .i64 G) ∧ u.cell? ⟨w.heap.size + 1, 0, none⟩ = some (.slice Y yn yc) ∧ u.cell? ⟨w.heap.size + 1, 1, none⟩ = some (.slice B bn bc) from fun u h => ⟨cell_below hc.1 h.out, cell_below hc.2.1 h.out, cell_below hc.2.2.1 h.out, cell_below hc.2.2.2.1 h.out, cell_below hc.2.2.2.2 h.out⟩)
  have kV := Lib.hid (show ∀ u : World, Hid (Below w0.heap.size w0 u) → Hid (Vars u) from fun u h => Lib.hid ((hv.out.below) (below_ext HBw.out h.out)))
  have kD := Lib.hid (show ∀ u : World, Hid (Below w0.heap.size w0 u) → Hid (VarsD u) from fun u h => Lib.hid ((hd.out.below) (below_ext HBw.out h.out)))
  have kY := Lib.hid (show ∀ u : World, Hid (Below w0.heap.size w0 u) → Hid (Sl u Y ys) from fun u h => Lib.hid ((hY.out.below) (below_ext HBw.out h.out)))
  have kB := Lib.hid (show ∀ u : World, Hid (Below w0.heap.size w0 u) → Hid (Rw u B rows) from fun u h => Lib.hid ((hB.out.below) (below_ext HBw.out h.out)))
  have kX := Lib.hid (show ∀ u : World, Hid (Below w0.heap.size w0 u) → Hid (Sl u X xs) from fun u h => Lib.hid ((hX.out.below) (below_ext HBw.out h.out)))
  have kK := Lib.hid (show ∀ u : World, Hid (Below w0.heap.size w0 u) → Hid (Sl u K ks) from fun u h => Lib.hid ((hK.out.below) (below_ext HBw.out h.out)))
  have HB_0 : Hid (Below w0.heap.size w0 w0) := Lib.hid (Below.refl _ _)
  have HW := Lib.hid hW
  clear hW hc hv hd hY hB hX hK
  have HT0 : Hid (DBlk w0 (w.heap.size + 2) h dc) := Lib.hid (by rw [← HW.out, show w.heap.size + 2 = ((w.alloc (gObj P Q G)).alloc (relO Y yn yc B bn bc)).heap.size by simp]; exact heap_alloc_new _ _)
  have kT := Lib.hid (show ∀ u : World, Hid (Below w0.heap.size w0 u) → Hid (DBlk u (w.heap.size + 2) h dc) from fun u hh => Lib.hid (HT0.out.below hh.out))
  go_enter Tryz.func4, Tryz.ntmps4
  go_upto_region 1 with (fail)
  rw [HW.out]
  obtain ⟨zc0, zc1, zc2, zc3, zc4⟩ := kC.out _ HB_0
  go_wp2_with fail
  refine (awake17 _ (kV.out _ HB_0)).mono ?_
  rintro e w1 ⟨rfl, hb0⟩
  have HB_1 := Lib.hid (below_ext HB_0.out hb0)
  clear zc0 zc1 zc2 zc3 zc4
  clear hb0
  obtain ⟨zc0, zc1, zc2, zc3, zc4⟩ := kC.out _ HB_1
  go_wp2_with fail
  refine (few_any Y yn yc B rows bn bc true hf hbn _ (kB.out _ HB_1)).mono ?_
  rintro e w2 ⟨rfl, hb0⟩
  have HB_2 := Lib.hid (below_ext HB_1.out hb0)
  clear zc0 zc1 zc2 zc3 zc4
  clear hb0
  obtain ⟨zc0, zc1, zc2, zc3, zc4⟩ := kC.out _ HB_2
  have hbF := below_ext HBw.out HB_2.out
  go_wp2
  go_ret
  exact ⟨rfl, hbF⟩
set_option maxHeartbeats 25600000 in
theorem lm_h (P Q G : Int) (Y : Option Addr) (ys : List Int) (yn yc : Nat) (B : Option Addr) (rows : List Row) (bn bc : Nat) (X : Option Addr) (xs : List Int) (xn xc : Nat) (K : Option Addr) (ks : List Int) (kn kc : Nat) (c : Int) (s o : ByteArray) (h : List Int) (dc : Int) (hyn : Hid (ys.length = yn)) (hbn : Hid (rows.length = bn)) (hxn : Hid (xs.length = xn)) (hkn : Hid (ks.length = kn)) (hl : Hid (h.length = 32)) (hhb : Hid (bytesB h = true)) (hQ : Q < 9223372036854775808) (hf : Hid (fewB yn bn rows = true)) (h1 : xn ≤ 30) (h2 : kn ≤ 30) (h3 : s.size ≤ 60) (h4 : o.size ≤ 60) (hhh : Hid (holdsB P Q G ys rows xs = false)) (w : World) (hv : Hid (Vars w)) (hd : Hid (VarsD w)) (hY : Hid (Sl w Y ys)) (hB : Hid (Rw w B rows)) (hX : Hid (Sl w X xs)) (hK : Hid (Sl w K ks)) :
    Calls Tryz.prog 4 #[gv P Q G, relV Y yn yc B bn bc, .slice X xn xc, .slice K kn kc, .int .u32 c, .string s, .string o, .agg (tcs h dc)] w fun e' w' => e' = .returned (.bool true) ∧ Below w.heap.size w w' := by
  have d1 : decide ((30 : Int) < (xn : Int)) = false := by simp; omega
  have d2 : decide ((30 : Int) < (kn : Int)) = false := by simp; omega
  have d3 : decide ((60 : Int) < (s.size : Int)) = false := by simp; omega
  have d4 : decide ((60 : Int) < (o.size : Int)) = false := by simp; omega
  obtain ⟨w0, hW⟩ : ∃ W, (((w.alloc (gObj P Q G)).alloc (relO Y yn yc B bn bc)).alloc (.cells (tcs h dc) 39)) = W := ⟨_, rfl⟩
  have HBw : Hid (Below w.heap.size w w0) := Lib.hid (by rw [← hW]; exact (((Below.refl _ _).alloc (Nat.le_refl _) _).alloc (by simp) _).alloc (by simp; omega) _)
  have hc : w0.cell? ⟨w.heap.size, 0, none⟩ = some (.int .i64 P) ∧ w0.cell? ⟨w.heap.size, 1, none⟩ = some (.int .i64 Q) ∧ w0.cell? ⟨w.heap.size, 2, none⟩ = some (.int .i64 G) ∧ w0.cell? ⟨w.heap.size + 1, 0, none⟩ = some (.slice Y yn yc) ∧ w0.cell? ⟨w.heap.size + 1, 1, none⟩ = some (.slice B bn bc) := by rw [← hW]; exact ⟨cell_below (cell_below (allocs_cell (by simp) (by rfl)) (below_box0 _ _)) (below_box0 _ _), cell_below (cell_below (allocs_cell (by simp) (by rfl)) (below_box0 _ _)) (below_box0 _ _), cell_below (cell_below (allocs_cell (by simp) (by rfl)) (below_box0 _ _)) (below_box0 _ _), cell_below (allocs_cell (by simp) (by rfl)) (below_box0 _ _), cell_below (allocs_cell (by simp) (by rfl)) (below_box0 _ _)⟩
  have kC := Lib.hid (show ∀ u : World, Hid (Below w0.heap.size w0 u) → u.cell? ⟨w.heap.size, 0, none⟩ = some (.int .i64 P) ∧ u.cell? ⟨w.heap.size, 1, none⟩ = some (.int .i64 Q) ∧ u.cell? ⟨w.heap.size, 2, none⟩ = some (.int .i64 G) ∧ u.cell? ⟨w.heap.size + 1, 0, none⟩ = some (.slice Y yn yc) ∧ u.cell? ⟨w.heap.size + 1, 1, none⟩ = some (.slice B bn bc) from fun u h => ⟨cell_below hc.1 h.out, cell_below hc.2.1 h.out, cell_below hc.2.2.1 h.out, cell_below hc.2.2.2.1 h.out, cell_below hc.2.2.2.2 h.out⟩)
  have kV := Lib.hid (show ∀ u : World, Hid (Below w0.heap.size w0 u) → Hid (Vars u) from fun u h => Lib.hid ((hv.out.below) (below_ext HBw.out h.out)))
  have kD := Lib.hid (show ∀ u : World, Hid (Below w0.heap.size w0 u) → Hid (VarsD u) from fun u h => Lib.hid ((hd.out.below) (below_ext HBw.out h.out)))
  have kY := Lib.hid (show ∀ u : World, Hid (Below w0.heap.size w0 u) → Hid (Sl u Y ys) from fun u h => Lib.hid ((hY.out.below) (below_ext HBw.out h.out)))
  have kB := Lib.hid (show ∀ u : World, Hid (Below w0.heap.size w0 u) → Hid (Rw u B rows) from fun u h => Lib.hid ((hB.out.below) (below_ext HBw.out h.out)))
  have kX := Lib.hid (show ∀ u : World, Hid (Below w0.heap.size w0 u) → Hid (Sl u X xs) from fun u h => Lib.hid ((hX.out.below) (below_ext HBw.out h.out)))
  have kK := Lib.hid (show ∀ u : World, Hid (Below w0.heap.size w0 u) → Hid (Sl u K ks) from fun u h => Lib.hid ((hK.out.below) (below_ext HBw.out h.out)))
  have HB_0 : Hid (Below w0.heap.size w0 w0) := Lib.hid (Below.refl _ _)
  have HW := Lib.hid hW
  clear hW hc hv hd hY hB hX hK
  have HT0 : Hid (DBlk w0 (w.heap.size + 2) h dc) := Lib.hid (by rw [← HW.out, show w.heap.size + 2 = ((w.alloc (gObj P Q G)).alloc (relO Y yn yc B bn bc)).heap.size by simp]; exact heap_alloc_new _ _)
  have kT := Lib.hid (show ∀ u : World, Hid (Below w0.heap.size w0 u) → Hid (DBlk u (w.heap.size + 2) h dc) from fun u hh => Lib.hid (HT0.out.below hh.out))
  go_enter Tryz.func4, Tryz.ntmps4
  go_upto_region 1 with (fail)
  rw [HW.out]
  obtain ⟨zc0, zc1, zc2, zc3, zc4⟩ := kC.out _ HB_0
  go_wp2_with fail
  refine (awake17 _ (kV.out _ HB_0)).mono ?_
  rintro e w1 ⟨rfl, hb0⟩
  have HB_1 := Lib.hid (below_ext HB_0.out hb0)
  clear zc0 zc1 zc2 zc3 zc4
  clear hb0
  obtain ⟨zc0, zc1, zc2, zc3, zc4⟩ := kC.out _ HB_1
  go_wp2_with fail
  refine (few_any Y yn yc B rows bn bc true hf hbn _ (kB.out _ HB_1)).mono ?_
  rintro e w2 ⟨rfl, hb0⟩
  have HB_2 := Lib.hid (below_ext HB_1.out hb0)
  clear zc0 zc1 zc2 zc3 zc4
  clear hb0
  obtain ⟨zc0, zc1, zc2, zc3, zc4⟩ := kC.out _ HB_2
  go_wp2_with fail
  refine (rholds_any P Q G Y ys yn yc B rows bn bc X xs xn xc false hhh hyn hbn hxn (by omega) hQ _ (kY.out _ HB_2) (kB.out _ HB_2) (kX.out _ HB_2)).mono ?_
  rintro e w3 ⟨rfl, hb0⟩
  have HB_3 := Lib.hid (below_ext HB_2.out hb0)
  clear zc0 zc1 zc2 zc3 zc4
  clear hb0
  obtain ⟨zc0, zc1, zc2, zc3, zc4⟩ := kC.out _ HB_3
  have hbF := below_ext HBw.out HB_3.out
  go_wp2
  go_ret
  exact ⟨rfl, hbF⟩
set_option maxHeartbeats 25600000 in
theorem lm_n (P Q G : Int) (Y : Option Addr) (ys : List Int) (yn yc : Nat) (B : Option Addr) (rows : List Row) (bn bc : Nat) (X : Option Addr) (xs : List Int) (xn xc : Nat) (K : Option Addr) (ks : List Int) (kn kc : Nat) (c : Int) (s o : ByteArray) (h : List Int) (dc : Int) (hyn : Hid (ys.length = yn)) (hbn : Hid (rows.length = bn)) (hxn : Hid (xs.length = xn)) (hkn : Hid (ks.length = kn)) (hl : Hid (h.length = 32)) (hhb : Hid (bytesB h = true)) (hQ : Q < 9223372036854775808) (hf : Hid (fewB yn bn rows = true)) (h1 : xn ≤ 30) (h2 : kn ≤ 30) (h3 : s.size ≤ 60) (h4 : o.size ≤ 60) (hhh : Hid (holdsB P Q G ys rows xs = true)) (h5 : kn ≠ xn) (w : World) (hv : Hid (Vars w)) (hd : Hid (VarsD w)) (hY : Hid (Sl w Y ys)) (hB : Hid (Rw w B rows)) (hX : Hid (Sl w X xs)) (hK : Hid (Sl w K ks)) :
    Calls Tryz.prog 4 #[gv P Q G, relV Y yn yc B bn bc, .slice X xn xc, .slice K kn kc, .int .u32 c, .string s, .string o, .agg (tcs h dc)] w fun e' w' => e' = .returned (.bool true) ∧ Below w.heap.size w w' := by
  have d1 : decide ((30 : Int) < (xn : Int)) = false := by simp; omega
  have d2 : decide ((30 : Int) < (kn : Int)) = false := by simp; omega
  have d3 : decide ((60 : Int) < (s.size : Int)) = false := by simp; omega
  have d4 : decide ((60 : Int) < (o.size : Int)) = false := by simp; omega
  have d5 : ((kn : Int) != (xn : Int)) = true := by simp; omega
  obtain ⟨w0, hW⟩ : ∃ W, (((w.alloc (gObj P Q G)).alloc (relO Y yn yc B bn bc)).alloc (.cells (tcs h dc) 39)) = W := ⟨_, rfl⟩
  have HBw : Hid (Below w.heap.size w w0) := Lib.hid (by rw [← hW]; exact (((Below.refl _ _).alloc (Nat.le_refl _) _).alloc (by simp) _).alloc (by simp; omega) _)
  have hc : w0.cell? ⟨w.heap.size, 0, none⟩ = some (.int .i64 P) ∧ w0.cell? ⟨w.heap.size, 1, none⟩ = some (.int .i64 Q) ∧ w0.cell? ⟨w.heap.size, 2, none⟩ = some (.int .i64 G) ∧ w0.cell? ⟨w.heap.size + 1, 0, none⟩ = some (.slice Y yn yc) ∧ w0.cell? ⟨w.heap.size + 1, 1, none⟩ = some (.slice B bn bc) := by rw [← hW]; exact ⟨cell_below (cell_below (allocs_cell (by simp) (by rfl)) (below_box0 _ _)) (below_box0 _ _), cell_below (cell_below (allocs_cell (by simp) (by rfl)) (below_box0 _ _)) (below_box0 _ _), cell_below (cell_below (allocs_cell (by simp) (by rfl)) (below_box0 _ _)) (below_box0 _ _), cell_below (allocs_cell (by simp) (by rfl)) (below_box0 _ _), cell_below (allocs_cell (by simp) (by rfl)) (below_box0 _ _)⟩
  have kC := Lib.hid (show ∀ u : World, Hid (Below w0.heap.size w0 u) → u.cell? ⟨w.heap.size, 0, none⟩ = some (.int .i64 P) ∧ u.cell? ⟨w.heap.size, 1, none⟩ = some (.int .i64 Q) ∧ u.cell? ⟨w.heap.size, 2, none⟩ = some (.int .i64 G) ∧ u.cell? ⟨w.heap.size + 1, 0, none⟩ = some (.slice Y yn yc) ∧ u.cell? ⟨w.heap.size + 1, 1, none⟩ = some (.slice B bn bc) from fun u h => ⟨cell_below hc.1 h.out, cell_below hc.2.1 h.out, cell_below hc.2.2.1 h.out, cell_below hc.2.2.2.1 h.out, cell_below hc.2.2.2.2 h.out⟩)
  have kV := Lib.hid (show ∀ u : World, Hid (Below w0.heap.size w0 u) → Hid (Vars u) from fun u h => Lib.hid ((hv.out.below) (below_ext HBw.out h.out)))
  have kD := Lib.hid (show ∀ u : World, Hid (Below w0.heap.size w0 u) → Hid (VarsD u) from fun u h => Lib.hid ((hd.out.below) (below_ext HBw.out h.out)))
  have kY := Lib.hid (show ∀ u : World, Hid (Below w0.heap.size w0 u) → Hid (Sl u Y ys) from fun u h => Lib.hid ((hY.out.below) (below_ext HBw.out h.out)))
  have kB := Lib.hid (show ∀ u : World, Hid (Below w0.heap.size w0 u) → Hid (Rw u B rows) from fun u h => Lib.hid ((hB.out.below) (below_ext HBw.out h.out)))
  have kX := Lib.hid (show ∀ u : World, Hid (Below w0.heap.size w0 u) → Hid (Sl u X xs) from fun u h => Lib.hid ((hX.out.below) (below_ext HBw.out h.out)))
  have kK := Lib.hid (show ∀ u : World, Hid (Below w0.heap.size w0 u) → Hid (Sl u K ks) from fun u h => Lib.hid ((hK.out.below) (below_ext HBw.out h.out)))
  have HB_0 : Hid (Below w0.heap.size w0 w0) := Lib.hid (Below.refl _ _)
  have HW := Lib.hid hW
  clear hW hc hv hd hY hB hX hK
  have HT0 : Hid (DBlk w0 (w.heap.size + 2) h dc) := Lib.hid (by rw [← HW.out, show w.heap.size + 2 = ((w.alloc (gObj P Q G)).alloc (relO Y yn yc B bn bc)).heap.size by simp]; exact heap_alloc_new _ _)
  have kT := Lib.hid (show ∀ u : World, Hid (Below w0.heap.size w0 u) → Hid (DBlk u (w.heap.size + 2) h dc) from fun u hh => Lib.hid (HT0.out.below hh.out))
  go_enter Tryz.func4, Tryz.ntmps4
  go_upto_region 1 with (fail)
  rw [HW.out]
  obtain ⟨zc0, zc1, zc2, zc3, zc4⟩ := kC.out _ HB_0
  go_wp2_with fail
  refine (awake17 _ (kV.out _ HB_0)).mono ?_
  rintro e w1 ⟨rfl, hb0⟩
  have HB_1 := Lib.hid (below_ext HB_0.out hb0)
  clear zc0 zc1 zc2 zc3 zc4
  clear hb0
  obtain ⟨zc0, zc1, zc2, zc3, zc4⟩ := kC.out _ HB_1
  go_wp2_with fail
  refine (few_any Y yn yc B rows bn bc true hf hbn _ (kB.out _ HB_1)).mono ?_
  rintro e w2 ⟨rfl, hb0⟩
  have HB_2 := Lib.hid (below_ext HB_1.out hb0)
  clear zc0 zc1 zc2 zc3 zc4
  clear hb0
  obtain ⟨zc0, zc1, zc2, zc3, zc4⟩ := kC.out _ HB_2
  go_wp2_with fail
  refine (rholds_any P Q G Y ys yn yc B rows bn bc X xs xn xc true hhh hyn hbn hxn (by omega) hQ _ (kY.out _ HB_2) (kB.out _ HB_2) (kX.out _ HB_2)).mono ?_
  rintro e w3 ⟨rfl, hb0⟩
  have HB_3 := Lib.hid (below_ext HB_2.out hb0)
  clear zc0 zc1 zc2 zc3 zc4
  clear hb0
  obtain ⟨zc0, zc1, zc2, zc3, zc4⟩ := kC.out _ HB_3
  have hbF := below_ext HBw.out HB_3.out
  go_wp2
  go_ret
  exact ⟨rfl, hbF⟩
set_option maxHeartbeats 25600000 in
theorem lm_c (P Q G : Int) (Y : Option Addr) (ys : List Int) (yn yc : Nat) (B : Option Addr) (rows : List Row) (bn bc : Nat) (X : Option Addr) (xs : List Int) (xn xc : Nat) (K : Option Addr) (ks : List Int) (kn kc : Nat) (c : Int) (s o : ByteArray) (h : List Int) (dc : Int) (hyn : Hid (ys.length = yn)) (hbn : Hid (rows.length = bn)) (hxn : Hid (xs.length = xn)) (hkn : Hid (ks.length = kn)) (hl : Hid (h.length = 32)) (hhb : Hid (bytesB h = true)) (hQ : Q < 9223372036854775808) (hf : Hid (fewB yn bn rows = true)) (h1 : xn ≤ 30) (h2 : kn ≤ 30) (h3 : s.size ≤ 60) (h4 : o.size ≤ 60) (hhh : Hid (holdsB P Q G ys rows xs = true)) (h5 : kn = xn) (hks : Hid (ks.all (scB Q) = false)) (w : World) (hv : Hid (Vars w)) (hd : Hid (VarsD w)) (hY : Hid (Sl w Y ys)) (hB : Hid (Rw w B rows)) (hX : Hid (Sl w X xs)) (hK : Hid (Sl w K ks)) :
    Calls Tryz.prog 4 #[gv P Q G, relV Y yn yc B bn bc, .slice X xn xc, .slice K kn kc, .int .u32 c, .string s, .string o, .agg (tcs h dc)] w fun e' w' => e' = .returned (.bool true) ∧ Below w.heap.size w w' := by
  have d1 : decide ((30 : Int) < (xn : Int)) = false := by simp; omega
  have d2 : decide ((30 : Int) < (kn : Int)) = false := by simp; omega
  have d3 : decide ((60 : Int) < (s.size : Int)) = false := by simp; omega
  have d4 : decide ((60 : Int) < (o.size : Int)) = false := by simp; omega
  subst h5
  have d5 : ((kn : Int) != (kn : Int)) = false := by simp
  obtain ⟨w0, hW⟩ : ∃ W, (((w.alloc (gObj P Q G)).alloc (relO Y yn yc B bn bc)).alloc (.cells (tcs h dc) 39)) = W := ⟨_, rfl⟩
  have HBw : Hid (Below w.heap.size w w0) := Lib.hid (by rw [← hW]; exact (((Below.refl _ _).alloc (Nat.le_refl _) _).alloc (by simp) _).alloc (by simp; omega) _)
  have hc : w0.cell? ⟨w.heap.size, 0, none⟩ = some (.int .i64 P) ∧ w0.cell? ⟨w.heap.size, 1, none⟩ = some (.int .i64 Q) ∧ w0.cell? ⟨w.heap.size, 2, none⟩ = some (.int .i64 G) ∧ w0.cell? ⟨w.heap.size + 1, 0, none⟩ = some (.slice Y yn yc) ∧ w0.cell? ⟨w.heap.size + 1, 1, none⟩ = some (.slice B bn bc) := by rw [← hW]; exact ⟨cell_below (cell_below (allocs_cell (by simp) (by rfl)) (below_box0 _ _)) (below_box0 _ _), cell_below (cell_below (allocs_cell (by simp) (by rfl)) (below_box0 _ _)) (below_box0 _ _), cell_below (cell_below (allocs_cell (by simp) (by rfl)) (below_box0 _ _)) (below_box0 _ _), cell_below (allocs_cell (by simp) (by rfl)) (below_box0 _ _), cell_below (allocs_cell (by simp) (by rfl)) (below_box0 _ _)⟩
  have kC := Lib.hid (show ∀ u : World, Hid (Below w0.heap.size w0 u) → u.cell? ⟨w.heap.size, 0, none⟩ = some (.int .i64 P) ∧ u.cell? ⟨w.heap.size, 1, none⟩ = some (.int .i64 Q) ∧ u.cell? ⟨w.heap.size, 2, none⟩ = some (.int .i64 G) ∧ u.cell? ⟨w.heap.size + 1, 0, none⟩ = some (.slice Y yn yc) ∧ u.cell? ⟨w.heap.size + 1, 1, none⟩ = some (.slice B bn bc) from fun u h => ⟨cell_below hc.1 h.out, cell_below hc.2.1 h.out, cell_below hc.2.2.1 h.out, cell_below hc.2.2.2.1 h.out, cell_below hc.2.2.2.2 h.out⟩)
  have kV := Lib.hid (show ∀ u : World, Hid (Below w0.heap.size w0 u) → Hid (Vars u) from fun u h => Lib.hid ((hv.out.below) (below_ext HBw.out h.out)))
  have kD := Lib.hid (show ∀ u : World, Hid (Below w0.heap.size w0 u) → Hid (VarsD u) from fun u h => Lib.hid ((hd.out.below) (below_ext HBw.out h.out)))
  have kY := Lib.hid (show ∀ u : World, Hid (Below w0.heap.size w0 u) → Hid (Sl u Y ys) from fun u h => Lib.hid ((hY.out.below) (below_ext HBw.out h.out)))
  have kB := Lib.hid (show ∀ u : World, Hid (Below w0.heap.size w0 u) → Hid (Rw u B rows) from fun u h => Lib.hid ((hB.out.below) (below_ext HBw.out h.out)))
  have kX := Lib.hid (show ∀ u : World, Hid (Below w0.heap.size w0 u) → Hid (Sl u X xs) from fun u h => Lib.hid ((hX.out.below) (below_ext HBw.out h.out)))
  have kK := Lib.hid (show ∀ u : World, Hid (Below w0.heap.size w0 u) → Hid (Sl u K ks) from fun u h => Lib.hid ((hK.out.below) (below_ext HBw.out h.out)))
  have HB_0 : Hid (Below w0.heap.size w0 w0) := Lib.hid (Below.refl _ _)
  have HW := Lib.hid hW
  clear hW hc hv hd hY hB hX hK
  have HT0 : Hid (DBlk w0 (w.heap.size + 2) h dc) := Lib.hid (by rw [← HW.out, show w.heap.size + 2 = ((w.alloc (gObj P Q G)).alloc (relO Y yn yc B bn bc)).heap.size by simp]; exact heap_alloc_new _ _)
  have kT := Lib.hid (show ∀ u : World, Hid (Below w0.heap.size w0 u) → Hid (DBlk u (w.heap.size + 2) h dc) from fun u hh => Lib.hid (HT0.out.below hh.out))
  go_enter Tryz.func4, Tryz.ntmps4
  go_upto_region 1 with (fail)
  rw [HW.out]
  obtain ⟨zc0, zc1, zc2, zc3, zc4⟩ := kC.out _ HB_0
  go_wp2_with fail
  refine (awake17 _ (kV.out _ HB_0)).mono ?_
  rintro e w1 ⟨rfl, hb0⟩
  have HB_1 := Lib.hid (below_ext HB_0.out hb0)
  clear zc0 zc1 zc2 zc3 zc4
  clear hb0
  obtain ⟨zc0, zc1, zc2, zc3, zc4⟩ := kC.out _ HB_1
  go_wp2_with fail
  refine (few_any Y yn yc B rows bn bc true hf hbn _ (kB.out _ HB_1)).mono ?_
  rintro e w2 ⟨rfl, hb0⟩
  have HB_2 := Lib.hid (below_ext HB_1.out hb0)
  clear zc0 zc1 zc2 zc3 zc4
  clear hb0
  obtain ⟨zc0, zc1, zc2, zc3, zc4⟩ := kC.out _ HB_2
  go_wp2_with fail
  refine (rholds_any P Q G Y ys yn yc B rows bn bc X xs kn xc true hhh hyn hbn hxn (by omega) hQ _ (kY.out _ HB_2) (kB.out _ HB_2) (kX.out _ HB_2)).mono ?_
  rintro e w3 ⟨rfl, hb0⟩
  have HB_3 := Lib.hid (below_ext HB_2.out hb0)
  clear zc0 zc1 zc2 zc3 zc4
  clear hb0
  obtain ⟨zc0, zc1, zc2, zc3, zc4⟩ := kC.out _ HB_3
  go_wp2_with fail
  refine (rscalars_any P Q G K ks kn kc false hks hkn (by omega) _ (kK.out _ HB_3)).mono ?_
  rintro e w4 ⟨rfl, hb0⟩
  have HB_4 := Lib.hid (below_ext HB_3.out hb0)
  clear zc0 zc1 zc2 zc3 zc4
  clear hb0
  obtain ⟨zc0, zc1, zc2, zc3, zc4⟩ := kC.out _ HB_4
  have hbF := below_ext HBw.out HB_4.out
  go_wp2
  go_ret
  exact ⟨rfl, hbF⟩
end Go.Proofs.YtcmidgdhihmppaaGreatDoor
