/- Contracts and lemmas: KcB, KnA, KnC, KnF, KnG, LinK, LinO, LinP, LinQ, LcC. -/
import Derived.Deep.RegionHeld3
import Derived.Test.YtdlhodbiaoafiaaGreatDoorAp4
namespace Go.Proofs.YtdlhodbiaoafiaaGreatDoor
open Go.RowKit SpM
set_option linter.unusedVariables false
set_option linter.unusedSimpArgs false
set_option maxRecDepth 100000
set_option maxHeartbeats 12800000 in
theorem rchal16_ok (P Q G b y : Int) (A : Option Addr) (al : List Int) (na ca : Nat) (s : ByteArray) (hs : s.size ≤ 1000) (hr : Hid (labB (bys s) = true)) (hna : Hid (al.length = na)) (okg : Hid (okL [P, Q, G])) (okb : Hid (okL [b, y])) (oka : Hid (okL al))
    (hQ1 : 2 ≤ Q) (hQ2 : Q < 2305843009213693952) (V : Int) (hV : Kp (chN Q (absL (absL (absL (newL (bys s)) (bys lbGroup) [P, Q, G]) (bys lbState) [b, y]) (bys lbComm) al) (bys lbCh) = V)) (w : World) (hA : Hid (Sl w A al)) :
    Calls Tryz.prog 71 #[gv P Q G, .int .i64 b, .int .i64 y, .string s, .slice A na ca] w fun e w' => e = .returned (.int .i64 V) ∧ Below w.heap.size w w' := by
  obtain ⟨W, hW⟩ : ∃ W, w.alloc (gObj P Q G) = W := ⟨_, rfl⟩
  have HBX : Hid (Below w.heap.size w W) := Lib.hid (by rw [← hW]; exact below_box0 _ _)
  have HGX : Hid (GBox W w.heap.size P Q G) := Lib.hid (by rw [← hW]; exact gbox_alloc w P Q G)
  have HAA := Lib.hid (hA.out.below HBX.out)
  have HW := Lib.hid hW
  clear hW hA
  go_enter Tryz.func71, Tryz.ntmps71
  go_upto_region 1 with (fail)
  rw [HW.out]
  clear HW
  go_wp2_with fail
  refine (rtnew_ok s hs (lab_pos hr.out) _).mono ?_
  rintro e w1 ⟨rfl, hb1⟩
  obtain ⟨S0, hS0⟩ : ∃ S, newL (bys s) = S := ⟨_, rfl⟩
  have HS0 : Hid (St32 S0) := Lib.hid (by rw [← hS0]; exact st_new _)
  have HV0 : Kp (chN Q (absL (absL (absL S0 (bys lbGroup) [P, Q, G]) (bys lbState) [b, y]) (bys lbComm) al) (bys lbCh) = V) := ⟨by rw [← hS0]; exact hV.1⟩
  rw [hS0]
  have HL0 := Lib.hid HS0.out.1
  have HB1 := Lib.hid hb1
  clear hb1 hS0 hV
  go_upto_region 2 with ((with_reducible show wpList _ _ _ (⟨none, _, _, _, _, _⟩ :: _) _ _); refine wpList_store_row rfl 85 _ _ rfl w1.heap.size (tcs S0 0) rfl rfl _ _ (heap_alloc_new _ _) (tr_info HL0.out) (tcs_sz (h := zer 32) (c := 0) rfl HL0.out) (tcs_one _ _) ?_)
  rw [World.setRow_alloc_new]
  try simp only [Act.put]
  have hI2 : RcI W w1.heap.size S0 0 (w1.alloc (.cells (tcs S0 0) 85)) := ⟨TBlk.new _ _ _, below_ext HB1.out (below_box0 _ _)⟩
  obtain ⟨W2, hW2⟩ : ∃ u, w1.alloc (.cells (tcs S0 0) 85) = u := ⟨_, rfl⟩
  obtain ⟨a, ha⟩ : ∃ a, w1.heap.size = a := ⟨_, rfl⟩
  have hWa : W.heap.size ≤ a := by rw [← ha]; exact HB1.out.size
  rw [hW2] at hI2 ⊢
  rw [ha] at hI2 ⊢
  have HI2 := Lib.hid hI2
  clear hW2 hI2 ha HB1
  have HT2 := Lib.hid HI2.out.1
  obtain ⟨c0, c1, c2⟩ := HGX.out.below HI2.out.2
  go_wp2_with ((with_reducible show wpList _ _ _ (⟨some 18, _, _, _, _, _⟩ :: _) _ _); refine wpList_load_row rfl 85 _ rfl a rfl _ _ _ _ HT2.out Tryz.underlying85 rfl (tr_info HL0.out) ?_)
  refine (rints_st W a S0 HS0 0 (by omega) (by omega) lbGroup (by decide) labGroup (some ⟨W2.heap.size, 0, none⟩) [P, Q, G] 3 3 (Lib.hid rfl) okg _ (Lib.hid (sl_of_cells (cells3l W2 _ P Q G)))).mono ?_
  rintro e w3 ⟨rfl, hb3⟩
  obtain ⟨S1, hS1⟩ : ∃ S, absL S0 (bys lbGroup) [P, Q, G] = S := ⟨_, rfl⟩
  have HS1 : Hid (St32 S1) := Lib.hid (by rw [← hS1]; exact st_abs _ _ _)
  have HV1 : Kp (chN Q (absL (absL S1 (bys lbState) [b, y]) (bys lbComm) al) (bys lbCh) = V) := ⟨by rw [← hS1]; exact HV0.1⟩
  rw [hS1, show TrE S1 (0 + 1) 0 = .tuple #[.agg (tcs S1 1), .int .i64 0] from rfl]
  have hb3' := below_ext (below_box0 W2 (.cells #[.int .i64 P, .int .i64 Q, .int .i64 G] 3)) hb3
  have HT3 := Lib.hid (HI2.out.1.below hb3')
  have HL1 := Lib.hid HS1.out.1
  have HI3 := Lib.hid (HI2.out.step (h' := S1) (c' := 1) hb3' hWa)
  clear hb3 hb3' hS1 HV0 c0 c1 c2 HI2 HT2
  go_upto_region 3 with ((with_reducible show wpList _ _ _ (⟨none, _, _, _, _, _⟩ :: _) _ _); refine wpList_store_row rfl 85 _ _ rfl a (tcs S1 1) rfl rfl _ _ HT3.out (tr_info HL1.out) (tcs_sz HL0.out HL1.out) (tcs_one _ _) ?_)
  obtain ⟨W3, hW3⟩ : ∃ u, w3.setRow a (tcs S1 1) = u := ⟨_, rfl⟩
  rw [hW3] at HI3 ⊢
  clear hW3 HT3
  have HT3 := Lib.hid HI3.out.1
  go_wp2_with ((with_reducible show wpList _ _ _ (⟨some 30, _, _, _, _, _⟩ :: _) _ _); refine wpList_load_row rfl 85 _ rfl a rfl _ _ _ _ HT3.out Tryz.underlying85 rfl (tr_info HL1.out) ?_)
  refine (rints_st W a S1 HS1 1 (by omega) (by omega) lbState (by decide) labState (some ⟨W3.heap.size, 0, none⟩) [b, y] 2 2 (Lib.hid rfl) okb _ (Lib.hid (sl_of_cells (cells2 W3 _ b y)))).mono ?_
  rintro e w4 ⟨rfl, hb4⟩
  obtain ⟨S2, hS2⟩ : ∃ S, absL S1 (bys lbState) [b, y] = S := ⟨_, rfl⟩
  have HS2 : Hid (St32 S2) := Lib.hid (by rw [← hS2]; exact st_abs _ _ _)
  have HV2 : Kp (chN Q (absL S2 (bys lbComm) al) (bys lbCh) = V) := ⟨by rw [← hS2]; exact HV1.1⟩
  rw [hS2, show TrE S2 (1 + 1) 0 = .tuple #[.agg (tcs S2 2), .int .i64 0] from rfl]
  have hb4' := below_ext (below_box0 W3 (.cells #[.int .i64 b, .int .i64 y] 3)) hb4
  have HT4 := Lib.hid (HI3.out.1.below hb4')
  have HL2 := Lib.hid HS2.out.1
  have HI4 := Lib.hid (HI3.out.step (h' := S2) (c' := 2) hb4' hWa)
  clear hb4 hb4' hS2 HV1 HI3 HT3
  go_upto_region 4 with ((with_reducible show wpList _ _ _ (⟨none, _, _, _, _, _⟩ :: _) _ _); refine wpList_store_row rfl 85 _ _ rfl a (tcs S2 2) rfl rfl _ _ HT4.out (tr_info HL2.out) (tcs_sz HL1.out HL2.out) (tcs_one _ _) ?_)
  obtain ⟨W4, hW4⟩ : ∃ u, w4.setRow a (tcs S2 2) = u := ⟨_, rfl⟩
  rw [hW4] at HI4 ⊢
  clear hW4 HT4
  have HTk := Lib.hid HI4.out.1
  go_wp2_with ((with_reducible show wpList _ _ _ (⟨some 38, _, _, _, _, _⟩ :: _) _ _); refine wpList_load_row rfl 85 _ rfl a rfl _ _ _ _ HTk.out Tryz.underlying85 rfl (tr_info HL2.out) ?_)
  refine (rints_st W a S2 HS2 2 (by omega) (by omega) lbComm (by decide) labComm A al na ca hna oka _ (Lib.hid (HAA.out.below HI4.out.2))).mono ?_
  rintro e w6 ⟨rfl, hb6⟩
  obtain ⟨S4, hS4⟩ : ∃ S', absL S2 (bys lbComm) al = S' := ⟨_, rfl⟩
  have HS4 : Hid (St32 S4) := Lib.hid (by rw [← hS4]; exact st_abs _ _ _)
  have HV5 : Kp (chN Q S4 (bys lbCh) = V) := ⟨by rw [← hS4]; exact HV2.1⟩
  rw [hS4, show TrE S4 (2 + 1) 0 = .tuple #[.agg (tcs S4 3), .int .i64 0] from rfl]
  have HL4 := Lib.hid HS4.out.1
  have HT6 := Lib.hid (HI4.out.1.below hb6)
  have HI6 := Lib.hid (HI4.out.step (h' := S4) (c' := 3) hb6 hWa)
  clear hb6 hS4 HV2 HI4 HTk
  go_upto_region 5 with ((with_reducible show wpList _ _ _ (⟨none, _, _, _, _, _⟩ :: _) _ _); refine wpList_store_row rfl 85 _ _ rfl a (tcs S4 3) rfl rfl _ _ HT6.out (tr_info HL4.out) (tcs_sz HL2.out HL4.out) (tcs_one _ _) ?_)
  obtain ⟨W6, hW6⟩ : ∃ u, w6.setRow a (tcs S4 3) = u := ⟨_, rfl⟩
  rw [hW6] at HI6 ⊢
  clear hW6 HT6
  obtain ⟨g0, g1, g2⟩ := HGX.out.below HI6.out.2
  have HT7 := Lib.hid HI6.out.1
  go_wp2_with ((with_reducible show wpList _ _ _ (⟨some 44, _, _, _, _, _⟩ :: _) _ _); refine wpList_load_row rfl 85 _ rfl a rfl _ _ _ _ HT7.out Tryz.underlying85 rfl (tr_info HL4.out) ?_)
  refine (rchal_ok S4 HL4 (Lib.hid HS4.out.2) 3 (by omega) (by omega) lbCh (by decide) labCh Q hQ1 hQ2 _).mono ?_
  rintro e w7 ⟨rfl, hb7⟩
  obtain ⟨G4, hG4⟩ : ∃ G4, chL Q S4 (bys lbCh) = G4 := ⟨_, rfl⟩
  have HG4 : Hid (G4.length = 32) := Lib.hid (by rw [← hG4]; exact abL_len _ _ _)
  rw [hG4, HV5.1, show ChE G4 (3 + 1) V 0 = .tuple #[.agg (tcs G4 4), .int .i64 V, .int .i64 0] from rfl]
  have HB7 := Lib.hid (below_ext HBX.out (below_ext HI6.out.2 hb7))
  clear hb7 hG4 g0 g1 g2
  go_upto_region 6 with ((with_reducible show wpList _ _ _ (⟨none, _, _, _, _, _⟩ :: _) _ _); refine wpList_store_row rfl 85 _ _ rfl w7.heap.size (tcs G4 4) rfl rfl _ _ (heap_alloc_new _ _) (tr_info HG4.out) (tcs_sz (h := zer 32) (c := 0) rfl HG4.out) (tcs_one _ _) ?_)
  rw [World.setRow_alloc_new]
  try simp only [Act.put]
  have hBF := below_ext HB7.out (below_box0 w7 (.cells (tcs G4 4) 85))
  go_wp2
  go_ret
  exact ⟨rfl, hBF⟩
end Go.Proofs.YtdlhodbiaoafiaaGreatDoor
namespace Go.Proofs.YtdlhodbiaoafiaaGreatDoor
open Go.RowKit SpM
set_option linter.unusedVariables false
/-- exponents. -/
def expB (Q n : Int) : Bool := decide (0 ≤ n ∧ n < Q)
theorem expB_lo {Q n : Int} (h : expB Q n = true) : 0 ≤ n := by simp [expB] at h; exact h.1
theorem expB_hi {Q n : Int} (h : expB Q n = true) : n < Q := by simp [expB] at h; exact h.2
theorem kexp_any (P Q G n : Int) (b : Bool) (hb : Hid (expB Q n = b)) (w : World) :
    Calls Tryz.prog 133 #[gv P Q G, .int .i64 n] w fun e' w' => e' = .returned (.bool b) ∧ Below w.heap.size w w' := by
  by_cases h0 : 0 ≤ n
  · by_cases h1 : n < Q
    · obtain rfl : b = true := by rw [← hb.out]; simp [expB]; omega
      go_enter Tryz.func133, Tryz.ntmps133
      go_wp2
      go_ret
      exact ⟨rfl, below_box0 _ _⟩
    · obtain rfl : b = false := by rw [← hb.out]; simp [expB]; omega
      have d2 : decide (n < Q) = false := by simp; omega
      go_enter Tryz.func133, Tryz.ntmps133
      go_wp2
      go_ret
      exact ⟨rfl, below_box0 _ _⟩
  · obtain rfl : b = false := by rw [← hb.out]; simp [expB]; omega
    have d2 : decide (0 ≤ n) = false := by simp; omega
    go_enter Tryz.func133, Tryz.ntmps133
    go_wp2
    go_ret
    exact ⟨rfl, below_box0 _ _⟩
theorem rexp_any (P Q G n : Int) (b : Bool) (hb : Hid (expB Q n = b)) (w : World) :
    Calls Tryz.prog 135 #[gv P Q G, .int .i64 n] w fun e' w' => e' = .returned (.bool b) ∧ Below w.heap.size w w' := by
  by_cases h0 : 0 ≤ n
  · by_cases h1 : n < Q
    · obtain rfl : b = true := by rw [← hb.out]; simp [expB]; omega
      go_enter Tryz.func135, Tryz.ntmps135
      go_wp2
      go_ret
      exact ⟨rfl, below_box0 _ _⟩
    · obtain rfl : b = false := by rw [← hb.out]; simp [expB]; omega
      have d2 : decide (n < Q) = false := by simp; omega
      go_enter Tryz.func135, Tryz.ntmps135
      go_wp2
      go_ret
      exact ⟨rfl, below_box0 _ _⟩
  · obtain rfl : b = false := by rw [← hb.out]; simp [expB]; omega
    have d2 : decide (0 ≤ n) = false := by simp; omega
    go_enter Tryz.func135, Tryz.ntmps135
    go_wp2
    go_ret
    exact ⟨rfl, below_box0 _ _⟩
set_option maxHeartbeats 800000 in
theorem kbase_any (P Q G x : Int) (b : Bool) (hval : Hid (validG P Q G = true)) (hb : Hid (okB P Q x = b)) (w : World) (hv : Hid (Vars w)) :
    Calls Tryz.prog 98 #[gv P Q G, .int .i64 x] w fun e' w' => e' = .returned (.bool b) ∧ Below w.heap.size w w' := by
  obtain ⟨hp2, hp, hq3, hqp⟩ := validG_P hval.out
  have HV0 := Lib.hid (hv.out.below (below_box0 w (gObj P Q G)))
  have HX0 := Lib.hid (gbox_alloc w P Q G)
  cases h1 : x == 1 with
  | true =>
    have h2 : (x != 1) = false := by simpa using h1
    obtain rfl : b = false := by rw [← hb.out, okB, h2, Bool.false_and]
    go_enter Tryz.func98, Tryz.ntmps98
    go_wp2
    go_ret
    exact ⟨rfl, below_box0 _ _⟩
  | false =>
    have h2 : (x != 1) = true := by simp at h1 ⊢; exact h1
    have HC : Hid (conG P Q G x = b) := Lib.hid ((okB_con (G := G) hval.out h1).trans hb.out)
    go_enter Tryz.func98, Tryz.ntmps98
    go_wp2_with fail
    refine (contains_any P Q G x b HC (by omega) _ HV0).mono ?_
    rintro e w1 ⟨rfl, hb0⟩
    have hb1 := below_ext (below_box0 _ _) hb0
    clear hb0
    go_wp2
    go_ret
    exact ⟨rfl, hb1⟩
set_option maxHeartbeats 800000 in
theorem rbase_any (P Q G x : Int) (b : Bool) (hval : Hid (validG P Q G = true)) (hb : Hid (okB P Q x = b)) (w : World) :
    Calls Tryz.prog 134 #[gv P Q G, .int .i64 x] w fun e' w' => e' = .returned (.bool b) ∧ Below w.heap.size w w' := by
  obtain ⟨hp2, hp, hq3, hqp⟩ := validG_P hval.out
  cases h1 : x == 1 with
  | true =>
    have h2 : (x != 1) = false := by simpa using h1
    obtain rfl : b = false := by rw [← hb.out, okB, h2, Bool.false_and]
    go_enter Tryz.func134, Tryz.ntmps134
    go_wp2
    go_ret
    exact ⟨rfl, below_box0 _ _⟩
  | false =>
    have h2 : (x != 1) = true := by simp at h1 ⊢; exact h1
    have HC : Hid (memG P Q x = b) := Lib.hid (by rw [← hb.out, okB, h2, Bool.true_and])
    go_enter Tryz.func134, Tryz.ntmps134
    go_wp2_with fail
    refine (rmember_any P Q G x b HC hp (by omega) (by omega) _).mono ?_
    rintro e w1 ⟨rfl, hb0⟩
    have hb1 := below_ext (below_box0 _ _) hb0
    clear hb0
    go_wp2
    go_ret
    exact ⟨rfl, hb1⟩
/-- the error of a group, a base, and an element. -/
def givE (P Q G b y : Int) : Int := if validG P Q G = true then (if okB P Q b = true then (if memG P Q y = true then 0 else 2) else 2) else 1
set_option maxHeartbeats 1600000 in
theorem given_any (P Q G b y r : Int) (hr : Hid (givE P Q G b y = r)) (hQ : Q < 9223372036854775808) (w : World) :
    Calls Tryz.prog 100 #[gv P Q G, .int .i64 b, .int .i64 y] w fun e' w' => e' = .returned (.int .i64 r) ∧ Below w.heap.size w w' := by
  have HX0 := Lib.hid (gbox_alloc w P Q G)
  cases hval : validG P Q G with
  | false =>
    obtain rfl : r = 1 := by rw [← hr.out, givE, hval]; rfl
    have HV : Hid (validG P Q G = false) := hval
    clear hval hr
    go_enter Tryz.func100, Tryz.ntmps100
    go_wp2_with fail
    refine (rvalid_any P Q G false HV hQ _).mono ?_
    rintro e w1 ⟨rfl, hb0⟩
    have hb1 := below_ext (below_box0 _ _) hb0
    clear hb0
    go_wp2
    go_ret
    exact ⟨rfl, hb1⟩
  | true =>
    obtain ⟨hp2, hp, hq3, hqp⟩ := validG_P hval
    have HV : Hid (validG P Q G = true) := hval
    cases hk : okB P Q b with
    | false =>
      obtain rfl : r = 2 := by rw [← hr.out, givE, hval, hk]; rfl
      have HK : Hid (okB P Q b = false) := hk
      clear hval hr hk
      go_enter Tryz.func100, Tryz.ntmps100
      go_wp2_with fail
      refine (rvalid_any P Q G true HV hQ _).mono ?_
      rintro e w1 ⟨rfl, hb0⟩
      have hb1 := below_ext (below_box0 _ _) hb0
      have HX1 := Lib.hid (HX0.out.below hb0)
      clear hb0
      obtain ⟨c0, c1, c2⟩ := HX1.out
      go_wp2_with fail
      refine (rbase_any P Q G b false HV HK _).mono ?_
      rintro e w2 ⟨rfl, hb0⟩
      have hb2 := below_ext hb1 hb0
      clear hb0
      go_wp2
      go_ret
      exact ⟨rfl, hb2⟩
    | true =>
      have HK : Hid (okB P Q b = true) := hk
      cases hm : memG P Q y with
      | false =>
        obtain rfl : r = 2 := by rw [← hr.out, givE, hval, hk, hm]; rfl
        have HM : Hid (memG P Q y = false) := hm
        clear hval hr hk hm
        go_enter Tryz.func100, Tryz.ntmps100
        go_wp2_with fail
        refine (rvalid_any P Q G true HV hQ _).mono ?_
        rintro e w1 ⟨rfl, hb0⟩
        have hb1 := below_ext (below_box0 _ _) hb0
        have HX1 := Lib.hid (HX0.out.below hb0)
        clear hb0
        obtain ⟨c0, c1, c2⟩ := HX1.out
        go_wp2_with fail
        refine (rbase_any P Q G b true HV HK _).mono ?_
        rintro e w2 ⟨rfl, hb0⟩
        have hb2 := below_ext hb1 hb0
        have HX2 := Lib.hid (HX1.out.below hb0)
        clear c0 c1 c2 hb0
        obtain ⟨c0, c1, c2⟩ := HX2.out
        go_wp2_with fail
        refine (rmember_any P Q G y false HM hp (by omega) hQ _).mono ?_
        rintro e w3 ⟨rfl, hb0⟩
        have hb3 := below_ext hb2 hb0
        clear hb0
        go_wp2
        go_ret
        exact ⟨rfl, hb3⟩
      | true =>
        obtain rfl : r = 0 := by rw [← hr.out, givE, hval, hk, hm]; rfl
        have HM : Hid (memG P Q y = true) := hm
        clear hval hr hk hm
        go_enter Tryz.func100, Tryz.ntmps100
        go_wp2_with fail
        refine (rvalid_any P Q G true HV hQ _).mono ?_
        rintro e w1 ⟨rfl, hb0⟩
        have hb1 := below_ext (below_box0 _ _) hb0
        have HX1 := Lib.hid (HX0.out.below hb0)
        clear hb0
        obtain ⟨c0, c1, c2⟩ := HX1.out
        go_wp2_with fail
        refine (rbase_any P Q G b true HV HK _).mono ?_
        rintro e w2 ⟨rfl, hb0⟩
        have hb2 := below_ext hb1 hb0
        have HX2 := Lib.hid (HX1.out.below hb0)
        clear c0 c1 c2 hb0
        obtain ⟨c0, c1, c2⟩ := HX2.out
        go_wp2_with fail
        refine (rmember_any P Q G y true HM hp (by omega) hQ _).mono ?_
        rintro e w3 ⟨rfl, hb0⟩
        have hb3 := below_ext hb2 hb0
        clear hb0
        go_wp2
        go_ret
        exact ⟨rfl, hb3⟩
theorem okB_mem {P Q b : Int} (h : okB P Q b = true) : memG P Q b = true := by simp [okB] at h; exact h.2
end Go.Proofs.YtdlhodbiaoafiaaGreatDoor
namespace Go.Proofs.YtdlhodbiaoafiaaGreatDoor
open Go.RowKit SpM
set_option linter.unusedVariables false
abbrev pObj : Obj := .cells #[.slice none 0 0, .int .i64 0, .slice none 0 0] 28
/-- a block for a proof that is handed back. -/
def RBlk (w : World) (a : Nat) : Prop := w.heap[a]? = some pObj
theorem RBlk.lt {w : World} {a : Nat} (h : RBlk w a) : a < w.heap.size := by
  unfold RBlk at h
  exact (Array.getElem?_eq_some_iff.1 h).1
theorem RBlk.below {w w' : World} {a : Nat} (h : RBlk w a) (hb : Below w.heap.size w w') : RBlk w' a := (hb.block a h.lt).trans h
end Go.Proofs.YtdlhodbiaoafiaaGreatDoor
namespace Go.Proofs.YtdlhodbiaoafiaaGreatDoor
open Go.RowKit SpM
set_option linter.unusedVariables false
set_option linter.unusedSimpArgs false
/-- a proof as a value, and in a box. -/
abbrev prv (pa : Option Addr) (na ca : Nat) (C : Int) (pz : Option Addr) (nz cz : Nat) : Value := .agg #[.slice pa na ca, .int .i64 C, .slice pz nz cz]
abbrev prObj (pa : Option Addr) (na ca : Nat) (C : Int) (pz : Option Addr) (nz cz : Nat) : Obj := .cells #[.slice pa na ca, .int .i64 C, .slice pz nz cz] 28
def PBox (w : World) (a : Nat) (x y z : Value) : Prop := w.cell? ⟨a, 0, none⟩ = some x ∧ w.cell? ⟨a, 1, none⟩ = some y ∧ w.cell? ⟨a, 2, none⟩ = some z
theorem PBox.below {w w' : World} {a : Nat} {x y z : Value} (h : PBox w a x y z) (hb : Below w.heap.size w w') : PBox w' a x y z :=
  ⟨(hb.cell (World.block_lt_of_cell? _ _ h.1)).trans h.1, (hb.cell (World.block_lt_of_cell? _ _ h.2.1)).trans h.2.1, (hb.cell (World.block_lt_of_cell? _ _ h.2.2)).trans h.2.2⟩
theorem pbox_alloc (w : World) (o : Obj) (T : TypeId) (x y z : Value) : PBox ((w.alloc o).alloc (.cells #[x, y, z] T)) (w.heap.size + 1) x y z := by
  have e : (w.alloc o).heap.size = w.heap.size + 1 := by simp
  rw [← e]
  exact ⟨World.cell?_alloc_at _ _ _ _ rfl, World.cell?_alloc_at _ _ _ _ rfl, World.cell?_alloc_at _ _ _ _ rfl⟩
theorem cell_belowK {w w' : World} {p : Addr} {v : Value} (h : w.cell? p = some v) (hb : Below w.heap.size w w') : w'.cell? p = some v := (hb.cell (World.block_lt_of_cell? _ _ h)).trans h
/-- a slice of one number, if its length is 1. -/
def One (w : World) (p : Option Addr) (n : Nat) (x : Int) : Prop := n = 1 → ∃ b o, p = some ⟨b, o, none⟩ ∧ w.cell? ⟨b, o, none⟩ = some (.int .i64 x)
theorem One.below {w w' : World} {p : Option Addr} {n : Nat} {x : Int} (h : One w p n x) (hb : Below w.heap.size w w') : One w' p n x := fun e => by
  obtain ⟨b, o, h1, h2⟩ := h e
  exact ⟨b, o, h1, cell_belowK h2 hb⟩
/-- well-formed proofs of valid groups. -/
def formB (P Q : Int) (na : Nat) (a0 C : Int) (nz : Nat) (z0 : Int) : Bool := na == 1 && (nz == 1 && (memG P Q a0 && (expB Q C && expB Q z0)))
set_option maxHeartbeats 1600000 in
theorem formed_0 (P Q G : Int) (pa : Option Addr) (na ca : Nat) (a0 C : Int) (pz : Option Addr) (nz cz : Nat) (z0 : Int) (hna : ((na : Int) == 1) = false) (hval : Hid (validG P Q G = true)) (hQ : Q < 9223372036854775808) (w : World) (hv : Hid (Vars w)) :
    Calls Tryz.prog 99 #[gv P Q G, prv pa na ca C pz nz cz] w fun e' w' => e' = .returned (.bool false) ∧ Below w.heap.size w w' := by
  have HP : Hid (PBox ((w.alloc (gObj P Q G)).alloc (prObj pa na ca C pz nz cz)) (w.heap.size + 1) (.slice pa na ca) (.int .i64 C) (.slice pz nz cz)) := Lib.hid (pbox_alloc w _ _ _ _ _)
  go_enter Tryz.func99, Tryz.ntmps99
  go_wp2_with fail
  go_quiet (fail)
  go_wp2
  go_ret
  exact ⟨rfl, below_drawN (below_two (Below.refl _ _)) _⟩
set_option maxHeartbeats 1600000 in
theorem formed_1 (P Q G : Int) (ba oa ca : Nat) (a0 C : Int) (pz : Option Addr) (nz cz : Nat) (z0 : Int) (hA : Hid (conG P Q G a0 = false)) (hval : Hid (validG P Q G = true)) (hQ : Q < 9223372036854775808) (w : World) (hv : Hid (Vars w)) (ha : Hid (w.cell? ⟨ba, oa, none⟩ = some (.int .i64 a0))) :
    Calls Tryz.prog 99 #[gv P Q G, prv (some ⟨ba, oa, none⟩) 1 ca C pz nz cz] w fun e' w' => e' = .returned (.bool false) ∧ Below w.heap.size w w' := by
  obtain ⟨hp2, hp, hq3, hqp⟩ := validG_P hval.out
  obtain ⟨W, hW⟩ : ∃ W, (w.alloc (gObj P Q G)).alloc (prObj (some ⟨ba, oa, none⟩) 1 ca C pz nz cz) = W := ⟨_, rfl⟩
  have HB : Hid (Below w.heap.size w W) := Lib.hid (by rw [← hW]; exact below_two (Below.refl _ _))
  have HX : Hid (GBox W w.heap.size P Q G) := Lib.hid (by rw [← hW]; exact (gbox_alloc w P Q G).below (below_box0 _ _))
  have HP : Hid (PBox W (w.heap.size + 1) (.slice (some ⟨ba, oa, none⟩) 1 ca) (.int .i64 C) (.slice pz nz cz)) := Lib.hid (by rw [← hW]; exact pbox_alloc w _ _ _ _ _)
  have HA : Hid (W.cell? ⟨ba, oa, none⟩ = some (.int .i64 a0)) := Lib.hid (cell_belowK ha.out HB.out)
  have HS : Hid (∀ w1 w2 : World, Hid (Below W.heap.size W w1) → Below w1.heap.size w1 w2 → (w2.cell? ⟨w.heap.size, 0, none⟩ = some (.int .i64 P) ∧ w2.cell? ⟨w.heap.size, 1, none⟩ = some (.int .i64 Q) ∧ w2.cell? ⟨w.heap.size, 2, none⟩ = some (.int .i64 G) ∧ w2.cell? ⟨w.heap.size + 1, 0, none⟩ = some (.slice (some ⟨ba, oa, none⟩) 1 ca) ∧ w2.cell? ⟨w.heap.size + 1, 1, none⟩ = some (.int .i64 C) ∧ w2.cell? ⟨w.heap.size + 1, 2, none⟩ = some (.slice pz nz cz) ∧ w2.cell? ⟨ba, oa, none⟩ = some (.int .i64 a0) ∧ Hid (Below W.heap.size W w2))) :=
    Lib.hid (fun w1 w2 h1 h2 => have h3 := below_ext h1.out h2; ⟨(HX.out.below h3).1, (HX.out.below h3).2.1, (HX.out.below h3).2.2, (HP.out.below h3).1, (HP.out.below h3).2.1, (HP.out.below h3).2.2, cell_belowK HA.out h3, Lib.hid h3⟩)
  have HB0 : Hid (Below W.heap.size W W) := Lib.hid (Below.refl _ _)
  have HV : Hid (Vars W) := Lib.hid (hv.out.below HB.out)
  have HVS : Hid (∀ w1 : World, Hid (Below W.heap.size W w1) → Hid (Vars w1)) := Lib.hid (fun w1 h1 => Lib.hid (HV.out.below h1.out))
  have HW := Lib.hid hW
  clear hW
  go_enter Tryz.func99, Tryz.ntmps99
  go_wp2_with fail
  rw [HW.out]
  refine wp_region_held_drew (S := fun w' => w'.cell? ⟨w.heap.size, 0, none⟩ = some (.int .i64 P) ∧ w'.cell? ⟨w.heap.size, 1, none⟩ = some (.int .i64 Q) ∧ w'.cell? ⟨w.heap.size, 2, none⟩ = some (.int .i64 G) ∧ w'.cell? ⟨w.heap.size + 1, 0, none⟩ = some (.slice (some ⟨ba, oa, none⟩) 1 ca) ∧ w'.cell? ⟨w.heap.size + 1, 1, none⟩ = some (.int .i64 C) ∧ w'.cell? ⟨w.heap.size + 1, 2, none⟩ = some (.slice pz nz cz) ∧ w'.cell? ⟨ba, oa, none⟩ = some (.int .i64 a0) ∧ Hid (Below W.heap.size W w')) (by kernel_rfl) (HS.out _ _ HB0 ((Below.refl W.heap.size W).drew)) (fun hHeld => ?_)
  refine wpAnyH_take (i := 0) (oi := _) (v := ?_) rfl (by kernel_rfl) (by kernel_rfl) (by kernel_rfl) (fun _ _ _ h => h) (Or.inl ⟨by rfl, ?_⟩) (by assumption) ?_
  rotate_left; (intro wS hSw; (try dsimp only at hSw); go_simp <;> with_reducible rfl)
  try simp only [List.getElem_toArray, List.getElem_cons_zero, List.getElem_cons_succ, Act.put, List.setIfInBounds_toArray, List.set_cons_zero, List.set_cons_succ]
  refine wpAnyH_take (i := 1) (oi := _) (v := ?_) rfl (by kernel_rfl) (by kernel_rfl) (by kernel_rfl) (fun _ _ _ h => h) (Or.inl ⟨by rfl, ?_⟩) (by assumption) ?_
  rotate_left; (intro wS hSw; (try dsimp only at hSw); go_simp <;> with_reducible rfl)
  try simp only [List.getElem_toArray, List.getElem_cons_zero, List.getElem_cons_succ, Act.put, List.setIfInBounds_toArray, List.set_cons_zero, List.set_cons_succ]
  refine wpAnyH_take (i := 2) (oi := _) (v := ?_) rfl (by kernel_rfl) (by kernel_rfl) (by kernel_rfl) (fun _ _ _ h => h) (Or.inl ⟨by rfl, ?_⟩) (by assumption) ?_
  rotate_left; (intro wS hSw; (try dsimp only at hSw); go_simp <;> with_reducible rfl)
  try simp only [List.getElem_toArray, List.getElem_cons_zero, List.getElem_cons_succ, Act.put, List.setIfInBounds_toArray, List.set_cons_zero, List.set_cons_succ]
  refine wpAnyH_take (i := 3) (oi := _) (v := ?_) rfl (by kernel_rfl) (by kernel_rfl) (by kernel_rfl) (fun _ _ _ h => h) (Or.inl ⟨by rfl, ?_⟩) (by assumption) ?_
  rotate_left; (intro wS hSw; (try dsimp only at hSw); go_simp <;> with_reducible rfl)
  try simp only [List.getElem_toArray, List.getElem_cons_zero, List.getElem_cons_succ, Act.put, List.setIfInBounds_toArray, List.set_cons_zero, List.set_cons_succ]
  refine wpAnyH_take (i := 4) (oi := _) (v := ?_) rfl (by kernel_rfl) (by kernel_rfl) (by kernel_rfl) (fun _ _ _ h => h) (Or.inl ⟨by rfl, ?_⟩) (by assumption) ?_
  rotate_left; (intro wS hSw; (try dsimp only at hSw); go_simp <;> with_reducible rfl)
  try simp only [List.getElem_toArray, List.getElem_cons_zero, List.getElem_cons_succ, Act.put, List.setIfInBounds_toArray, List.set_cons_zero, List.set_cons_succ]
  refine wpAnyH_take (i := 5) (oi := _) (v := ?_) rfl (by kernel_rfl) (by kernel_rfl) (by kernel_rfl) (fun _ _ _ h => h) (Or.inl ⟨by rfl, ?_⟩) (by assumption) ?_
  rotate_left; (intro wS hSw; (try dsimp only at hSw); go_simp <;> with_reducible rfl)
  try simp only [List.getElem_toArray, List.getElem_cons_zero, List.getElem_cons_succ, Act.put, List.setIfInBounds_toArray, List.set_cons_zero, List.set_cons_succ]
  refine wpAnyH_take (i := 6) (oi := _) (v := ?_) rfl (by kernel_rfl) (by kernel_rfl) (by kernel_rfl) (fun _ _ _ h => h) (Or.inl ⟨by rfl, ?_⟩) (by assumption) ?_
  rotate_left; (intro wS hSw; (try dsimp only at hSw); go_simp <;> with_reducible rfl)
  try simp only [List.getElem_toArray, List.getElem_cons_zero, List.getElem_cons_succ, Act.put, List.setIfInBounds_toArray, List.set_cons_zero, List.set_cons_succ]
  refine wpAnyH_take (i := 7) (oi := _) (v := ?_) rfl (by kernel_rfl) (by kernel_rfl) (by kernel_rfl) (fun _ _ _ h => h) (Or.inl ⟨by rfl, ?_⟩) (by assumption) ?_
  rotate_left; (intro wS hSw; (try dsimp only at hSw); go_simp <;> with_reducible rfl)
  try simp only [List.getElem_toArray, List.getElem_cons_zero, List.getElem_cons_succ, Act.put, List.setIfInBounds_toArray, List.set_cons_zero, List.set_cons_succ]
  refine wpAnyH_take (i := 8) (oi := _) (v := ?_) rfl (by kernel_rfl) (by kernel_rfl) (by kernel_rfl) (fun _ _ _ h => h) (Or.inl ⟨by rfl, ?_⟩) (by assumption) ?_
  rotate_left; (intro wS hSw; (try dsimp only at hSw); go_simp <;> with_reducible rfl)
  try simp only [List.getElem_toArray, List.getElem_cons_zero, List.getElem_cons_succ, Act.put, List.setIfInBounds_toArray, List.set_cons_zero, List.set_cons_succ]
  refine wpAnyH_take (i := 9) (oi := _) (v := ?_) rfl (by kernel_rfl) (by kernel_rfl) (by kernel_rfl) (fun _ _ _ h => h) (Or.inl ⟨by rfl, ?_⟩) (by assumption) ?_
  rotate_left; (intro wS hSw; (try dsimp only at hSw); go_simp <;> with_reducible rfl)
  try simp only [List.getElem_toArray, List.getElem_cons_zero, List.getElem_cons_succ, Act.put, List.setIfInBounds_toArray, List.set_cons_zero, List.set_cons_succ]
  refine wpAnyH_ready (rs := [10]) (by kernel_rfl) (by simp) ?_
  refine AllReadyH.cons rfl (fun K hK => ?_) AllReadyH.nil
  go_simp
  (go_at_call 65; (refine (contains_any P Q G a0 false hA hQ _ ?_).mono ?_); rotate_left; rintro e wA ⟨rfl, hbA⟩; rotate_left; (go_split_ands; exact HVS.out _ (by assumption)))
  refine hK.out _ _ ?_ (fun hHeld => ?_)
  · (go_split_ands; exact HS.out _ _ (by assumption) hbA)
  clear hK K
  try simp only [List.getElem_toArray, List.getElem_cons_zero, List.getElem_cons_succ, Act.put, List.setIfInBounds_toArray, List.set_cons_zero, List.set_cons_succ]
  refine wpAnyH_take (i := 11) (oi := _) (v := ?_) rfl (by kernel_rfl) (by kernel_rfl) (by kernel_rfl) (fun _ _ _ h => h) (Or.inl ⟨by rfl, ?_⟩) (by assumption) ?_
  rotate_left; (intro wS hSw; (try dsimp only at hSw); go_simp <;> with_reducible rfl)
  try simp only [List.getElem_toArray, List.getElem_cons_zero, List.getElem_cons_succ, Act.put, List.setIfInBounds_toArray, List.set_cons_zero, List.set_cons_succ]
  refine wpAnyH_take (i := 12) (oi := _) (v := ?_) rfl (by kernel_rfl) (by kernel_rfl) (by kernel_rfl) (fun _ _ _ h => h) (Or.inl ⟨by rfl, ?_⟩) (by assumption) ?_
  rotate_left; (intro wS hSw; (try dsimp only at hSw); go_simp <;> with_reducible rfl)
  try simp only [List.getElem_toArray, List.getElem_cons_zero, List.getElem_cons_succ, Act.put, List.setIfInBounds_toArray, List.set_cons_zero, List.set_cons_succ]
  refine wpAnyH_take (i := 13) (oi := _) (v := undef) rfl (by kernel_rfl) (by kernel_rfl) (by kernel_rfl) (fun _ _ _ h => h) (Or.inr ⟨by rfl, rfl⟩) (by assumption) ?_
  try simp only [List.getElem_toArray, List.getElem_cons_zero, List.getElem_cons_succ, Act.put, List.setIfInBounds_toArray, List.set_cons_zero, List.set_cons_succ]
  refine wpAnyH_take (i := 14) (oi := _) (v := undef) rfl (by kernel_rfl) (by kernel_rfl) (by kernel_rfl) (fun _ _ _ h => h) (Or.inr ⟨by rfl, rfl⟩) (by assumption) ?_
  try simp only [List.getElem_toArray, List.getElem_cons_zero, List.getElem_cons_succ, Act.put, List.setIfInBounds_toArray, List.set_cons_zero, List.set_cons_succ]
  refine wpAnyH_take (i := 15) (oi := _) (v := undef) rfl (by kernel_rfl) (by kernel_rfl) (by kernel_rfl) (fun _ _ _ h => h) (Or.inr ⟨by rfl, rfl⟩) (by assumption) ?_
  try simp only [List.getElem_toArray, List.getElem_cons_zero, List.getElem_cons_succ, Act.put, List.setIfInBounds_toArray, List.set_cons_zero, List.set_cons_succ]
  refine wpAnyH_take (i := 16) (oi := _) (v := undef) rfl (by kernel_rfl) (by kernel_rfl) (by kernel_rfl) (fun _ _ _ h => h) (Or.inr ⟨by rfl, rfl⟩) (by assumption) ?_
  try simp only [List.getElem_toArray, List.getElem_cons_zero, List.getElem_cons_succ, Act.put, List.setIfInBounds_toArray, List.set_cons_zero, List.set_cons_succ]
  refine wpAnyH_take (i := 17) (oi := _) (v := ?_) rfl (by kernel_rfl) (by kernel_rfl) (by kernel_rfl) (fun _ _ _ h => h) (Or.inl ⟨by rfl, ?_⟩) (by assumption) ?_
  rotate_left; (intro wS hSw; (try dsimp only at hSw); go_simp <;> with_reducible rfl)
  try simp only [List.getElem_toArray, List.getElem_cons_zero, List.getElem_cons_succ, Act.put, List.setIfInBounds_toArray, List.set_cons_zero, List.set_cons_succ]
  refine wpAnyH_take (i := 18) (oi := _) (v := ?_) rfl (by kernel_rfl) (by kernel_rfl) (by kernel_rfl) (fun _ _ _ h => h) (Or.inl ⟨by rfl, ?_⟩) (by assumption) ?_
  rotate_left; (intro wS hSw; (try dsimp only at hSw); go_simp <;> with_reducible rfl)
  try simp only [List.getElem_toArray, List.getElem_cons_zero, List.getElem_cons_succ, Act.put, List.setIfInBounds_toArray, List.set_cons_zero, List.set_cons_succ]
  refine wpAnyH_take (i := 19) (oi := _) (v := undef) rfl (by kernel_rfl) (by kernel_rfl) (by kernel_rfl) (fun _ _ _ h => h) (Or.inr ⟨by rfl, rfl⟩) (by assumption) ?_
  try simp only [List.getElem_toArray, List.getElem_cons_zero, List.getElem_cons_succ, Act.put, List.setIfInBounds_toArray, List.set_cons_zero, List.set_cons_succ]
  refine wpAnyH_take (i := 20) (oi := _) (v := undef) rfl (by kernel_rfl) (by kernel_rfl) (by kernel_rfl) (fun _ _ _ h => h) (Or.inr ⟨by rfl, rfl⟩) (by assumption) ?_
  try simp only [List.getElem_toArray, List.getElem_cons_zero, List.getElem_cons_succ, Act.put, List.setIfInBounds_toArray, List.set_cons_zero, List.set_cons_succ]
  refine wpAnyH_take (i := 21) (oi := _) (v := undef) rfl (by kernel_rfl) (by kernel_rfl) (by kernel_rfl) (fun _ _ _ h => h) (Or.inr ⟨by rfl, rfl⟩) (by assumption) ?_
  try simp only [List.getElem_toArray, List.getElem_cons_zero, List.getElem_cons_succ, Act.put, List.setIfInBounds_toArray, List.set_cons_zero, List.set_cons_succ]
  refine wpAnyH_take (i := 22) (oi := _) (v := undef) rfl (by kernel_rfl) (by kernel_rfl) (by kernel_rfl) (fun _ _ _ h => h) (Or.inr ⟨by rfl, rfl⟩) (by assumption) ?_
  try simp only [List.getElem_toArray, List.getElem_cons_zero, List.getElem_cons_succ, Act.put, List.setIfInBounds_toArray, List.set_cons_zero, List.set_cons_succ]
  refine wpAnyH_take (i := 23) (oi := _) (v := ?_) rfl (by kernel_rfl) (by kernel_rfl) (by kernel_rfl) (fun _ _ _ h => h) (Or.inl ⟨by rfl, ?_⟩) (by assumption) ?_
  rotate_left; (intro wS hSw; (try dsimp only at hSw); go_simp <;> with_reducible rfl)
  try simp only [List.getElem_toArray, List.getElem_cons_zero, List.getElem_cons_succ, Act.put, List.setIfInBounds_toArray, List.set_cons_zero, List.set_cons_succ]
  refine wpAnyH_take (i := 24) (oi := _) (v := ?_) rfl (by kernel_rfl) (by kernel_rfl) (by kernel_rfl) (fun _ _ _ h => h) (Or.inl ⟨by rfl, ?_⟩) (by assumption) ?_
  rotate_left; (intro wS hSw; (try dsimp only at hSw); go_simp <;> with_reducible rfl)
  try simp only [List.getElem_toArray, List.getElem_cons_zero, List.getElem_cons_succ, Act.put, List.setIfInBounds_toArray, List.set_cons_zero, List.set_cons_succ]
  refine wpAnyH_take (i := 25) (oi := _) (v := undef) rfl (by kernel_rfl) (by kernel_rfl) (by kernel_rfl) (fun _ _ _ h => h) (Or.inr ⟨by rfl, rfl⟩) (by assumption) ?_
  try simp only [List.getElem_toArray, List.getElem_cons_zero, List.getElem_cons_succ, Act.put, List.setIfInBounds_toArray, List.set_cons_zero, List.set_cons_succ]
  refine wpAnyH_take (i := 26) (oi := _) (v := undef) rfl (by kernel_rfl) (by kernel_rfl) (by kernel_rfl) (fun _ _ _ h => h) (Or.inr ⟨by rfl, rfl⟩) (by assumption) ?_
  try simp only [List.getElem_toArray, List.getElem_cons_zero, List.getElem_cons_succ, Act.put, List.setIfInBounds_toArray, List.set_cons_zero, List.set_cons_succ]
  refine wpAnyH_take (i := 27) (oi := _) (v := undef) rfl (by kernel_rfl) (by kernel_rfl) (by kernel_rfl) (fun _ _ _ h => h) (Or.inr ⟨by rfl, rfl⟩) (by assumption) ?_
  try simp only [List.getElem_toArray, List.getElem_cons_zero, List.getElem_cons_succ, Act.put, List.setIfInBounds_toArray, List.set_cons_zero, List.set_cons_succ]
  refine wpAnyH_take (i := 28) (oi := _) (v := undef) rfl (by kernel_rfl) (by kernel_rfl) (by kernel_rfl) (fun _ _ _ h => h) (Or.inr ⟨by rfl, rfl⟩) (by assumption) ?_
  try simp only [List.getElem_toArray, List.getElem_cons_zero, List.getElem_cons_succ, Act.put, List.setIfInBounds_toArray, List.set_cons_zero, List.set_cons_succ]
  refine wpAnyH_take (i := 29) (oi := _) (v := undef) rfl (by kernel_rfl) (by kernel_rfl) (by kernel_rfl) (fun _ _ _ h => h) (Or.inr ⟨by rfl, rfl⟩) (by assumption) ?_
  try simp only [List.getElem_toArray, List.getElem_cons_zero, List.getElem_cons_succ, Act.put, List.setIfInBounds_toArray, List.set_cons_zero, List.set_cons_succ]
  refine wpAnyH_take (i := 30) (oi := _) (v := undef) rfl (by kernel_rfl) (by kernel_rfl) (by kernel_rfl) (fun _ _ _ h => h) (Or.inr ⟨by rfl, rfl⟩) (by assumption) ?_
  try simp only [List.getElem_toArray, List.getElem_cons_zero, List.getElem_cons_succ, Act.put, List.setIfInBounds_toArray, List.set_cons_zero, List.set_cons_succ]
  refine wpAnyH_take (i := 31) (oi := _) (v := ?_) rfl (by kernel_rfl) (by kernel_rfl) (by kernel_rfl) (fun _ _ _ h => h) (Or.inl ⟨by rfl, ?_⟩) (by assumption) ?_
  rotate_left; (intro wS hSw; (try dsimp only at hSw); go_simp <;> with_reducible rfl)
  try simp only [List.getElem_toArray, List.getElem_cons_zero, List.getElem_cons_succ, Act.put, List.setIfInBounds_toArray, List.set_cons_zero, List.set_cons_succ]
  refine wpAnyH_take (i := 32) (oi := _) (v := ?_) rfl (by kernel_rfl) (by kernel_rfl) (by kernel_rfl) (fun _ _ _ h => h) (Or.inl ⟨by rfl, ?_⟩) (by assumption) ?_
  rotate_left; (intro wS hSw; (try dsimp only at hSw); go_simp <;> with_reducible rfl)
  try simp only [List.getElem_toArray, List.getElem_cons_zero, List.getElem_cons_succ, Act.put, List.setIfInBounds_toArray, List.set_cons_zero, List.set_cons_succ]
  refine wpAnyH_done (by kernel_rfl) ?_ _
  obtain ⟨e0, e1, e2, e3, e4, e5, e6, HBA⟩ := hHeld
  have hbf := below_ext HB.out HBA.out
  go_wp2
  go_ret
  exact ⟨rfl, hbf⟩
set_option maxHeartbeats 1600000 in
theorem formed_2 (P Q G : Int) (ba oa ca : Nat) (a0 C : Int) (pz : Option Addr) (nz cz : Nat) (z0 : Int) (hA : Hid (conG P Q G a0 = true)) (hC : Hid (expB Q C = false)) (hval : Hid (validG P Q G = true)) (hQ : Q < 9223372036854775808) (w : World) (hv : Hid (Vars w)) (ha : Hid (w.cell? ⟨ba, oa, none⟩ = some (.int .i64 a0))) :
    Calls Tryz.prog 99 #[gv P Q G, prv (some ⟨ba, oa, none⟩) 1 ca C pz nz cz] w fun e' w' => e' = .returned (.bool false) ∧ Below w.heap.size w w' := by
  obtain ⟨hp2, hp, hq3, hqp⟩ := validG_P hval.out
  obtain ⟨W, hW⟩ : ∃ W, (w.alloc (gObj P Q G)).alloc (prObj (some ⟨ba, oa, none⟩) 1 ca C pz nz cz) = W := ⟨_, rfl⟩
  have HB : Hid (Below w.heap.size w W) := Lib.hid (by rw [← hW]; exact below_two (Below.refl _ _))
  have HX : Hid (GBox W w.heap.size P Q G) := Lib.hid (by rw [← hW]; exact (gbox_alloc w P Q G).below (below_box0 _ _))
  have HP : Hid (PBox W (w.heap.size + 1) (.slice (some ⟨ba, oa, none⟩) 1 ca) (.int .i64 C) (.slice pz nz cz)) := Lib.hid (by rw [← hW]; exact pbox_alloc w _ _ _ _ _)
  have HA : Hid (W.cell? ⟨ba, oa, none⟩ = some (.int .i64 a0)) := Lib.hid (cell_belowK ha.out HB.out)
  have HS : Hid (∀ w1 w2 : World, Hid (Below W.heap.size W w1) → Below w1.heap.size w1 w2 → (w2.cell? ⟨w.heap.size, 0, none⟩ = some (.int .i64 P) ∧ w2.cell? ⟨w.heap.size, 1, none⟩ = some (.int .i64 Q) ∧ w2.cell? ⟨w.heap.size, 2, none⟩ = some (.int .i64 G) ∧ w2.cell? ⟨w.heap.size + 1, 0, none⟩ = some (.slice (some ⟨ba, oa, none⟩) 1 ca) ∧ w2.cell? ⟨w.heap.size + 1, 1, none⟩ = some (.int .i64 C) ∧ w2.cell? ⟨w.heap.size + 1, 2, none⟩ = some (.slice pz nz cz) ∧ w2.cell? ⟨ba, oa, none⟩ = some (.int .i64 a0) ∧ Hid (Below W.heap.size W w2))) :=
    Lib.hid (fun w1 w2 h1 h2 => have h3 := below_ext h1.out h2; ⟨(HX.out.below h3).1, (HX.out.below h3).2.1, (HX.out.below h3).2.2, (HP.out.below h3).1, (HP.out.below h3).2.1, (HP.out.below h3).2.2, cell_belowK HA.out h3, Lib.hid h3⟩)
  have HB0 : Hid (Below W.heap.size W W) := Lib.hid (Below.refl _ _)
  have HV : Hid (Vars W) := Lib.hid (hv.out.below HB.out)
  have HVS : Hid (∀ w1 : World, Hid (Below W.heap.size W w1) → Hid (Vars w1)) := Lib.hid (fun w1 h1 => Lib.hid (HV.out.below h1.out))
  have HW := Lib.hid hW
  clear hW
  go_enter Tryz.func99, Tryz.ntmps99
  go_wp2_with fail
  rw [HW.out]
  refine wp_region_held_drew (S := fun w' => w'.cell? ⟨w.heap.size, 0, none⟩ = some (.int .i64 P) ∧ w'.cell? ⟨w.heap.size, 1, none⟩ = some (.int .i64 Q) ∧ w'.cell? ⟨w.heap.size, 2, none⟩ = some (.int .i64 G) ∧ w'.cell? ⟨w.heap.size + 1, 0, none⟩ = some (.slice (some ⟨ba, oa, none⟩) 1 ca) ∧ w'.cell? ⟨w.heap.size + 1, 1, none⟩ = some (.int .i64 C) ∧ w'.cell? ⟨w.heap.size + 1, 2, none⟩ = some (.slice pz nz cz) ∧ w'.cell? ⟨ba, oa, none⟩ = some (.int .i64 a0) ∧ Hid (Below W.heap.size W w')) (by kernel_rfl) (HS.out _ _ HB0 ((Below.refl W.heap.size W).drew)) (fun hHeld => ?_)
  refine wpAnyH_take (i := 0) (oi := _) (v := ?_) rfl (by kernel_rfl) (by kernel_rfl) (by kernel_rfl) (fun _ _ _ h => h) (Or.inl ⟨by rfl, ?_⟩) (by assumption) ?_
  rotate_left; (intro wS hSw; (try dsimp only at hSw); go_simp <;> with_reducible rfl)
  try simp only [List.getElem_toArray, List.getElem_cons_zero, List.getElem_cons_succ, Act.put, List.setIfInBounds_toArray, List.set_cons_zero, List.set_cons_succ]
  refine wpAnyH_take (i := 1) (oi := _) (v := ?_) rfl (by kernel_rfl) (by kernel_rfl) (by kernel_rfl) (fun _ _ _ h => h) (Or.inl ⟨by rfl, ?_⟩) (by assumption) ?_
  rotate_left; (intro wS hSw; (try dsimp only at hSw); go_simp <;> with_reducible rfl)
  try simp only [List.getElem_toArray, List.getElem_cons_zero, List.getElem_cons_succ, Act.put, List.setIfInBounds_toArray, List.set_cons_zero, List.set_cons_succ]
  refine wpAnyH_take (i := 2) (oi := _) (v := ?_) rfl (by kernel_rfl) (by kernel_rfl) (by kernel_rfl) (fun _ _ _ h => h) (Or.inl ⟨by rfl, ?_⟩) (by assumption) ?_
  rotate_left; (intro wS hSw; (try dsimp only at hSw); go_simp <;> with_reducible rfl)
  try simp only [List.getElem_toArray, List.getElem_cons_zero, List.getElem_cons_succ, Act.put, List.setIfInBounds_toArray, List.set_cons_zero, List.set_cons_succ]
  refine wpAnyH_take (i := 3) (oi := _) (v := ?_) rfl (by kernel_rfl) (by kernel_rfl) (by kernel_rfl) (fun _ _ _ h => h) (Or.inl ⟨by rfl, ?_⟩) (by assumption) ?_
  rotate_left; (intro wS hSw; (try dsimp only at hSw); go_simp <;> with_reducible rfl)
  try simp only [List.getElem_toArray, List.getElem_cons_zero, List.getElem_cons_succ, Act.put, List.setIfInBounds_toArray, List.set_cons_zero, List.set_cons_succ]
  refine wpAnyH_take (i := 4) (oi := _) (v := ?_) rfl (by kernel_rfl) (by kernel_rfl) (by kernel_rfl) (fun _ _ _ h => h) (Or.inl ⟨by rfl, ?_⟩) (by assumption) ?_
  rotate_left; (intro wS hSw; (try dsimp only at hSw); go_simp <;> with_reducible rfl)
  try simp only [List.getElem_toArray, List.getElem_cons_zero, List.getElem_cons_succ, Act.put, List.setIfInBounds_toArray, List.set_cons_zero, List.set_cons_succ]
  refine wpAnyH_take (i := 5) (oi := _) (v := ?_) rfl (by kernel_rfl) (by kernel_rfl) (by kernel_rfl) (fun _ _ _ h => h) (Or.inl ⟨by rfl, ?_⟩) (by assumption) ?_
  rotate_left; (intro wS hSw; (try dsimp only at hSw); go_simp <;> with_reducible rfl)
  try simp only [List.getElem_toArray, List.getElem_cons_zero, List.getElem_cons_succ, Act.put, List.setIfInBounds_toArray, List.set_cons_zero, List.set_cons_succ]
  refine wpAnyH_take (i := 6) (oi := _) (v := ?_) rfl (by kernel_rfl) (by kernel_rfl) (by kernel_rfl) (fun _ _ _ h => h) (Or.inl ⟨by rfl, ?_⟩) (by assumption) ?_
  rotate_left; (intro wS hSw; (try dsimp only at hSw); go_simp <;> with_reducible rfl)
  try simp only [List.getElem_toArray, List.getElem_cons_zero, List.getElem_cons_succ, Act.put, List.setIfInBounds_toArray, List.set_cons_zero, List.set_cons_succ]
  refine wpAnyH_take (i := 7) (oi := _) (v := ?_) rfl (by kernel_rfl) (by kernel_rfl) (by kernel_rfl) (fun _ _ _ h => h) (Or.inl ⟨by rfl, ?_⟩) (by assumption) ?_
  rotate_left; (intro wS hSw; (try dsimp only at hSw); go_simp <;> with_reducible rfl)
  try simp only [List.getElem_toArray, List.getElem_cons_zero, List.getElem_cons_succ, Act.put, List.setIfInBounds_toArray, List.set_cons_zero, List.set_cons_succ]
  refine wpAnyH_take (i := 8) (oi := _) (v := ?_) rfl (by kernel_rfl) (by kernel_rfl) (by kernel_rfl) (fun _ _ _ h => h) (Or.inl ⟨by rfl, ?_⟩) (by assumption) ?_
  rotate_left; (intro wS hSw; (try dsimp only at hSw); go_simp <;> with_reducible rfl)
  try simp only [List.getElem_toArray, List.getElem_cons_zero, List.getElem_cons_succ, Act.put, List.setIfInBounds_toArray, List.set_cons_zero, List.set_cons_succ]
  refine wpAnyH_take (i := 9) (oi := _) (v := ?_) rfl (by kernel_rfl) (by kernel_rfl) (by kernel_rfl) (fun _ _ _ h => h) (Or.inl ⟨by rfl, ?_⟩) (by assumption) ?_
  rotate_left; (intro wS hSw; (try dsimp only at hSw); go_simp <;> with_reducible rfl)
  try simp only [List.getElem_toArray, List.getElem_cons_zero, List.getElem_cons_succ, Act.put, List.setIfInBounds_toArray, List.set_cons_zero, List.set_cons_succ]
  refine wpAnyH_ready (rs := [10]) (by kernel_rfl) (by simp) ?_
  refine AllReadyH.cons rfl (fun K hK => ?_) AllReadyH.nil
  go_simp
  (go_at_call 65; (refine (contains_any P Q G a0 true hA hQ _ ?_).mono ?_); rotate_left; rintro e wA ⟨rfl, hbA⟩; rotate_left; (go_split_ands; exact HVS.out _ (by assumption)))
  refine hK.out _ _ ?_ (fun hHeld => ?_)
  · (go_split_ands; exact HS.out _ _ (by assumption) hbA)
  clear hK K
  try simp only [List.getElem_toArray, List.getElem_cons_zero, List.getElem_cons_succ, Act.put, List.setIfInBounds_toArray, List.set_cons_zero, List.set_cons_succ]
  refine wpAnyH_take (i := 11) (oi := _) (v := ?_) rfl (by kernel_rfl) (by kernel_rfl) (by kernel_rfl) (fun _ _ _ h => h) (Or.inl ⟨by rfl, ?_⟩) (by assumption) ?_
  rotate_left; (intro wS hSw; (try dsimp only at hSw); go_simp <;> with_reducible rfl)
  try simp only [List.getElem_toArray, List.getElem_cons_zero, List.getElem_cons_succ, Act.put, List.setIfInBounds_toArray, List.set_cons_zero, List.set_cons_succ]
  refine wpAnyH_take (i := 12) (oi := _) (v := ?_) rfl (by kernel_rfl) (by kernel_rfl) (by kernel_rfl) (fun _ _ _ h => h) (Or.inl ⟨by rfl, ?_⟩) (by assumption) ?_
  rotate_left; (intro wS hSw; (try dsimp only at hSw); go_simp <;> with_reducible rfl)
  try simp only [List.getElem_toArray, List.getElem_cons_zero, List.getElem_cons_succ, Act.put, List.setIfInBounds_toArray, List.set_cons_zero, List.set_cons_succ]
  refine wpAnyH_take (i := 13) (oi := _) (v := ?_) rfl (by kernel_rfl) (by kernel_rfl) (by kernel_rfl) (fun _ _ _ h => h) (Or.inl ⟨by rfl, ?_⟩) (by assumption) ?_
  rotate_left; (intro wS hSw; (try dsimp only at hSw); go_simp <;> with_reducible rfl)
  try simp only [List.getElem_toArray, List.getElem_cons_zero, List.getElem_cons_succ, Act.put, List.setIfInBounds_toArray, List.set_cons_zero, List.set_cons_succ]
  refine wpAnyH_take (i := 14) (oi := _) (v := ?_) rfl (by kernel_rfl) (by kernel_rfl) (by kernel_rfl) (fun _ _ _ h => h) (Or.inl ⟨by rfl, ?_⟩) (by assumption) ?_
  rotate_left; (intro wS hSw; (try dsimp only at hSw); go_simp <;> with_reducible rfl)
  try simp only [List.getElem_toArray, List.getElem_cons_zero, List.getElem_cons_succ, Act.put, List.setIfInBounds_toArray, List.set_cons_zero, List.set_cons_succ]
  refine wpAnyH_take (i := 15) (oi := _) (v := ?_) rfl (by kernel_rfl) (by kernel_rfl) (by kernel_rfl) (fun _ _ _ h => h) (Or.inl ⟨by rfl, ?_⟩) (by assumption) ?_
  rotate_left; (intro wS hSw; (try dsimp only at hSw); go_simp <;> with_reducible rfl)
  try simp only [List.getElem_toArray, List.getElem_cons_zero, List.getElem_cons_succ, Act.put, List.setIfInBounds_toArray, List.set_cons_zero, List.set_cons_succ]
  refine wpAnyH_ready (rs := [16]) (by kernel_rfl) (by simp) ?_
  refine AllReadyH.cons rfl (fun K hK => ?_) AllReadyH.nil
  go_simp
  (go_at_call 133; (with_reducible refine (kexp_any P Q G C false hC _).mono ?_); rintro e wA ⟨rfl, hbA⟩)
  refine hK.out _ _ ?_ (fun hHeld => ?_)
  · (go_split_ands; exact HS.out _ _ (by assumption) hbA)
  clear hK K
  try simp only [List.getElem_toArray, List.getElem_cons_zero, List.getElem_cons_succ, Act.put, List.setIfInBounds_toArray, List.set_cons_zero, List.set_cons_succ]
  refine wpAnyH_take (i := 17) (oi := _) (v := ?_) rfl (by kernel_rfl) (by kernel_rfl) (by kernel_rfl) (fun _ _ _ h => h) (Or.inl ⟨by rfl, ?_⟩) (by assumption) ?_
  rotate_left; (intro wS hSw; (try dsimp only at hSw); go_simp <;> with_reducible rfl)
  try simp only [List.getElem_toArray, List.getElem_cons_zero, List.getElem_cons_succ, Act.put, List.setIfInBounds_toArray, List.set_cons_zero, List.set_cons_succ]
  refine wpAnyH_take (i := 18) (oi := _) (v := ?_) rfl (by kernel_rfl) (by kernel_rfl) (by kernel_rfl) (fun _ _ _ h => h) (Or.inl ⟨by rfl, ?_⟩) (by assumption) ?_
  rotate_left; (intro wS hSw; (try dsimp only at hSw); go_simp <;> with_reducible rfl)
  try simp only [List.getElem_toArray, List.getElem_cons_zero, List.getElem_cons_succ, Act.put, List.setIfInBounds_toArray, List.set_cons_zero, List.set_cons_succ]
  refine wpAnyH_take (i := 19) (oi := _) (v := undef) rfl (by kernel_rfl) (by kernel_rfl) (by kernel_rfl) (fun _ _ _ h => h) (Or.inr ⟨by rfl, rfl⟩) (by assumption) ?_
  try simp only [List.getElem_toArray, List.getElem_cons_zero, List.getElem_cons_succ, Act.put, List.setIfInBounds_toArray, List.set_cons_zero, List.set_cons_succ]
  refine wpAnyH_take (i := 20) (oi := _) (v := undef) rfl (by kernel_rfl) (by kernel_rfl) (by kernel_rfl) (fun _ _ _ h => h) (Or.inr ⟨by rfl, rfl⟩) (by assumption) ?_
  try simp only [List.getElem_toArray, List.getElem_cons_zero, List.getElem_cons_succ, Act.put, List.setIfInBounds_toArray, List.set_cons_zero, List.set_cons_succ]
  refine wpAnyH_take (i := 21) (oi := _) (v := undef) rfl (by kernel_rfl) (by kernel_rfl) (by kernel_rfl) (fun _ _ _ h => h) (Or.inr ⟨by rfl, rfl⟩) (by assumption) ?_
  try simp only [List.getElem_toArray, List.getElem_cons_zero, List.getElem_cons_succ, Act.put, List.setIfInBounds_toArray, List.set_cons_zero, List.set_cons_succ]
  refine wpAnyH_take (i := 22) (oi := _) (v := undef) rfl (by kernel_rfl) (by kernel_rfl) (by kernel_rfl) (fun _ _ _ h => h) (Or.inr ⟨by rfl, rfl⟩) (by assumption) ?_
  try simp only [List.getElem_toArray, List.getElem_cons_zero, List.getElem_cons_succ, Act.put, List.setIfInBounds_toArray, List.set_cons_zero, List.set_cons_succ]
  refine wpAnyH_take (i := 23) (oi := _) (v := ?_) rfl (by kernel_rfl) (by kernel_rfl) (by kernel_rfl) (fun _ _ _ h => h) (Or.inl ⟨by rfl, ?_⟩) (by assumption) ?_
  rotate_left; (intro wS hSw; (try dsimp only at hSw); go_simp <;> with_reducible rfl)
  try simp only [List.getElem_toArray, List.getElem_cons_zero, List.getElem_cons_succ, Act.put, List.setIfInBounds_toArray, List.set_cons_zero, List.set_cons_succ]
  refine wpAnyH_take (i := 24) (oi := _) (v := ?_) rfl (by kernel_rfl) (by kernel_rfl) (by kernel_rfl) (fun _ _ _ h => h) (Or.inl ⟨by rfl, ?_⟩) (by assumption) ?_
  rotate_left; (intro wS hSw; (try dsimp only at hSw); go_simp <;> with_reducible rfl)
  try simp only [List.getElem_toArray, List.getElem_cons_zero, List.getElem_cons_succ, Act.put, List.setIfInBounds_toArray, List.set_cons_zero, List.set_cons_succ]
  refine wpAnyH_take (i := 25) (oi := _) (v := undef) rfl (by kernel_rfl) (by kernel_rfl) (by kernel_rfl) (fun _ _ _ h => h) (Or.inr ⟨by rfl, rfl⟩) (by assumption) ?_
  try simp only [List.getElem_toArray, List.getElem_cons_zero, List.getElem_cons_succ, Act.put, List.setIfInBounds_toArray, List.set_cons_zero, List.set_cons_succ]
  refine wpAnyH_take (i := 26) (oi := _) (v := undef) rfl (by kernel_rfl) (by kernel_rfl) (by kernel_rfl) (fun _ _ _ h => h) (Or.inr ⟨by rfl, rfl⟩) (by assumption) ?_
  try simp only [List.getElem_toArray, List.getElem_cons_zero, List.getElem_cons_succ, Act.put, List.setIfInBounds_toArray, List.set_cons_zero, List.set_cons_succ]
  refine wpAnyH_take (i := 27) (oi := _) (v := undef) rfl (by kernel_rfl) (by kernel_rfl) (by kernel_rfl) (fun _ _ _ h => h) (Or.inr ⟨by rfl, rfl⟩) (by assumption) ?_
  try simp only [List.getElem_toArray, List.getElem_cons_zero, List.getElem_cons_succ, Act.put, List.setIfInBounds_toArray, List.set_cons_zero, List.set_cons_succ]
  refine wpAnyH_take (i := 28) (oi := _) (v := undef) rfl (by kernel_rfl) (by kernel_rfl) (by kernel_rfl) (fun _ _ _ h => h) (Or.inr ⟨by rfl, rfl⟩) (by assumption) ?_
  try simp only [List.getElem_toArray, List.getElem_cons_zero, List.getElem_cons_succ, Act.put, List.setIfInBounds_toArray, List.set_cons_zero, List.set_cons_succ]
  refine wpAnyH_take (i := 29) (oi := _) (v := undef) rfl (by kernel_rfl) (by kernel_rfl) (by kernel_rfl) (fun _ _ _ h => h) (Or.inr ⟨by rfl, rfl⟩) (by assumption) ?_
  try simp only [List.getElem_toArray, List.getElem_cons_zero, List.getElem_cons_succ, Act.put, List.setIfInBounds_toArray, List.set_cons_zero, List.set_cons_succ]
  refine wpAnyH_take (i := 30) (oi := _) (v := undef) rfl (by kernel_rfl) (by kernel_rfl) (by kernel_rfl) (fun _ _ _ h => h) (Or.inr ⟨by rfl, rfl⟩) (by assumption) ?_
  try simp only [List.getElem_toArray, List.getElem_cons_zero, List.getElem_cons_succ, Act.put, List.setIfInBounds_toArray, List.set_cons_zero, List.set_cons_succ]
  refine wpAnyH_take (i := 31) (oi := _) (v := ?_) rfl (by kernel_rfl) (by kernel_rfl) (by kernel_rfl) (fun _ _ _ h => h) (Or.inl ⟨by rfl, ?_⟩) (by assumption) ?_
  rotate_left; (intro wS hSw; (try dsimp only at hSw); go_simp <;> with_reducible rfl)
  try simp only [List.getElem_toArray, List.getElem_cons_zero, List.getElem_cons_succ, Act.put, List.setIfInBounds_toArray, List.set_cons_zero, List.set_cons_succ]
  refine wpAnyH_take (i := 32) (oi := _) (v := ?_) rfl (by kernel_rfl) (by kernel_rfl) (by kernel_rfl) (fun _ _ _ h => h) (Or.inl ⟨by rfl, ?_⟩) (by assumption) ?_
  rotate_left; (intro wS hSw; (try dsimp only at hSw); go_simp <;> with_reducible rfl)
  try simp only [List.getElem_toArray, List.getElem_cons_zero, List.getElem_cons_succ, Act.put, List.setIfInBounds_toArray, List.set_cons_zero, List.set_cons_succ]
  refine wpAnyH_done (by kernel_rfl) ?_ _
  obtain ⟨e0, e1, e2, e3, e4, e5, e6, HBA⟩ := hHeld
  have hbf := below_ext HB.out HBA.out
  go_wp2
  go_ret
  exact ⟨rfl, hbf⟩
set_option maxHeartbeats 1600000 in
theorem formed_3 (P Q G : Int) (ba oa ca : Nat) (a0 C : Int) (pz : Option Addr) (nz cz : Nat) (z0 : Int) (hnz : ((nz : Int) == 1) = false) (hA : Hid (conG P Q G a0 = true)) (hC : Hid (expB Q C = true)) (hval : Hid (validG P Q G = true)) (hQ : Q < 9223372036854775808) (w : World) (hv : Hid (Vars w)) (ha : Hid (w.cell? ⟨ba, oa, none⟩ = some (.int .i64 a0))) :
    Calls Tryz.prog 99 #[gv P Q G, prv (some ⟨ba, oa, none⟩) 1 ca C pz nz cz] w fun e' w' => e' = .returned (.bool false) ∧ Below w.heap.size w w' := by
  obtain ⟨hp2, hp, hq3, hqp⟩ := validG_P hval.out
  obtain ⟨W, hW⟩ : ∃ W, (w.alloc (gObj P Q G)).alloc (prObj (some ⟨ba, oa, none⟩) 1 ca C pz nz cz) = W := ⟨_, rfl⟩
  have HB : Hid (Below w.heap.size w W) := Lib.hid (by rw [← hW]; exact below_two (Below.refl _ _))
  have HX : Hid (GBox W w.heap.size P Q G) := Lib.hid (by rw [← hW]; exact (gbox_alloc w P Q G).below (below_box0 _ _))
  have HP : Hid (PBox W (w.heap.size + 1) (.slice (some ⟨ba, oa, none⟩) 1 ca) (.int .i64 C) (.slice pz nz cz)) := Lib.hid (by rw [← hW]; exact pbox_alloc w _ _ _ _ _)
  have HA : Hid (W.cell? ⟨ba, oa, none⟩ = some (.int .i64 a0)) := Lib.hid (cell_belowK ha.out HB.out)
  have HS : Hid (∀ w1 w2 : World, Hid (Below W.heap.size W w1) → Below w1.heap.size w1 w2 → (w2.cell? ⟨w.heap.size, 0, none⟩ = some (.int .i64 P) ∧ w2.cell? ⟨w.heap.size, 1, none⟩ = some (.int .i64 Q) ∧ w2.cell? ⟨w.heap.size, 2, none⟩ = some (.int .i64 G) ∧ w2.cell? ⟨w.heap.size + 1, 0, none⟩ = some (.slice (some ⟨ba, oa, none⟩) 1 ca) ∧ w2.cell? ⟨w.heap.size + 1, 1, none⟩ = some (.int .i64 C) ∧ w2.cell? ⟨w.heap.size + 1, 2, none⟩ = some (.slice pz nz cz) ∧ w2.cell? ⟨ba, oa, none⟩ = some (.int .i64 a0) ∧ Hid (Below W.heap.size W w2))) :=
    Lib.hid (fun w1 w2 h1 h2 => have h3 := below_ext h1.out h2; ⟨(HX.out.below h3).1, (HX.out.below h3).2.1, (HX.out.below h3).2.2, (HP.out.below h3).1, (HP.out.below h3).2.1, (HP.out.below h3).2.2, cell_belowK HA.out h3, Lib.hid h3⟩)
  have HB0 : Hid (Below W.heap.size W W) := Lib.hid (Below.refl _ _)
  have HV : Hid (Vars W) := Lib.hid (hv.out.below HB.out)
  have HVS : Hid (∀ w1 : World, Hid (Below W.heap.size W w1) → Hid (Vars w1)) := Lib.hid (fun w1 h1 => Lib.hid (HV.out.below h1.out))
  have HW := Lib.hid hW
  clear hW
  go_enter Tryz.func99, Tryz.ntmps99
  go_wp2_with fail
  rw [HW.out]
  refine wp_region_held_drew (S := fun w' => w'.cell? ⟨w.heap.size, 0, none⟩ = some (.int .i64 P) ∧ w'.cell? ⟨w.heap.size, 1, none⟩ = some (.int .i64 Q) ∧ w'.cell? ⟨w.heap.size, 2, none⟩ = some (.int .i64 G) ∧ w'.cell? ⟨w.heap.size + 1, 0, none⟩ = some (.slice (some ⟨ba, oa, none⟩) 1 ca) ∧ w'.cell? ⟨w.heap.size + 1, 1, none⟩ = some (.int .i64 C) ∧ w'.cell? ⟨w.heap.size + 1, 2, none⟩ = some (.slice pz nz cz) ∧ w'.cell? ⟨ba, oa, none⟩ = some (.int .i64 a0) ∧ Hid (Below W.heap.size W w')) (by kernel_rfl) (HS.out _ _ HB0 ((Below.refl W.heap.size W).drew)) (fun hHeld => ?_)
  refine wpAnyH_take (i := 0) (oi := _) (v := ?_) rfl (by kernel_rfl) (by kernel_rfl) (by kernel_rfl) (fun _ _ _ h => h) (Or.inl ⟨by rfl, ?_⟩) (by assumption) ?_
  rotate_left; (intro wS hSw; (try dsimp only at hSw); go_simp <;> with_reducible rfl)
  try simp only [List.getElem_toArray, List.getElem_cons_zero, List.getElem_cons_succ, Act.put, List.setIfInBounds_toArray, List.set_cons_zero, List.set_cons_succ]
  refine wpAnyH_take (i := 1) (oi := _) (v := ?_) rfl (by kernel_rfl) (by kernel_rfl) (by kernel_rfl) (fun _ _ _ h => h) (Or.inl ⟨by rfl, ?_⟩) (by assumption) ?_
  rotate_left; (intro wS hSw; (try dsimp only at hSw); go_simp <;> with_reducible rfl)
  try simp only [List.getElem_toArray, List.getElem_cons_zero, List.getElem_cons_succ, Act.put, List.setIfInBounds_toArray, List.set_cons_zero, List.set_cons_succ]
  refine wpAnyH_take (i := 2) (oi := _) (v := ?_) rfl (by kernel_rfl) (by kernel_rfl) (by kernel_rfl) (fun _ _ _ h => h) (Or.inl ⟨by rfl, ?_⟩) (by assumption) ?_
  rotate_left; (intro wS hSw; (try dsimp only at hSw); go_simp <;> with_reducible rfl)
  try simp only [List.getElem_toArray, List.getElem_cons_zero, List.getElem_cons_succ, Act.put, List.setIfInBounds_toArray, List.set_cons_zero, List.set_cons_succ]
  refine wpAnyH_take (i := 3) (oi := _) (v := ?_) rfl (by kernel_rfl) (by kernel_rfl) (by kernel_rfl) (fun _ _ _ h => h) (Or.inl ⟨by rfl, ?_⟩) (by assumption) ?_
  rotate_left; (intro wS hSw; (try dsimp only at hSw); go_simp <;> with_reducible rfl)
  try simp only [List.getElem_toArray, List.getElem_cons_zero, List.getElem_cons_succ, Act.put, List.setIfInBounds_toArray, List.set_cons_zero, List.set_cons_succ]
  refine wpAnyH_take (i := 4) (oi := _) (v := ?_) rfl (by kernel_rfl) (by kernel_rfl) (by kernel_rfl) (fun _ _ _ h => h) (Or.inl ⟨by rfl, ?_⟩) (by assumption) ?_
  rotate_left; (intro wS hSw; (try dsimp only at hSw); go_simp <;> with_reducible rfl)
  try simp only [List.getElem_toArray, List.getElem_cons_zero, List.getElem_cons_succ, Act.put, List.setIfInBounds_toArray, List.set_cons_zero, List.set_cons_succ]
  refine wpAnyH_take (i := 5) (oi := _) (v := ?_) rfl (by kernel_rfl) (by kernel_rfl) (by kernel_rfl) (fun _ _ _ h => h) (Or.inl ⟨by rfl, ?_⟩) (by assumption) ?_
  rotate_left; (intro wS hSw; (try dsimp only at hSw); go_simp <;> with_reducible rfl)
  try simp only [List.getElem_toArray, List.getElem_cons_zero, List.getElem_cons_succ, Act.put, List.setIfInBounds_toArray, List.set_cons_zero, List.set_cons_succ]
  refine wpAnyH_take (i := 6) (oi := _) (v := ?_) rfl (by kernel_rfl) (by kernel_rfl) (by kernel_rfl) (fun _ _ _ h => h) (Or.inl ⟨by rfl, ?_⟩) (by assumption) ?_
  rotate_left; (intro wS hSw; (try dsimp only at hSw); go_simp <;> with_reducible rfl)
  try simp only [List.getElem_toArray, List.getElem_cons_zero, List.getElem_cons_succ, Act.put, List.setIfInBounds_toArray, List.set_cons_zero, List.set_cons_succ]
  refine wpAnyH_take (i := 7) (oi := _) (v := ?_) rfl (by kernel_rfl) (by kernel_rfl) (by kernel_rfl) (fun _ _ _ h => h) (Or.inl ⟨by rfl, ?_⟩) (by assumption) ?_
  rotate_left; (intro wS hSw; (try dsimp only at hSw); go_simp <;> with_reducible rfl)
  try simp only [List.getElem_toArray, List.getElem_cons_zero, List.getElem_cons_succ, Act.put, List.setIfInBounds_toArray, List.set_cons_zero, List.set_cons_succ]
  refine wpAnyH_take (i := 8) (oi := _) (v := ?_) rfl (by kernel_rfl) (by kernel_rfl) (by kernel_rfl) (fun _ _ _ h => h) (Or.inl ⟨by rfl, ?_⟩) (by assumption) ?_
  rotate_left; (intro wS hSw; (try dsimp only at hSw); go_simp <;> with_reducible rfl)
  try simp only [List.getElem_toArray, List.getElem_cons_zero, List.getElem_cons_succ, Act.put, List.setIfInBounds_toArray, List.set_cons_zero, List.set_cons_succ]
  refine wpAnyH_take (i := 9) (oi := _) (v := ?_) rfl (by kernel_rfl) (by kernel_rfl) (by kernel_rfl) (fun _ _ _ h => h) (Or.inl ⟨by rfl, ?_⟩) (by assumption) ?_
  rotate_left; (intro wS hSw; (try dsimp only at hSw); go_simp <;> with_reducible rfl)
  try simp only [List.getElem_toArray, List.getElem_cons_zero, List.getElem_cons_succ, Act.put, List.setIfInBounds_toArray, List.set_cons_zero, List.set_cons_succ]
  refine wpAnyH_ready (rs := [10]) (by kernel_rfl) (by simp) ?_
  refine AllReadyH.cons rfl (fun K hK => ?_) AllReadyH.nil
  go_simp
  (go_at_call 65; (refine (contains_any P Q G a0 true hA hQ _ ?_).mono ?_); rotate_left; rintro e wA ⟨rfl, hbA⟩; rotate_left; (go_split_ands; exact HVS.out _ (by assumption)))
  refine hK.out _ _ ?_ (fun hHeld => ?_)
  · (go_split_ands; exact HS.out _ _ (by assumption) hbA)
  clear hK K
  try simp only [List.getElem_toArray, List.getElem_cons_zero, List.getElem_cons_succ, Act.put, List.setIfInBounds_toArray, List.set_cons_zero, List.set_cons_succ]
  refine wpAnyH_take (i := 11) (oi := _) (v := ?_) rfl (by kernel_rfl) (by kernel_rfl) (by kernel_rfl) (fun _ _ _ h => h) (Or.inl ⟨by rfl, ?_⟩) (by assumption) ?_
  rotate_left; (intro wS hSw; (try dsimp only at hSw); go_simp <;> with_reducible rfl)
  try simp only [List.getElem_toArray, List.getElem_cons_zero, List.getElem_cons_succ, Act.put, List.setIfInBounds_toArray, List.set_cons_zero, List.set_cons_succ]
  refine wpAnyH_take (i := 12) (oi := _) (v := ?_) rfl (by kernel_rfl) (by kernel_rfl) (by kernel_rfl) (fun _ _ _ h => h) (Or.inl ⟨by rfl, ?_⟩) (by assumption) ?_
  rotate_left; (intro wS hSw; (try dsimp only at hSw); go_simp <;> with_reducible rfl)
  try simp only [List.getElem_toArray, List.getElem_cons_zero, List.getElem_cons_succ, Act.put, List.setIfInBounds_toArray, List.set_cons_zero, List.set_cons_succ]
  refine wpAnyH_take (i := 13) (oi := _) (v := ?_) rfl (by kernel_rfl) (by kernel_rfl) (by kernel_rfl) (fun _ _ _ h => h) (Or.inl ⟨by rfl, ?_⟩) (by assumption) ?_
  rotate_left; (intro wS hSw; (try dsimp only at hSw); go_simp <;> with_reducible rfl)
  try simp only [List.getElem_toArray, List.getElem_cons_zero, List.getElem_cons_succ, Act.put, List.setIfInBounds_toArray, List.set_cons_zero, List.set_cons_succ]
  refine wpAnyH_take (i := 14) (oi := _) (v := ?_) rfl (by kernel_rfl) (by kernel_rfl) (by kernel_rfl) (fun _ _ _ h => h) (Or.inl ⟨by rfl, ?_⟩) (by assumption) ?_
  rotate_left; (intro wS hSw; (try dsimp only at hSw); go_simp <;> with_reducible rfl)
  try simp only [List.getElem_toArray, List.getElem_cons_zero, List.getElem_cons_succ, Act.put, List.setIfInBounds_toArray, List.set_cons_zero, List.set_cons_succ]
  refine wpAnyH_take (i := 15) (oi := _) (v := ?_) rfl (by kernel_rfl) (by kernel_rfl) (by kernel_rfl) (fun _ _ _ h => h) (Or.inl ⟨by rfl, ?_⟩) (by assumption) ?_
  rotate_left; (intro wS hSw; (try dsimp only at hSw); go_simp <;> with_reducible rfl)
  try simp only [List.getElem_toArray, List.getElem_cons_zero, List.getElem_cons_succ, Act.put, List.setIfInBounds_toArray, List.set_cons_zero, List.set_cons_succ]
  refine wpAnyH_ready (rs := [16]) (by kernel_rfl) (by simp) ?_
  refine AllReadyH.cons rfl (fun K hK => ?_) AllReadyH.nil
  go_simp
  (go_at_call 133; (with_reducible refine (kexp_any P Q G C true hC _).mono ?_); rintro e wA ⟨rfl, hbA⟩)
  refine hK.out _ _ ?_ (fun hHeld => ?_)
  · (go_split_ands; exact HS.out _ _ (by assumption) hbA)
  clear hK K
  try simp only [List.getElem_toArray, List.getElem_cons_zero, List.getElem_cons_succ, Act.put, List.setIfInBounds_toArray, List.set_cons_zero, List.set_cons_succ]
  refine wpAnyH_take (i := 17) (oi := _) (v := ?_) rfl (by kernel_rfl) (by kernel_rfl) (by kernel_rfl) (fun _ _ _ h => h) (Or.inl ⟨by rfl, ?_⟩) (by assumption) ?_
  rotate_left; (intro wS hSw; (try dsimp only at hSw); go_simp <;> with_reducible rfl)
  try simp only [List.getElem_toArray, List.getElem_cons_zero, List.getElem_cons_succ, Act.put, List.setIfInBounds_toArray, List.set_cons_zero, List.set_cons_succ]
  refine wpAnyH_take (i := 18) (oi := _) (v := ?_) rfl (by kernel_rfl) (by kernel_rfl) (by kernel_rfl) (fun _ _ _ h => h) (Or.inl ⟨by rfl, ?_⟩) (by assumption) ?_
  rotate_left; (intro wS hSw; (try dsimp only at hSw); go_simp <;> with_reducible rfl)
  try simp only [List.getElem_toArray, List.getElem_cons_zero, List.getElem_cons_succ, Act.put, List.setIfInBounds_toArray, List.set_cons_zero, List.set_cons_succ]
  refine wpAnyH_take (i := 19) (oi := _) (v := ?_) rfl (by kernel_rfl) (by kernel_rfl) (by kernel_rfl) (fun _ _ _ h => h) (Or.inl ⟨by rfl, ?_⟩) (by assumption) ?_
  rotate_left; (intro wS hSw; (try dsimp only at hSw); go_simp <;> with_reducible rfl)
  try simp only [List.getElem_toArray, List.getElem_cons_zero, List.getElem_cons_succ, Act.put, List.setIfInBounds_toArray, List.set_cons_zero, List.set_cons_succ]
  refine wpAnyH_take (i := 20) (oi := _) (v := ?_) rfl (by kernel_rfl) (by kernel_rfl) (by kernel_rfl) (fun _ _ _ h => h) (Or.inl ⟨by rfl, ?_⟩) (by assumption) ?_
  rotate_left; (intro wS hSw; (try dsimp only at hSw); go_simp <;> with_reducible rfl)
  try simp only [List.getElem_toArray, List.getElem_cons_zero, List.getElem_cons_succ, Act.put, List.setIfInBounds_toArray, List.set_cons_zero, List.set_cons_succ]
  refine wpAnyH_take (i := 21) (oi := _) (v := ?_) rfl (by kernel_rfl) (by kernel_rfl) (by kernel_rfl) (fun _ _ _ h => h) (Or.inl ⟨by rfl, ?_⟩) (by assumption) ?_
  rotate_left; (intro wS hSw; (try dsimp only at hSw); go_simp <;> with_reducible rfl)
  try simp only [List.getElem_toArray, List.getElem_cons_zero, List.getElem_cons_succ, Act.put, List.setIfInBounds_toArray, List.set_cons_zero, List.set_cons_succ]
  refine wpAnyH_take (i := 22) (oi := _) (v := ?_) rfl (by kernel_rfl) (by kernel_rfl) (by kernel_rfl) (fun _ _ _ h => h) (Or.inl ⟨by rfl, ?_⟩) (by assumption) ?_
  rotate_left; (intro wS hSw; (try dsimp only at hSw); go_simp <;> with_reducible rfl)
  try simp only [List.getElem_toArray, List.getElem_cons_zero, List.getElem_cons_succ, Act.put, List.setIfInBounds_toArray, List.set_cons_zero, List.set_cons_succ]
  refine wpAnyH_take (i := 23) (oi := _) (v := ?_) rfl (by kernel_rfl) (by kernel_rfl) (by kernel_rfl) (fun _ _ _ h => h) (Or.inl ⟨by rfl, ?_⟩) (by assumption) ?_
  rotate_left; (intro wS hSw; (try dsimp only at hSw); go_simp <;> with_reducible rfl)
  try simp only [List.getElem_toArray, List.getElem_cons_zero, List.getElem_cons_succ, Act.put, List.setIfInBounds_toArray, List.set_cons_zero, List.set_cons_succ]
  refine wpAnyH_take (i := 24) (oi := _) (v := ?_) rfl (by kernel_rfl) (by kernel_rfl) (by kernel_rfl) (fun _ _ _ h => h) (Or.inl ⟨by rfl, ?_⟩) (by assumption) ?_
  rotate_left; (intro wS hSw; (try dsimp only at hSw); go_simp <;> with_reducible rfl)
  try simp only [List.getElem_toArray, List.getElem_cons_zero, List.getElem_cons_succ, Act.put, List.setIfInBounds_toArray, List.set_cons_zero, List.set_cons_succ]
  refine wpAnyH_take (i := 25) (oi := _) (v := undef) rfl (by kernel_rfl) (by kernel_rfl) (by kernel_rfl) (fun _ _ _ h => h) (Or.inr ⟨by rfl, rfl⟩) (by assumption) ?_
  try simp only [List.getElem_toArray, List.getElem_cons_zero, List.getElem_cons_succ, Act.put, List.setIfInBounds_toArray, List.set_cons_zero, List.set_cons_succ]
  refine wpAnyH_take (i := 26) (oi := _) (v := undef) rfl (by kernel_rfl) (by kernel_rfl) (by kernel_rfl) (fun _ _ _ h => h) (Or.inr ⟨by rfl, rfl⟩) (by assumption) ?_
  try simp only [List.getElem_toArray, List.getElem_cons_zero, List.getElem_cons_succ, Act.put, List.setIfInBounds_toArray, List.set_cons_zero, List.set_cons_succ]
  refine wpAnyH_take (i := 27) (oi := _) (v := undef) rfl (by kernel_rfl) (by kernel_rfl) (by kernel_rfl) (fun _ _ _ h => h) (Or.inr ⟨by rfl, rfl⟩) (by assumption) ?_
  try simp only [List.getElem_toArray, List.getElem_cons_zero, List.getElem_cons_succ, Act.put, List.setIfInBounds_toArray, List.set_cons_zero, List.set_cons_succ]
  refine wpAnyH_take (i := 28) (oi := _) (v := undef) rfl (by kernel_rfl) (by kernel_rfl) (by kernel_rfl) (fun _ _ _ h => h) (Or.inr ⟨by rfl, rfl⟩) (by assumption) ?_
  try simp only [List.getElem_toArray, List.getElem_cons_zero, List.getElem_cons_succ, Act.put, List.setIfInBounds_toArray, List.set_cons_zero, List.set_cons_succ]
  refine wpAnyH_take (i := 29) (oi := _) (v := undef) rfl (by kernel_rfl) (by kernel_rfl) (by kernel_rfl) (fun _ _ _ h => h) (Or.inr ⟨by rfl, rfl⟩) (by assumption) ?_
  try simp only [List.getElem_toArray, List.getElem_cons_zero, List.getElem_cons_succ, Act.put, List.setIfInBounds_toArray, List.set_cons_zero, List.set_cons_succ]
  refine wpAnyH_take (i := 30) (oi := _) (v := undef) rfl (by kernel_rfl) (by kernel_rfl) (by kernel_rfl) (fun _ _ _ h => h) (Or.inr ⟨by rfl, rfl⟩) (by assumption) ?_
  try simp only [List.getElem_toArray, List.getElem_cons_zero, List.getElem_cons_succ, Act.put, List.setIfInBounds_toArray, List.set_cons_zero, List.set_cons_succ]
  refine wpAnyH_take (i := 31) (oi := _) (v := ?_) rfl (by kernel_rfl) (by kernel_rfl) (by kernel_rfl) (fun _ _ _ h => h) (Or.inl ⟨by rfl, ?_⟩) (by assumption) ?_
  rotate_left; (intro wS hSw; (try dsimp only at hSw); go_simp <;> with_reducible rfl)
  try simp only [List.getElem_toArray, List.getElem_cons_zero, List.getElem_cons_succ, Act.put, List.setIfInBounds_toArray, List.set_cons_zero, List.set_cons_succ]
  refine wpAnyH_take (i := 32) (oi := _) (v := ?_) rfl (by kernel_rfl) (by kernel_rfl) (by kernel_rfl) (fun _ _ _ h => h) (Or.inl ⟨by rfl, ?_⟩) (by assumption) ?_
  rotate_left; (intro wS hSw; (try dsimp only at hSw); go_simp <;> with_reducible rfl)
  try simp only [List.getElem_toArray, List.getElem_cons_zero, List.getElem_cons_succ, Act.put, List.setIfInBounds_toArray, List.set_cons_zero, List.set_cons_succ]
  refine wpAnyH_done (by kernel_rfl) ?_ _
  obtain ⟨e0, e1, e2, e3, e4, e5, e6, HBA⟩ := hHeld
  have hbf := below_ext HB.out HBA.out
  go_wp2
  go_ret
  exact ⟨rfl, hbf⟩
set_option maxHeartbeats 1600000 in
theorem formed_4 (P Q G : Int) (ba oa ca : Nat) (a0 C : Int) (bz oz cz : Nat) (z0 : Int) (hA : Hid (conG P Q G a0 = true)) (hC : Hid (expB Q C = true)) (hZ : Hid (expB Q z0 = false)) (hval : Hid (validG P Q G = true)) (hQ : Q < 9223372036854775808) (w : World) (hv : Hid (Vars w)) (ha : Hid (w.cell? ⟨ba, oa, none⟩ = some (.int .i64 a0))) (hz : Hid (w.cell? ⟨bz, oz, none⟩ = some (.int .i64 z0))) :
    Calls Tryz.prog 99 #[gv P Q G, prv (some ⟨ba, oa, none⟩) 1 ca C (some ⟨bz, oz, none⟩) 1 cz] w fun e' w' => e' = .returned (.bool false) ∧ Below w.heap.size w w' := by
  obtain ⟨hp2, hp, hq3, hqp⟩ := validG_P hval.out
  obtain ⟨W, hW⟩ : ∃ W, (w.alloc (gObj P Q G)).alloc (prObj (some ⟨ba, oa, none⟩) 1 ca C (some ⟨bz, oz, none⟩) 1 cz) = W := ⟨_, rfl⟩
  have HB : Hid (Below w.heap.size w W) := Lib.hid (by rw [← hW]; exact below_two (Below.refl _ _))
  have HX : Hid (GBox W w.heap.size P Q G) := Lib.hid (by rw [← hW]; exact (gbox_alloc w P Q G).below (below_box0 _ _))
  have HP : Hid (PBox W (w.heap.size + 1) (.slice (some ⟨ba, oa, none⟩) 1 ca) (.int .i64 C) (.slice (some ⟨bz, oz, none⟩) 1 cz)) := Lib.hid (by rw [← hW]; exact pbox_alloc w _ _ _ _ _)
  have HA : Hid (W.cell? ⟨ba, oa, none⟩ = some (.int .i64 a0)) := Lib.hid (cell_belowK ha.out HB.out)
  have HZ : Hid (W.cell? ⟨bz, oz, none⟩ = some (.int .i64 z0)) := Lib.hid (cell_belowK hz.out HB.out)
  have HS : Hid (∀ w1 w2 : World, Hid (Below W.heap.size W w1) → Below w1.heap.size w1 w2 → (w2.cell? ⟨w.heap.size, 0, none⟩ = some (.int .i64 P) ∧ w2.cell? ⟨w.heap.size, 1, none⟩ = some (.int .i64 Q) ∧ w2.cell? ⟨w.heap.size, 2, none⟩ = some (.int .i64 G) ∧ w2.cell? ⟨w.heap.size + 1, 0, none⟩ = some (.slice (some ⟨ba, oa, none⟩) 1 ca) ∧ w2.cell? ⟨w.heap.size + 1, 1, none⟩ = some (.int .i64 C) ∧ w2.cell? ⟨w.heap.size + 1, 2, none⟩ = some (.slice (some ⟨bz, oz, none⟩) 1 cz) ∧ w2.cell? ⟨ba, oa, none⟩ = some (.int .i64 a0) ∧ w2.cell? ⟨bz, oz, none⟩ = some (.int .i64 z0) ∧ Hid (Below W.heap.size W w2))) :=
    Lib.hid (fun w1 w2 h1 h2 => have h3 := below_ext h1.out h2; ⟨(HX.out.below h3).1, (HX.out.below h3).2.1, (HX.out.below h3).2.2, (HP.out.below h3).1, (HP.out.below h3).2.1, (HP.out.below h3).2.2, cell_belowK HA.out h3, cell_belowK HZ.out h3, Lib.hid h3⟩)
  have HB0 : Hid (Below W.heap.size W W) := Lib.hid (Below.refl _ _)
  have HV : Hid (Vars W) := Lib.hid (hv.out.below HB.out)
  have HVS : Hid (∀ w1 : World, Hid (Below W.heap.size W w1) → Hid (Vars w1)) := Lib.hid (fun w1 h1 => Lib.hid (HV.out.below h1.out))
  have HW := Lib.hid hW
  clear hW
  go_enter Tryz.func99, Tryz.ntmps99
  go_wp2_with fail
  rw [HW.out]
  go_region_held3 (fun w' => w'.cell? ⟨w.heap.size, 0, none⟩ = some (.int .i64 P) ∧ w'.cell? ⟨w.heap.size, 1, none⟩ = some (.int .i64 Q) ∧ w'.cell? ⟨w.heap.size, 2, none⟩ = some (.int .i64 G) ∧ w'.cell? ⟨w.heap.size + 1, 0, none⟩ = some (.slice (some ⟨ba, oa, none⟩) 1 ca) ∧ w'.cell? ⟨w.heap.size + 1, 1, none⟩ = some (.int .i64 C) ∧ w'.cell? ⟨w.heap.size + 1, 2, none⟩ = some (.slice (some ⟨bz, oz, none⟩) 1 cz) ∧ w'.cell? ⟨ba, oa, none⟩ = some (.int .i64 a0) ∧ w'.cell? ⟨bz, oz, none⟩ = some (.int .i64 z0) ∧ Hid (Below W.heap.size W w'))
    (first | exact HS.out _ _ HB0 ((Below.refl W.heap.size W).drew) | (go_split_ands; exact HS.out _ _ (by assumption) hbA) | go_keep)
    (first
      | (go_at_call 65; (refine (contains_any P Q G a0 true hA hQ _ ?_).mono ?_); rotate_left; rintro e wA ⟨rfl, hbA⟩; rotate_left; (go_split_ands; exact HVS.out _ (by assumption)))
      | (go_at_call 133; (with_reducible refine (kexp_any P Q G C true hC _).mono ?_); rintro e wA ⟨rfl, hbA⟩)
      | (go_at_call 133; (with_reducible refine (kexp_any P Q G z0 false hZ _).mono ?_); rintro e wA ⟨rfl, hbA⟩))
  rename_i hHeld
  obtain ⟨e0, e1, e2, e3, e4, e5, e6, e7, HBA⟩ := hHeld
  have hbf := below_ext HB.out HBA.out
  go_wp2
  go_ret
  exact ⟨rfl, hbf⟩
set_option maxHeartbeats 1600000 in
theorem formed_5 (P Q G : Int) (ba oa ca : Nat) (a0 C : Int) (bz oz cz : Nat) (z0 : Int) (hA : Hid (conG P Q G a0 = true)) (hC : Hid (expB Q C = true)) (hZ : Hid (expB Q z0 = true)) (hval : Hid (validG P Q G = true)) (hQ : Q < 9223372036854775808) (w : World) (hv : Hid (Vars w)) (ha : Hid (w.cell? ⟨ba, oa, none⟩ = some (.int .i64 a0))) (hz : Hid (w.cell? ⟨bz, oz, none⟩ = some (.int .i64 z0))) :
    Calls Tryz.prog 99 #[gv P Q G, prv (some ⟨ba, oa, none⟩) 1 ca C (some ⟨bz, oz, none⟩) 1 cz] w fun e' w' => e' = .returned (.bool true) ∧ Below w.heap.size w w' := by
  obtain ⟨hp2, hp, hq3, hqp⟩ := validG_P hval.out
  obtain ⟨W, hW⟩ : ∃ W, (w.alloc (gObj P Q G)).alloc (prObj (some ⟨ba, oa, none⟩) 1 ca C (some ⟨bz, oz, none⟩) 1 cz) = W := ⟨_, rfl⟩
  have HB : Hid (Below w.heap.size w W) := Lib.hid (by rw [← hW]; exact below_two (Below.refl _ _))
  have HX : Hid (GBox W w.heap.size P Q G) := Lib.hid (by rw [← hW]; exact (gbox_alloc w P Q G).below (below_box0 _ _))
  have HP : Hid (PBox W (w.heap.size + 1) (.slice (some ⟨ba, oa, none⟩) 1 ca) (.int .i64 C) (.slice (some ⟨bz, oz, none⟩) 1 cz)) := Lib.hid (by rw [← hW]; exact pbox_alloc w _ _ _ _ _)
  have HA : Hid (W.cell? ⟨ba, oa, none⟩ = some (.int .i64 a0)) := Lib.hid (cell_belowK ha.out HB.out)
  have HZ : Hid (W.cell? ⟨bz, oz, none⟩ = some (.int .i64 z0)) := Lib.hid (cell_belowK hz.out HB.out)
  have HS : Hid (∀ w1 w2 : World, Hid (Below W.heap.size W w1) → Below w1.heap.size w1 w2 → (w2.cell? ⟨w.heap.size, 0, none⟩ = some (.int .i64 P) ∧ w2.cell? ⟨w.heap.size, 1, none⟩ = some (.int .i64 Q) ∧ w2.cell? ⟨w.heap.size, 2, none⟩ = some (.int .i64 G) ∧ w2.cell? ⟨w.heap.size + 1, 0, none⟩ = some (.slice (some ⟨ba, oa, none⟩) 1 ca) ∧ w2.cell? ⟨w.heap.size + 1, 1, none⟩ = some (.int .i64 C) ∧ w2.cell? ⟨w.heap.size + 1, 2, none⟩ = some (.slice (some ⟨bz, oz, none⟩) 1 cz) ∧ w2.cell? ⟨ba, oa, none⟩ = some (.int .i64 a0) ∧ w2.cell? ⟨bz, oz, none⟩ = some (.int .i64 z0) ∧ Hid (Below W.heap.size W w2))) :=
    Lib.hid (fun w1 w2 h1 h2 => have h3 := below_ext h1.out h2; ⟨(HX.out.below h3).1, (HX.out.below h3).2.1, (HX.out.below h3).2.2, (HP.out.below h3).1, (HP.out.below h3).2.1, (HP.out.below h3).2.2, cell_belowK HA.out h3, cell_belowK HZ.out h3, Lib.hid h3⟩)
  have HB0 : Hid (Below W.heap.size W W) := Lib.hid (Below.refl _ _)
  have HV : Hid (Vars W) := Lib.hid (hv.out.below HB.out)
  have HVS : Hid (∀ w1 : World, Hid (Below W.heap.size W w1) → Hid (Vars w1)) := Lib.hid (fun w1 h1 => Lib.hid (HV.out.below h1.out))
  have HW := Lib.hid hW
  clear hW
  go_enter Tryz.func99, Tryz.ntmps99
  go_wp2_with fail
  rw [HW.out]
  go_region_held3 (fun w' => w'.cell? ⟨w.heap.size, 0, none⟩ = some (.int .i64 P) ∧ w'.cell? ⟨w.heap.size, 1, none⟩ = some (.int .i64 Q) ∧ w'.cell? ⟨w.heap.size, 2, none⟩ = some (.int .i64 G) ∧ w'.cell? ⟨w.heap.size + 1, 0, none⟩ = some (.slice (some ⟨ba, oa, none⟩) 1 ca) ∧ w'.cell? ⟨w.heap.size + 1, 1, none⟩ = some (.int .i64 C) ∧ w'.cell? ⟨w.heap.size + 1, 2, none⟩ = some (.slice (some ⟨bz, oz, none⟩) 1 cz) ∧ w'.cell? ⟨ba, oa, none⟩ = some (.int .i64 a0) ∧ w'.cell? ⟨bz, oz, none⟩ = some (.int .i64 z0) ∧ Hid (Below W.heap.size W w'))
    (first | exact HS.out _ _ HB0 ((Below.refl W.heap.size W).drew) | (go_split_ands; exact HS.out _ _ (by assumption) hbA) | go_keep)
    (first
      | (go_at_call 65; (refine (contains_any P Q G a0 true hA hQ _ ?_).mono ?_); rotate_left; rintro e wA ⟨rfl, hbA⟩; rotate_left; (go_split_ands; exact HVS.out _ (by assumption)))
      | (go_at_call 133; (with_reducible refine (kexp_any P Q G C true hC _).mono ?_); rintro e wA ⟨rfl, hbA⟩)
      | (go_at_call 133; (with_reducible refine (kexp_any P Q G z0 true hZ _).mono ?_); rintro e wA ⟨rfl, hbA⟩))
  rename_i hHeld
  obtain ⟨e0, e1, e2, e3, e4, e5, e6, e7, HBA⟩ := hHeld
  have hbf := below_ext HB.out HBA.out
  go_wp2
  go_ret
  exact ⟨rfl, hbf⟩
set_option maxHeartbeats 1600000 in
theorem rformed_0 (P Q G : Int) (pa : Option Addr) (na ca : Nat) (a0 C : Int) (pz : Option Addr) (nz cz : Nat) (z0 : Int) (hna : ((na : Int) == 1) = false) (hval : Hid (validG P Q G = true)) (hQ : Q < 9223372036854775808) (w : World) :
    Calls Tryz.prog 101 #[gv P Q G, prv pa na ca C pz nz cz] w fun e' w' => e' = .returned (.bool false) ∧ Below w.heap.size w w' := by
  have HP : Hid (PBox ((w.alloc (gObj P Q G)).alloc (prObj pa na ca C pz nz cz)) (w.heap.size + 1) (.slice pa na ca) (.int .i64 C) (.slice pz nz cz)) := Lib.hid (pbox_alloc w _ _ _ _ _)
  go_enter Tryz.func101, Tryz.ntmps101
  go_wp2_with fail
  go_quiet (fail)
  go_wp2
  go_ret
  exact ⟨rfl, below_drawN (below_two (Below.refl _ _)) _⟩
set_option maxHeartbeats 1600000 in
theorem rformed_1 (P Q G : Int) (ba oa ca : Nat) (a0 C : Int) (pz : Option Addr) (nz cz : Nat) (z0 : Int) (hnz : ((nz : Int) == 1) = false) (hval : Hid (validG P Q G = true)) (hQ : Q < 9223372036854775808) (w : World) (ha : Hid (w.cell? ⟨ba, oa, none⟩ = some (.int .i64 a0))) :
    Calls Tryz.prog 101 #[gv P Q G, prv (some ⟨ba, oa, none⟩) 1 ca C pz nz cz] w fun e' w' => e' = .returned (.bool false) ∧ Below w.heap.size w w' := by
  obtain ⟨W, hW⟩ : ∃ W, (w.alloc (gObj P Q G)).alloc (prObj (some ⟨ba, oa, none⟩) 1 ca C pz nz cz) = W := ⟨_, rfl⟩
  have HB : Hid (Below w.heap.size w W) := Lib.hid (by rw [← hW]; exact below_two (Below.refl _ _))
  have HX : Hid (GBox W w.heap.size P Q G) := Lib.hid (by rw [← hW]; exact (gbox_alloc w P Q G).below (below_box0 _ _))
  have HP : Hid (PBox W (w.heap.size + 1) (.slice (some ⟨ba, oa, none⟩) 1 ca) (.int .i64 C) (.slice pz nz cz)) := Lib.hid (by rw [← hW]; exact pbox_alloc w _ _ _ _ _)
  have HW := Lib.hid hW
  clear hW
  go_enter Tryz.func101, Tryz.ntmps101
  go_wp2_with fail
  rw [HW.out]
  obtain ⟨e0, e1, e2⟩ := HX.out
  obtain ⟨e3, e4, e5⟩ := HP.out
  go_quiet (fail)
  go_wp2
  go_ret
  exact ⟨rfl, below_drawN HB.out _⟩
set_option maxHeartbeats 1600000 in
theorem rformed_2 (P Q G : Int) (ba oa ca : Nat) (a0 C : Int) (bz oz cz : Nat) (z0 : Int) (hA : Hid (memG P Q a0 = false)) (hval : Hid (validG P Q G = true)) (hQ : Q < 9223372036854775808) (w : World) (ha : Hid (w.cell? ⟨ba, oa, none⟩ = some (.int .i64 a0))) (hz : Hid (w.cell? ⟨bz, oz, none⟩ = some (.int .i64 z0))) :
    Calls Tryz.prog 101 #[gv P Q G, prv (some ⟨ba, oa, none⟩) 1 ca C (some ⟨bz, oz, none⟩) 1 cz] w fun e' w' => e' = .returned (.bool false) ∧ Below w.heap.size w w' := by
  obtain ⟨hp2, hp, hq3, hqp⟩ := validG_P hval.out
  obtain ⟨W, hW⟩ : ∃ W, (w.alloc (gObj P Q G)).alloc (prObj (some ⟨ba, oa, none⟩) 1 ca C (some ⟨bz, oz, none⟩) 1 cz) = W := ⟨_, rfl⟩
  have HB : Hid (Below w.heap.size w W) := Lib.hid (by rw [← hW]; exact below_two (Below.refl _ _))
  have HX : Hid (GBox W w.heap.size P Q G) := Lib.hid (by rw [← hW]; exact (gbox_alloc w P Q G).below (below_box0 _ _))
  have HP : Hid (PBox W (w.heap.size + 1) (.slice (some ⟨ba, oa, none⟩) 1 ca) (.int .i64 C) (.slice (some ⟨bz, oz, none⟩) 1 cz)) := Lib.hid (by rw [← hW]; exact pbox_alloc w _ _ _ _ _)
  have HA : Hid (W.cell? ⟨ba, oa, none⟩ = some (.int .i64 a0)) := Lib.hid (cell_belowK ha.out HB.out)
  have HZ : Hid (W.cell? ⟨bz, oz, none⟩ = some (.int .i64 z0)) := Lib.hid (cell_belowK hz.out HB.out)
  have HS : Hid (∀ w1 w2 : World, Hid (Below W.heap.size W w1) → Below w1.heap.size w1 w2 → (w2.cell? ⟨w.heap.size, 0, none⟩ = some (.int .i64 P) ∧ w2.cell? ⟨w.heap.size, 1, none⟩ = some (.int .i64 Q) ∧ w2.cell? ⟨w.heap.size, 2, none⟩ = some (.int .i64 G) ∧ w2.cell? ⟨w.heap.size + 1, 0, none⟩ = some (.slice (some ⟨ba, oa, none⟩) 1 ca) ∧ w2.cell? ⟨w.heap.size + 1, 1, none⟩ = some (.int .i64 C) ∧ w2.cell? ⟨w.heap.size + 1, 2, none⟩ = some (.slice (some ⟨bz, oz, none⟩) 1 cz) ∧ w2.cell? ⟨ba, oa, none⟩ = some (.int .i64 a0) ∧ w2.cell? ⟨bz, oz, none⟩ = some (.int .i64 z0) ∧ Hid (Below W.heap.size W w2))) :=
    Lib.hid (fun w1 w2 h1 h2 => have h3 := below_ext h1.out h2; ⟨(HX.out.below h3).1, (HX.out.below h3).2.1, (HX.out.below h3).2.2, (HP.out.below h3).1, (HP.out.below h3).2.1, (HP.out.below h3).2.2, cell_belowK HA.out h3, cell_belowK HZ.out h3, Lib.hid h3⟩)
  have HB0 : Hid (Below W.heap.size W W) := Lib.hid (Below.refl _ _)
  have HW := Lib.hid hW
  clear hW
  go_enter Tryz.func101, Tryz.ntmps101
  go_wp2_with fail
  rw [HW.out]
  refine wp_region_held_drew (S := fun w' => w'.cell? ⟨w.heap.size, 0, none⟩ = some (.int .i64 P) ∧ w'.cell? ⟨w.heap.size, 1, none⟩ = some (.int .i64 Q) ∧ w'.cell? ⟨w.heap.size, 2, none⟩ = some (.int .i64 G) ∧ w'.cell? ⟨w.heap.size + 1, 0, none⟩ = some (.slice (some ⟨ba, oa, none⟩) 1 ca) ∧ w'.cell? ⟨w.heap.size + 1, 1, none⟩ = some (.int .i64 C) ∧ w'.cell? ⟨w.heap.size + 1, 2, none⟩ = some (.slice (some ⟨bz, oz, none⟩) 1 cz) ∧ w'.cell? ⟨ba, oa, none⟩ = some (.int .i64 a0) ∧ w'.cell? ⟨bz, oz, none⟩ = some (.int .i64 z0) ∧ Hid (Below W.heap.size W w')) (by kernel_rfl) (HS.out _ _ HB0 ((Below.refl W.heap.size W).drew)) (fun hHeld => ?_)
  refine wpAnyH_take (i := 0) (oi := _) (v := ?_) rfl (by kernel_rfl) (by kernel_rfl) (by kernel_rfl) (fun _ _ _ h => h) (Or.inl ⟨by rfl, ?_⟩) (by assumption) ?_
  rotate_left; (intro wS hSw; (try dsimp only at hSw); go_simp <;> with_reducible rfl)
  try simp only [List.getElem_toArray, List.getElem_cons_zero, List.getElem_cons_succ, Act.put, List.setIfInBounds_toArray, List.set_cons_zero, List.set_cons_succ]
  refine wpAnyH_take (i := 1) (oi := _) (v := ?_) rfl (by kernel_rfl) (by kernel_rfl) (by kernel_rfl) (fun _ _ _ h => h) (Or.inl ⟨by rfl, ?_⟩) (by assumption) ?_
  rotate_left; (intro wS hSw; (try dsimp only at hSw); go_simp <;> with_reducible rfl)
  try simp only [List.getElem_toArray, List.getElem_cons_zero, List.getElem_cons_succ, Act.put, List.setIfInBounds_toArray, List.set_cons_zero, List.set_cons_succ]
  refine wpAnyH_take (i := 2) (oi := _) (v := ?_) rfl (by kernel_rfl) (by kernel_rfl) (by kernel_rfl) (fun _ _ _ h => h) (Or.inl ⟨by rfl, ?_⟩) (by assumption) ?_
  rotate_left; (intro wS hSw; (try dsimp only at hSw); go_simp <;> with_reducible rfl)
  try simp only [List.getElem_toArray, List.getElem_cons_zero, List.getElem_cons_succ, Act.put, List.setIfInBounds_toArray, List.set_cons_zero, List.set_cons_succ]
  refine wpAnyH_take (i := 3) (oi := _) (v := ?_) rfl (by kernel_rfl) (by kernel_rfl) (by kernel_rfl) (fun _ _ _ h => h) (Or.inl ⟨by rfl, ?_⟩) (by assumption) ?_
  rotate_left; (intro wS hSw; (try dsimp only at hSw); go_simp <;> with_reducible rfl)
  try simp only [List.getElem_toArray, List.getElem_cons_zero, List.getElem_cons_succ, Act.put, List.setIfInBounds_toArray, List.set_cons_zero, List.set_cons_succ]
  refine wpAnyH_take (i := 4) (oi := _) (v := ?_) rfl (by kernel_rfl) (by kernel_rfl) (by kernel_rfl) (fun _ _ _ h => h) (Or.inl ⟨by rfl, ?_⟩) (by assumption) ?_
  rotate_left; (intro wS hSw; (try dsimp only at hSw); go_simp <;> with_reducible rfl)
  try simp only [List.getElem_toArray, List.getElem_cons_zero, List.getElem_cons_succ, Act.put, List.setIfInBounds_toArray, List.set_cons_zero, List.set_cons_succ]
  refine wpAnyH_take (i := 5) (oi := _) (v := ?_) rfl (by kernel_rfl) (by kernel_rfl) (by kernel_rfl) (fun _ _ _ h => h) (Or.inl ⟨by rfl, ?_⟩) (by assumption) ?_
  rotate_left; (intro wS hSw; (try dsimp only at hSw); go_simp <;> with_reducible rfl)
  try simp only [List.getElem_toArray, List.getElem_cons_zero, List.getElem_cons_succ, Act.put, List.setIfInBounds_toArray, List.set_cons_zero, List.set_cons_succ]
  refine wpAnyH_take (i := 6) (oi := _) (v := ?_) rfl (by kernel_rfl) (by kernel_rfl) (by kernel_rfl) (fun _ _ _ h => h) (Or.inl ⟨by rfl, ?_⟩) (by assumption) ?_
  rotate_left; (intro wS hSw; (try dsimp only at hSw); go_simp <;> with_reducible rfl)
  try simp only [List.getElem_toArray, List.getElem_cons_zero, List.getElem_cons_succ, Act.put, List.setIfInBounds_toArray, List.set_cons_zero, List.set_cons_succ]
  refine wpAnyH_take (i := 7) (oi := _) (v := ?_) rfl (by kernel_rfl) (by kernel_rfl) (by kernel_rfl) (fun _ _ _ h => h) (Or.inl ⟨by rfl, ?_⟩) (by assumption) ?_
  rotate_left; (intro wS hSw; (try dsimp only at hSw); go_simp <;> with_reducible rfl)
  try simp only [List.getElem_toArray, List.getElem_cons_zero, List.getElem_cons_succ, Act.put, List.setIfInBounds_toArray, List.set_cons_zero, List.set_cons_succ]
  refine wpAnyH_take (i := 8) (oi := _) (v := ?_) rfl (by kernel_rfl) (by kernel_rfl) (by kernel_rfl) (fun _ _ _ h => h) (Or.inl ⟨by rfl, ?_⟩) (by assumption) ?_
  rotate_left; (intro wS hSw; (try dsimp only at hSw); go_simp <;> with_reducible rfl)
  try simp only [List.getElem_toArray, List.getElem_cons_zero, List.getElem_cons_succ, Act.put, List.setIfInBounds_toArray, List.set_cons_zero, List.set_cons_succ]
  refine wpAnyH_take (i := 9) (oi := _) (v := ?_) rfl (by kernel_rfl) (by kernel_rfl) (by kernel_rfl) (fun _ _ _ h => h) (Or.inl ⟨by rfl, ?_⟩) (by assumption) ?_
  rotate_left; (intro wS hSw; (try dsimp only at hSw); go_simp <;> with_reducible rfl)
  try simp only [List.getElem_toArray, List.getElem_cons_zero, List.getElem_cons_succ, Act.put, List.setIfInBounds_toArray, List.set_cons_zero, List.set_cons_succ]
  refine wpAnyH_take (i := 10) (oi := _) (v := ?_) rfl (by kernel_rfl) (by kernel_rfl) (by kernel_rfl) (fun _ _ _ h => h) (Or.inl ⟨by rfl, ?_⟩) (by assumption) ?_
  rotate_left; (intro wS hSw; (try dsimp only at hSw); go_simp <;> with_reducible rfl)
  try simp only [List.getElem_toArray, List.getElem_cons_zero, List.getElem_cons_succ, Act.put, List.setIfInBounds_toArray, List.set_cons_zero, List.set_cons_succ]
  refine wpAnyH_take (i := 11) (oi := _) (v := ?_) rfl (by kernel_rfl) (by kernel_rfl) (by kernel_rfl) (fun _ _ _ h => h) (Or.inl ⟨by rfl, ?_⟩) (by assumption) ?_
  rotate_left; (intro wS hSw; (try dsimp only at hSw); go_simp <;> with_reducible rfl)
  try simp only [List.getElem_toArray, List.getElem_cons_zero, List.getElem_cons_succ, Act.put, List.setIfInBounds_toArray, List.set_cons_zero, List.set_cons_succ]
  refine wpAnyH_take (i := 12) (oi := _) (v := ?_) rfl (by kernel_rfl) (by kernel_rfl) (by kernel_rfl) (fun _ _ _ h => h) (Or.inl ⟨by rfl, ?_⟩) (by assumption) ?_
  rotate_left; (intro wS hSw; (try dsimp only at hSw); go_simp <;> with_reducible rfl)
  try simp only [List.getElem_toArray, List.getElem_cons_zero, List.getElem_cons_succ, Act.put, List.setIfInBounds_toArray, List.set_cons_zero, List.set_cons_succ]
  refine wpAnyH_take (i := 13) (oi := _) (v := ?_) rfl (by kernel_rfl) (by kernel_rfl) (by kernel_rfl) (fun _ _ _ h => h) (Or.inl ⟨by rfl, ?_⟩) (by assumption) ?_
  rotate_left; (intro wS hSw; (try dsimp only at hSw); go_simp <;> with_reducible rfl)
  try simp only [List.getElem_toArray, List.getElem_cons_zero, List.getElem_cons_succ, Act.put, List.setIfInBounds_toArray, List.set_cons_zero, List.set_cons_succ]
  refine wpAnyH_take (i := 14) (oi := _) (v := ?_) rfl (by kernel_rfl) (by kernel_rfl) (by kernel_rfl) (fun _ _ _ h => h) (Or.inl ⟨by rfl, ?_⟩) (by assumption) ?_
  rotate_left; (intro wS hSw; (try dsimp only at hSw); go_simp <;> with_reducible rfl)
  try simp only [List.getElem_toArray, List.getElem_cons_zero, List.getElem_cons_succ, Act.put, List.setIfInBounds_toArray, List.set_cons_zero, List.set_cons_succ]
  refine wpAnyH_take (i := 15) (oi := _) (v := ?_) rfl (by kernel_rfl) (by kernel_rfl) (by kernel_rfl) (fun _ _ _ h => h) (Or.inl ⟨by rfl, ?_⟩) (by assumption) ?_
  rotate_left; (intro wS hSw; (try dsimp only at hSw); go_simp <;> with_reducible rfl)
  try simp only [List.getElem_toArray, List.getElem_cons_zero, List.getElem_cons_succ, Act.put, List.setIfInBounds_toArray, List.set_cons_zero, List.set_cons_succ]
  refine wpAnyH_ready (rs := [16]) (by kernel_rfl) (by simp) ?_
  refine AllReadyH.cons rfl (fun K hK => ?_) AllReadyH.nil
  go_simp
  (go_at_call 29; (with_reducible refine (rmember_any P Q G a0 false hA hp (by omega) hQ _).mono ?_); rintro e wA ⟨rfl, hbA⟩)
  refine hK.out _ _ ?_ (fun hHeld => ?_)
  · (go_split_ands; exact HS.out _ _ (by assumption) hbA)
  clear hK K
  try simp only [List.getElem_toArray, List.getElem_cons_zero, List.getElem_cons_succ, Act.put, List.setIfInBounds_toArray, List.set_cons_zero, List.set_cons_succ]
  refine wpAnyH_take (i := 17) (oi := _) (v := ?_) rfl (by kernel_rfl) (by kernel_rfl) (by kernel_rfl) (fun _ _ _ h => h) (Or.inl ⟨by rfl, ?_⟩) (by assumption) ?_
  rotate_left; (intro wS hSw; (try dsimp only at hSw); go_simp <;> with_reducible rfl)
  try simp only [List.getElem_toArray, List.getElem_cons_zero, List.getElem_cons_succ, Act.put, List.setIfInBounds_toArray, List.set_cons_zero, List.set_cons_succ]
  refine wpAnyH_take (i := 18) (oi := _) (v := ?_) rfl (by kernel_rfl) (by kernel_rfl) (by kernel_rfl) (fun _ _ _ h => h) (Or.inl ⟨by rfl, ?_⟩) (by assumption) ?_
  rotate_left; (intro wS hSw; (try dsimp only at hSw); go_simp <;> with_reducible rfl)
  try simp only [List.getElem_toArray, List.getElem_cons_zero, List.getElem_cons_succ, Act.put, List.setIfInBounds_toArray, List.set_cons_zero, List.set_cons_succ]
  refine wpAnyH_take (i := 19) (oi := _) (v := undef) rfl (by kernel_rfl) (by kernel_rfl) (by kernel_rfl) (fun _ _ _ h => h) (Or.inr ⟨by rfl, rfl⟩) (by assumption) ?_
  try simp only [List.getElem_toArray, List.getElem_cons_zero, List.getElem_cons_succ, Act.put, List.setIfInBounds_toArray, List.set_cons_zero, List.set_cons_succ]
  refine wpAnyH_take (i := 20) (oi := _) (v := undef) rfl (by kernel_rfl) (by kernel_rfl) (by kernel_rfl) (fun _ _ _ h => h) (Or.inr ⟨by rfl, rfl⟩) (by assumption) ?_
  try simp only [List.getElem_toArray, List.getElem_cons_zero, List.getElem_cons_succ, Act.put, List.setIfInBounds_toArray, List.set_cons_zero, List.set_cons_succ]
  refine wpAnyH_take (i := 21) (oi := _) (v := undef) rfl (by kernel_rfl) (by kernel_rfl) (by kernel_rfl) (fun _ _ _ h => h) (Or.inr ⟨by rfl, rfl⟩) (by assumption) ?_
  try simp only [List.getElem_toArray, List.getElem_cons_zero, List.getElem_cons_succ, Act.put, List.setIfInBounds_toArray, List.set_cons_zero, List.set_cons_succ]
  refine wpAnyH_take (i := 22) (oi := _) (v := undef) rfl (by kernel_rfl) (by kernel_rfl) (by kernel_rfl) (fun _ _ _ h => h) (Or.inr ⟨by rfl, rfl⟩) (by assumption) ?_
  try simp only [List.getElem_toArray, List.getElem_cons_zero, List.getElem_cons_succ, Act.put, List.setIfInBounds_toArray, List.set_cons_zero, List.set_cons_succ]
  refine wpAnyH_take (i := 23) (oi := _) (v := ?_) rfl (by kernel_rfl) (by kernel_rfl) (by kernel_rfl) (fun _ _ _ h => h) (Or.inl ⟨by rfl, ?_⟩) (by assumption) ?_
  rotate_left; (intro wS hSw; (try dsimp only at hSw); go_simp <;> with_reducible rfl)
  try simp only [List.getElem_toArray, List.getElem_cons_zero, List.getElem_cons_succ, Act.put, List.setIfInBounds_toArray, List.set_cons_zero, List.set_cons_succ]
  refine wpAnyH_take (i := 24) (oi := _) (v := ?_) rfl (by kernel_rfl) (by kernel_rfl) (by kernel_rfl) (fun _ _ _ h => h) (Or.inl ⟨by rfl, ?_⟩) (by assumption) ?_
  rotate_left; (intro wS hSw; (try dsimp only at hSw); go_simp <;> with_reducible rfl)
  try simp only [List.getElem_toArray, List.getElem_cons_zero, List.getElem_cons_succ, Act.put, List.setIfInBounds_toArray, List.set_cons_zero, List.set_cons_succ]
  refine wpAnyH_take (i := 25) (oi := _) (v := undef) rfl (by kernel_rfl) (by kernel_rfl) (by kernel_rfl) (fun _ _ _ h => h) (Or.inr ⟨by rfl, rfl⟩) (by assumption) ?_
  try simp only [List.getElem_toArray, List.getElem_cons_zero, List.getElem_cons_succ, Act.put, List.setIfInBounds_toArray, List.set_cons_zero, List.set_cons_succ]
  refine wpAnyH_take (i := 26) (oi := _) (v := undef) rfl (by kernel_rfl) (by kernel_rfl) (by kernel_rfl) (fun _ _ _ h => h) (Or.inr ⟨by rfl, rfl⟩) (by assumption) ?_
  try simp only [List.getElem_toArray, List.getElem_cons_zero, List.getElem_cons_succ, Act.put, List.setIfInBounds_toArray, List.set_cons_zero, List.set_cons_succ]
  refine wpAnyH_take (i := 27) (oi := _) (v := undef) rfl (by kernel_rfl) (by kernel_rfl) (by kernel_rfl) (fun _ _ _ h => h) (Or.inr ⟨by rfl, rfl⟩) (by assumption) ?_
  try simp only [List.getElem_toArray, List.getElem_cons_zero, List.getElem_cons_succ, Act.put, List.setIfInBounds_toArray, List.set_cons_zero, List.set_cons_succ]
  refine wpAnyH_take (i := 28) (oi := _) (v := undef) rfl (by kernel_rfl) (by kernel_rfl) (by kernel_rfl) (fun _ _ _ h => h) (Or.inr ⟨by rfl, rfl⟩) (by assumption) ?_
  try simp only [List.getElem_toArray, List.getElem_cons_zero, List.getElem_cons_succ, Act.put, List.setIfInBounds_toArray, List.set_cons_zero, List.set_cons_succ]
  refine wpAnyH_take (i := 29) (oi := _) (v := undef) rfl (by kernel_rfl) (by kernel_rfl) (by kernel_rfl) (fun _ _ _ h => h) (Or.inr ⟨by rfl, rfl⟩) (by assumption) ?_
  try simp only [List.getElem_toArray, List.getElem_cons_zero, List.getElem_cons_succ, Act.put, List.setIfInBounds_toArray, List.set_cons_zero, List.set_cons_succ]
  refine wpAnyH_take (i := 30) (oi := _) (v := undef) rfl (by kernel_rfl) (by kernel_rfl) (by kernel_rfl) (fun _ _ _ h => h) (Or.inr ⟨by rfl, rfl⟩) (by assumption) ?_
  try simp only [List.getElem_toArray, List.getElem_cons_zero, List.getElem_cons_succ, Act.put, List.setIfInBounds_toArray, List.set_cons_zero, List.set_cons_succ]
  refine wpAnyH_take (i := 31) (oi := _) (v := ?_) rfl (by kernel_rfl) (by kernel_rfl) (by kernel_rfl) (fun _ _ _ h => h) (Or.inl ⟨by rfl, ?_⟩) (by assumption) ?_
  rotate_left; (intro wS hSw; (try dsimp only at hSw); go_simp <;> with_reducible rfl)
  try simp only [List.getElem_toArray, List.getElem_cons_zero, List.getElem_cons_succ, Act.put, List.setIfInBounds_toArray, List.set_cons_zero, List.set_cons_succ]
  refine wpAnyH_take (i := 32) (oi := _) (v := ?_) rfl (by kernel_rfl) (by kernel_rfl) (by kernel_rfl) (fun _ _ _ h => h) (Or.inl ⟨by rfl, ?_⟩) (by assumption) ?_
  rotate_left; (intro wS hSw; (try dsimp only at hSw); go_simp <;> with_reducible rfl)
  try simp only [List.getElem_toArray, List.getElem_cons_zero, List.getElem_cons_succ, Act.put, List.setIfInBounds_toArray, List.set_cons_zero, List.set_cons_succ]
  refine wpAnyH_done (by kernel_rfl) ?_ _
  obtain ⟨e0, e1, e2, e3, e4, e5, e6, e7, HBA⟩ := hHeld
  have hbf := below_ext HB.out HBA.out
  go_wp2
  go_ret
  exact ⟨rfl, hbf⟩
set_option maxHeartbeats 1600000 in
theorem rformed_3 (P Q G : Int) (ba oa ca : Nat) (a0 C : Int) (bz oz cz : Nat) (z0 : Int) (hA : Hid (memG P Q a0 = true)) (hC : Hid (expB Q C = false)) (hval : Hid (validG P Q G = true)) (hQ : Q < 9223372036854775808) (w : World) (ha : Hid (w.cell? ⟨ba, oa, none⟩ = some (.int .i64 a0))) (hz : Hid (w.cell? ⟨bz, oz, none⟩ = some (.int .i64 z0))) :
    Calls Tryz.prog 101 #[gv P Q G, prv (some ⟨ba, oa, none⟩) 1 ca C (some ⟨bz, oz, none⟩) 1 cz] w fun e' w' => e' = .returned (.bool false) ∧ Below w.heap.size w w' := by
  obtain ⟨hp2, hp, hq3, hqp⟩ := validG_P hval.out
  obtain ⟨W, hW⟩ : ∃ W, (w.alloc (gObj P Q G)).alloc (prObj (some ⟨ba, oa, none⟩) 1 ca C (some ⟨bz, oz, none⟩) 1 cz) = W := ⟨_, rfl⟩
  have HB : Hid (Below w.heap.size w W) := Lib.hid (by rw [← hW]; exact below_two (Below.refl _ _))
  have HX : Hid (GBox W w.heap.size P Q G) := Lib.hid (by rw [← hW]; exact (gbox_alloc w P Q G).below (below_box0 _ _))
  have HP : Hid (PBox W (w.heap.size + 1) (.slice (some ⟨ba, oa, none⟩) 1 ca) (.int .i64 C) (.slice (some ⟨bz, oz, none⟩) 1 cz)) := Lib.hid (by rw [← hW]; exact pbox_alloc w _ _ _ _ _)
  have HA : Hid (W.cell? ⟨ba, oa, none⟩ = some (.int .i64 a0)) := Lib.hid (cell_belowK ha.out HB.out)
  have HZ : Hid (W.cell? ⟨bz, oz, none⟩ = some (.int .i64 z0)) := Lib.hid (cell_belowK hz.out HB.out)
  have HS : Hid (∀ w1 w2 : World, Hid (Below W.heap.size W w1) → Below w1.heap.size w1 w2 → (w2.cell? ⟨w.heap.size, 0, none⟩ = some (.int .i64 P) ∧ w2.cell? ⟨w.heap.size, 1, none⟩ = some (.int .i64 Q) ∧ w2.cell? ⟨w.heap.size, 2, none⟩ = some (.int .i64 G) ∧ w2.cell? ⟨w.heap.size + 1, 0, none⟩ = some (.slice (some ⟨ba, oa, none⟩) 1 ca) ∧ w2.cell? ⟨w.heap.size + 1, 1, none⟩ = some (.int .i64 C) ∧ w2.cell? ⟨w.heap.size + 1, 2, none⟩ = some (.slice (some ⟨bz, oz, none⟩) 1 cz) ∧ w2.cell? ⟨ba, oa, none⟩ = some (.int .i64 a0) ∧ w2.cell? ⟨bz, oz, none⟩ = some (.int .i64 z0) ∧ Hid (Below W.heap.size W w2))) :=
    Lib.hid (fun w1 w2 h1 h2 => have h3 := below_ext h1.out h2; ⟨(HX.out.below h3).1, (HX.out.below h3).2.1, (HX.out.below h3).2.2, (HP.out.below h3).1, (HP.out.below h3).2.1, (HP.out.below h3).2.2, cell_belowK HA.out h3, cell_belowK HZ.out h3, Lib.hid h3⟩)
  have HB0 : Hid (Below W.heap.size W W) := Lib.hid (Below.refl _ _)
  have HW := Lib.hid hW
  clear hW
  go_enter Tryz.func101, Tryz.ntmps101
  go_wp2_with fail
  rw [HW.out]
  refine wp_region_held_drew (S := fun w' => w'.cell? ⟨w.heap.size, 0, none⟩ = some (.int .i64 P) ∧ w'.cell? ⟨w.heap.size, 1, none⟩ = some (.int .i64 Q) ∧ w'.cell? ⟨w.heap.size, 2, none⟩ = some (.int .i64 G) ∧ w'.cell? ⟨w.heap.size + 1, 0, none⟩ = some (.slice (some ⟨ba, oa, none⟩) 1 ca) ∧ w'.cell? ⟨w.heap.size + 1, 1, none⟩ = some (.int .i64 C) ∧ w'.cell? ⟨w.heap.size + 1, 2, none⟩ = some (.slice (some ⟨bz, oz, none⟩) 1 cz) ∧ w'.cell? ⟨ba, oa, none⟩ = some (.int .i64 a0) ∧ w'.cell? ⟨bz, oz, none⟩ = some (.int .i64 z0) ∧ Hid (Below W.heap.size W w')) (by kernel_rfl) (HS.out _ _ HB0 ((Below.refl W.heap.size W).drew)) (fun hHeld => ?_)
  refine wpAnyH_take (i := 0) (oi := _) (v := ?_) rfl (by kernel_rfl) (by kernel_rfl) (by kernel_rfl) (fun _ _ _ h => h) (Or.inl ⟨by rfl, ?_⟩) (by assumption) ?_
  rotate_left; (intro wS hSw; (try dsimp only at hSw); go_simp <;> with_reducible rfl)
  try simp only [List.getElem_toArray, List.getElem_cons_zero, List.getElem_cons_succ, Act.put, List.setIfInBounds_toArray, List.set_cons_zero, List.set_cons_succ]
  refine wpAnyH_take (i := 1) (oi := _) (v := ?_) rfl (by kernel_rfl) (by kernel_rfl) (by kernel_rfl) (fun _ _ _ h => h) (Or.inl ⟨by rfl, ?_⟩) (by assumption) ?_
  rotate_left; (intro wS hSw; (try dsimp only at hSw); go_simp <;> with_reducible rfl)
  try simp only [List.getElem_toArray, List.getElem_cons_zero, List.getElem_cons_succ, Act.put, List.setIfInBounds_toArray, List.set_cons_zero, List.set_cons_succ]
  refine wpAnyH_take (i := 2) (oi := _) (v := ?_) rfl (by kernel_rfl) (by kernel_rfl) (by kernel_rfl) (fun _ _ _ h => h) (Or.inl ⟨by rfl, ?_⟩) (by assumption) ?_
  rotate_left; (intro wS hSw; (try dsimp only at hSw); go_simp <;> with_reducible rfl)
  try simp only [List.getElem_toArray, List.getElem_cons_zero, List.getElem_cons_succ, Act.put, List.setIfInBounds_toArray, List.set_cons_zero, List.set_cons_succ]
  refine wpAnyH_take (i := 3) (oi := _) (v := ?_) rfl (by kernel_rfl) (by kernel_rfl) (by kernel_rfl) (fun _ _ _ h => h) (Or.inl ⟨by rfl, ?_⟩) (by assumption) ?_
  rotate_left; (intro wS hSw; (try dsimp only at hSw); go_simp <;> with_reducible rfl)
  try simp only [List.getElem_toArray, List.getElem_cons_zero, List.getElem_cons_succ, Act.put, List.setIfInBounds_toArray, List.set_cons_zero, List.set_cons_succ]
  refine wpAnyH_take (i := 4) (oi := _) (v := ?_) rfl (by kernel_rfl) (by kernel_rfl) (by kernel_rfl) (fun _ _ _ h => h) (Or.inl ⟨by rfl, ?_⟩) (by assumption) ?_
  rotate_left; (intro wS hSw; (try dsimp only at hSw); go_simp <;> with_reducible rfl)
  try simp only [List.getElem_toArray, List.getElem_cons_zero, List.getElem_cons_succ, Act.put, List.setIfInBounds_toArray, List.set_cons_zero, List.set_cons_succ]
  refine wpAnyH_take (i := 5) (oi := _) (v := ?_) rfl (by kernel_rfl) (by kernel_rfl) (by kernel_rfl) (fun _ _ _ h => h) (Or.inl ⟨by rfl, ?_⟩) (by assumption) ?_
  rotate_left; (intro wS hSw; (try dsimp only at hSw); go_simp <;> with_reducible rfl)
  try simp only [List.getElem_toArray, List.getElem_cons_zero, List.getElem_cons_succ, Act.put, List.setIfInBounds_toArray, List.set_cons_zero, List.set_cons_succ]
  refine wpAnyH_take (i := 6) (oi := _) (v := ?_) rfl (by kernel_rfl) (by kernel_rfl) (by kernel_rfl) (fun _ _ _ h => h) (Or.inl ⟨by rfl, ?_⟩) (by assumption) ?_
  rotate_left; (intro wS hSw; (try dsimp only at hSw); go_simp <;> with_reducible rfl)
  try simp only [List.getElem_toArray, List.getElem_cons_zero, List.getElem_cons_succ, Act.put, List.setIfInBounds_toArray, List.set_cons_zero, List.set_cons_succ]
  refine wpAnyH_take (i := 7) (oi := _) (v := ?_) rfl (by kernel_rfl) (by kernel_rfl) (by kernel_rfl) (fun _ _ _ h => h) (Or.inl ⟨by rfl, ?_⟩) (by assumption) ?_
  rotate_left; (intro wS hSw; (try dsimp only at hSw); go_simp <;> with_reducible rfl)
  try simp only [List.getElem_toArray, List.getElem_cons_zero, List.getElem_cons_succ, Act.put, List.setIfInBounds_toArray, List.set_cons_zero, List.set_cons_succ]
  refine wpAnyH_take (i := 8) (oi := _) (v := ?_) rfl (by kernel_rfl) (by kernel_rfl) (by kernel_rfl) (fun _ _ _ h => h) (Or.inl ⟨by rfl, ?_⟩) (by assumption) ?_
  rotate_left; (intro wS hSw; (try dsimp only at hSw); go_simp <;> with_reducible rfl)
  try simp only [List.getElem_toArray, List.getElem_cons_zero, List.getElem_cons_succ, Act.put, List.setIfInBounds_toArray, List.set_cons_zero, List.set_cons_succ]
  refine wpAnyH_take (i := 9) (oi := _) (v := ?_) rfl (by kernel_rfl) (by kernel_rfl) (by kernel_rfl) (fun _ _ _ h => h) (Or.inl ⟨by rfl, ?_⟩) (by assumption) ?_
  rotate_left; (intro wS hSw; (try dsimp only at hSw); go_simp <;> with_reducible rfl)
  try simp only [List.getElem_toArray, List.getElem_cons_zero, List.getElem_cons_succ, Act.put, List.setIfInBounds_toArray, List.set_cons_zero, List.set_cons_succ]
  refine wpAnyH_take (i := 10) (oi := _) (v := ?_) rfl (by kernel_rfl) (by kernel_rfl) (by kernel_rfl) (fun _ _ _ h => h) (Or.inl ⟨by rfl, ?_⟩) (by assumption) ?_
  rotate_left; (intro wS hSw; (try dsimp only at hSw); go_simp <;> with_reducible rfl)
  try simp only [List.getElem_toArray, List.getElem_cons_zero, List.getElem_cons_succ, Act.put, List.setIfInBounds_toArray, List.set_cons_zero, List.set_cons_succ]
  refine wpAnyH_take (i := 11) (oi := _) (v := ?_) rfl (by kernel_rfl) (by kernel_rfl) (by kernel_rfl) (fun _ _ _ h => h) (Or.inl ⟨by rfl, ?_⟩) (by assumption) ?_
  rotate_left; (intro wS hSw; (try dsimp only at hSw); go_simp <;> with_reducible rfl)
  try simp only [List.getElem_toArray, List.getElem_cons_zero, List.getElem_cons_succ, Act.put, List.setIfInBounds_toArray, List.set_cons_zero, List.set_cons_succ]
  refine wpAnyH_take (i := 12) (oi := _) (v := ?_) rfl (by kernel_rfl) (by kernel_rfl) (by kernel_rfl) (fun _ _ _ h => h) (Or.inl ⟨by rfl, ?_⟩) (by assumption) ?_
  rotate_left; (intro wS hSw; (try dsimp only at hSw); go_simp <;> with_reducible rfl)
  try simp only [List.getElem_toArray, List.getElem_cons_zero, List.getElem_cons_succ, Act.put, List.setIfInBounds_toArray, List.set_cons_zero, List.set_cons_succ]
  refine wpAnyH_take (i := 13) (oi := _) (v := ?_) rfl (by kernel_rfl) (by kernel_rfl) (by kernel_rfl) (fun _ _ _ h => h) (Or.inl ⟨by rfl, ?_⟩) (by assumption) ?_
  rotate_left; (intro wS hSw; (try dsimp only at hSw); go_simp <;> with_reducible rfl)
  try simp only [List.getElem_toArray, List.getElem_cons_zero, List.getElem_cons_succ, Act.put, List.setIfInBounds_toArray, List.set_cons_zero, List.set_cons_succ]
  refine wpAnyH_take (i := 14) (oi := _) (v := ?_) rfl (by kernel_rfl) (by kernel_rfl) (by kernel_rfl) (fun _ _ _ h => h) (Or.inl ⟨by rfl, ?_⟩) (by assumption) ?_
  rotate_left; (intro wS hSw; (try dsimp only at hSw); go_simp <;> with_reducible rfl)
  try simp only [List.getElem_toArray, List.getElem_cons_zero, List.getElem_cons_succ, Act.put, List.setIfInBounds_toArray, List.set_cons_zero, List.set_cons_succ]
  refine wpAnyH_take (i := 15) (oi := _) (v := ?_) rfl (by kernel_rfl) (by kernel_rfl) (by kernel_rfl) (fun _ _ _ h => h) (Or.inl ⟨by rfl, ?_⟩) (by assumption) ?_
  rotate_left; (intro wS hSw; (try dsimp only at hSw); go_simp <;> with_reducible rfl)
  try simp only [List.getElem_toArray, List.getElem_cons_zero, List.getElem_cons_succ, Act.put, List.setIfInBounds_toArray, List.set_cons_zero, List.set_cons_succ]
  refine wpAnyH_ready (rs := [16]) (by kernel_rfl) (by simp) ?_
  refine AllReadyH.cons rfl (fun K hK => ?_) AllReadyH.nil
  go_simp
  (go_at_call 29; (with_reducible refine (rmember_any P Q G a0 true hA hp (by omega) hQ _).mono ?_); rintro e wA ⟨rfl, hbA⟩)
  refine hK.out _ _ ?_ (fun hHeld => ?_)
  · (go_split_ands; exact HS.out _ _ (by assumption) hbA)
  clear hK K
  try simp only [List.getElem_toArray, List.getElem_cons_zero, List.getElem_cons_succ, Act.put, List.setIfInBounds_toArray, List.set_cons_zero, List.set_cons_succ]
  refine wpAnyH_take (i := 17) (oi := _) (v := ?_) rfl (by kernel_rfl) (by kernel_rfl) (by kernel_rfl) (fun _ _ _ h => h) (Or.inl ⟨by rfl, ?_⟩) (by assumption) ?_
  rotate_left; (intro wS hSw; (try dsimp only at hSw); go_simp <;> with_reducible rfl)
  try simp only [List.getElem_toArray, List.getElem_cons_zero, List.getElem_cons_succ, Act.put, List.setIfInBounds_toArray, List.set_cons_zero, List.set_cons_succ]
  refine wpAnyH_take (i := 18) (oi := _) (v := ?_) rfl (by kernel_rfl) (by kernel_rfl) (by kernel_rfl) (fun _ _ _ h => h) (Or.inl ⟨by rfl, ?_⟩) (by assumption) ?_
  rotate_left; (intro wS hSw; (try dsimp only at hSw); go_simp <;> with_reducible rfl)
  try simp only [List.getElem_toArray, List.getElem_cons_zero, List.getElem_cons_succ, Act.put, List.setIfInBounds_toArray, List.set_cons_zero, List.set_cons_succ]
  refine wpAnyH_take (i := 19) (oi := _) (v := ?_) rfl (by kernel_rfl) (by kernel_rfl) (by kernel_rfl) (fun _ _ _ h => h) (Or.inl ⟨by rfl, ?_⟩) (by assumption) ?_
  rotate_left; (intro wS hSw; (try dsimp only at hSw); go_simp <;> with_reducible rfl)
  try simp only [List.getElem_toArray, List.getElem_cons_zero, List.getElem_cons_succ, Act.put, List.setIfInBounds_toArray, List.set_cons_zero, List.set_cons_succ]
  refine wpAnyH_take (i := 20) (oi := _) (v := ?_) rfl (by kernel_rfl) (by kernel_rfl) (by kernel_rfl) (fun _ _ _ h => h) (Or.inl ⟨by rfl, ?_⟩) (by assumption) ?_
  rotate_left; (intro wS hSw; (try dsimp only at hSw); go_simp <;> with_reducible rfl)
  try simp only [List.getElem_toArray, List.getElem_cons_zero, List.getElem_cons_succ, Act.put, List.setIfInBounds_toArray, List.set_cons_zero, List.set_cons_succ]
  refine wpAnyH_take (i := 21) (oi := _) (v := ?_) rfl (by kernel_rfl) (by kernel_rfl) (by kernel_rfl) (fun _ _ _ h => h) (Or.inl ⟨by rfl, ?_⟩) (by assumption) ?_
  rotate_left; (intro wS hSw; (try dsimp only at hSw); go_simp <;> with_reducible rfl)
  try simp only [List.getElem_toArray, List.getElem_cons_zero, List.getElem_cons_succ, Act.put, List.setIfInBounds_toArray, List.set_cons_zero, List.set_cons_succ]
  refine wpAnyH_ready (rs := [22]) (by kernel_rfl) (by simp) ?_
  refine AllReadyH.cons rfl (fun K hK => ?_) AllReadyH.nil
  go_simp
  (go_at_call 135; (with_reducible refine (rexp_any P Q G C false hC _).mono ?_); rintro e wA ⟨rfl, hbA⟩)
  refine hK.out _ _ ?_ (fun hHeld => ?_)
  · (go_split_ands; exact HS.out _ _ (by assumption) hbA)
  clear hK K
  try simp only [List.getElem_toArray, List.getElem_cons_zero, List.getElem_cons_succ, Act.put, List.setIfInBounds_toArray, List.set_cons_zero, List.set_cons_succ]
  refine wpAnyH_take (i := 23) (oi := _) (v := ?_) rfl (by kernel_rfl) (by kernel_rfl) (by kernel_rfl) (fun _ _ _ h => h) (Or.inl ⟨by rfl, ?_⟩) (by assumption) ?_
  rotate_left; (intro wS hSw; (try dsimp only at hSw); go_simp <;> with_reducible rfl)
  try simp only [List.getElem_toArray, List.getElem_cons_zero, List.getElem_cons_succ, Act.put, List.setIfInBounds_toArray, List.set_cons_zero, List.set_cons_succ]
  refine wpAnyH_take (i := 24) (oi := _) (v := ?_) rfl (by kernel_rfl) (by kernel_rfl) (by kernel_rfl) (fun _ _ _ h => h) (Or.inl ⟨by rfl, ?_⟩) (by assumption) ?_
  rotate_left; (intro wS hSw; (try dsimp only at hSw); go_simp <;> with_reducible rfl)
  try simp only [List.getElem_toArray, List.getElem_cons_zero, List.getElem_cons_succ, Act.put, List.setIfInBounds_toArray, List.set_cons_zero, List.set_cons_succ]
  refine wpAnyH_take (i := 25) (oi := _) (v := undef) rfl (by kernel_rfl) (by kernel_rfl) (by kernel_rfl) (fun _ _ _ h => h) (Or.inr ⟨by rfl, rfl⟩) (by assumption) ?_
  try simp only [List.getElem_toArray, List.getElem_cons_zero, List.getElem_cons_succ, Act.put, List.setIfInBounds_toArray, List.set_cons_zero, List.set_cons_succ]
  refine wpAnyH_take (i := 26) (oi := _) (v := undef) rfl (by kernel_rfl) (by kernel_rfl) (by kernel_rfl) (fun _ _ _ h => h) (Or.inr ⟨by rfl, rfl⟩) (by assumption) ?_
  try simp only [List.getElem_toArray, List.getElem_cons_zero, List.getElem_cons_succ, Act.put, List.setIfInBounds_toArray, List.set_cons_zero, List.set_cons_succ]
  refine wpAnyH_take (i := 27) (oi := _) (v := undef) rfl (by kernel_rfl) (by kernel_rfl) (by kernel_rfl) (fun _ _ _ h => h) (Or.inr ⟨by rfl, rfl⟩) (by assumption) ?_
  try simp only [List.getElem_toArray, List.getElem_cons_zero, List.getElem_cons_succ, Act.put, List.setIfInBounds_toArray, List.set_cons_zero, List.set_cons_succ]
  refine wpAnyH_take (i := 28) (oi := _) (v := undef) rfl (by kernel_rfl) (by kernel_rfl) (by kernel_rfl) (fun _ _ _ h => h) (Or.inr ⟨by rfl, rfl⟩) (by assumption) ?_
  try simp only [List.getElem_toArray, List.getElem_cons_zero, List.getElem_cons_succ, Act.put, List.setIfInBounds_toArray, List.set_cons_zero, List.set_cons_succ]
  refine wpAnyH_take (i := 29) (oi := _) (v := undef) rfl (by kernel_rfl) (by kernel_rfl) (by kernel_rfl) (fun _ _ _ h => h) (Or.inr ⟨by rfl, rfl⟩) (by assumption) ?_
  try simp only [List.getElem_toArray, List.getElem_cons_zero, List.getElem_cons_succ, Act.put, List.setIfInBounds_toArray, List.set_cons_zero, List.set_cons_succ]
  refine wpAnyH_take (i := 30) (oi := _) (v := undef) rfl (by kernel_rfl) (by kernel_rfl) (by kernel_rfl) (fun _ _ _ h => h) (Or.inr ⟨by rfl, rfl⟩) (by assumption) ?_
  try simp only [List.getElem_toArray, List.getElem_cons_zero, List.getElem_cons_succ, Act.put, List.setIfInBounds_toArray, List.set_cons_zero, List.set_cons_succ]
  refine wpAnyH_take (i := 31) (oi := _) (v := ?_) rfl (by kernel_rfl) (by kernel_rfl) (by kernel_rfl) (fun _ _ _ h => h) (Or.inl ⟨by rfl, ?_⟩) (by assumption) ?_
  rotate_left; (intro wS hSw; (try dsimp only at hSw); go_simp <;> with_reducible rfl)
  try simp only [List.getElem_toArray, List.getElem_cons_zero, List.getElem_cons_succ, Act.put, List.setIfInBounds_toArray, List.set_cons_zero, List.set_cons_succ]
  refine wpAnyH_take (i := 32) (oi := _) (v := ?_) rfl (by kernel_rfl) (by kernel_rfl) (by kernel_rfl) (fun _ _ _ h => h) (Or.inl ⟨by rfl, ?_⟩) (by assumption) ?_
  rotate_left; (intro wS hSw; (try dsimp only at hSw); go_simp <;> with_reducible rfl)
  try simp only [List.getElem_toArray, List.getElem_cons_zero, List.getElem_cons_succ, Act.put, List.setIfInBounds_toArray, List.set_cons_zero, List.set_cons_succ]
  refine wpAnyH_done (by kernel_rfl) ?_ _
  obtain ⟨e0, e1, e2, e3, e4, e5, e6, e7, HBA⟩ := hHeld
  have hbf := below_ext HB.out HBA.out
  go_wp2
  go_ret
  exact ⟨rfl, hbf⟩
set_option maxHeartbeats 1600000 in
theorem rformed_4 (P Q G : Int) (ba oa ca : Nat) (a0 C : Int) (bz oz cz : Nat) (z0 : Int) (hA : Hid (memG P Q a0 = true)) (hC : Hid (expB Q C = true)) (hZ : Hid (expB Q z0 = false)) (hval : Hid (validG P Q G = true)) (hQ : Q < 9223372036854775808) (w : World) (ha : Hid (w.cell? ⟨ba, oa, none⟩ = some (.int .i64 a0))) (hz : Hid (w.cell? ⟨bz, oz, none⟩ = some (.int .i64 z0))) :
    Calls Tryz.prog 101 #[gv P Q G, prv (some ⟨ba, oa, none⟩) 1 ca C (some ⟨bz, oz, none⟩) 1 cz] w fun e' w' => e' = .returned (.bool false) ∧ Below w.heap.size w w' := by
  obtain ⟨hp2, hp, hq3, hqp⟩ := validG_P hval.out
  obtain ⟨W, hW⟩ : ∃ W, (w.alloc (gObj P Q G)).alloc (prObj (some ⟨ba, oa, none⟩) 1 ca C (some ⟨bz, oz, none⟩) 1 cz) = W := ⟨_, rfl⟩
  have HB : Hid (Below w.heap.size w W) := Lib.hid (by rw [← hW]; exact below_two (Below.refl _ _))
  have HX : Hid (GBox W w.heap.size P Q G) := Lib.hid (by rw [← hW]; exact (gbox_alloc w P Q G).below (below_box0 _ _))
  have HP : Hid (PBox W (w.heap.size + 1) (.slice (some ⟨ba, oa, none⟩) 1 ca) (.int .i64 C) (.slice (some ⟨bz, oz, none⟩) 1 cz)) := Lib.hid (by rw [← hW]; exact pbox_alloc w _ _ _ _ _)
  have HA : Hid (W.cell? ⟨ba, oa, none⟩ = some (.int .i64 a0)) := Lib.hid (cell_belowK ha.out HB.out)
  have HZ : Hid (W.cell? ⟨bz, oz, none⟩ = some (.int .i64 z0)) := Lib.hid (cell_belowK hz.out HB.out)
  have HS : Hid (∀ w1 w2 : World, Hid (Below W.heap.size W w1) → Below w1.heap.size w1 w2 → (w2.cell? ⟨w.heap.size, 0, none⟩ = some (.int .i64 P) ∧ w2.cell? ⟨w.heap.size, 1, none⟩ = some (.int .i64 Q) ∧ w2.cell? ⟨w.heap.size, 2, none⟩ = some (.int .i64 G) ∧ w2.cell? ⟨w.heap.size + 1, 0, none⟩ = some (.slice (some ⟨ba, oa, none⟩) 1 ca) ∧ w2.cell? ⟨w.heap.size + 1, 1, none⟩ = some (.int .i64 C) ∧ w2.cell? ⟨w.heap.size + 1, 2, none⟩ = some (.slice (some ⟨bz, oz, none⟩) 1 cz) ∧ w2.cell? ⟨ba, oa, none⟩ = some (.int .i64 a0) ∧ w2.cell? ⟨bz, oz, none⟩ = some (.int .i64 z0) ∧ Hid (Below W.heap.size W w2))) :=
    Lib.hid (fun w1 w2 h1 h2 => have h3 := below_ext h1.out h2; ⟨(HX.out.below h3).1, (HX.out.below h3).2.1, (HX.out.below h3).2.2, (HP.out.below h3).1, (HP.out.below h3).2.1, (HP.out.below h3).2.2, cell_belowK HA.out h3, cell_belowK HZ.out h3, Lib.hid h3⟩)
  have HB0 : Hid (Below W.heap.size W W) := Lib.hid (Below.refl _ _)
  have HW := Lib.hid hW
  clear hW
  go_enter Tryz.func101, Tryz.ntmps101
  go_wp2_with fail
  rw [HW.out]
  go_region_held3 (fun w' => w'.cell? ⟨w.heap.size, 0, none⟩ = some (.int .i64 P) ∧ w'.cell? ⟨w.heap.size, 1, none⟩ = some (.int .i64 Q) ∧ w'.cell? ⟨w.heap.size, 2, none⟩ = some (.int .i64 G) ∧ w'.cell? ⟨w.heap.size + 1, 0, none⟩ = some (.slice (some ⟨ba, oa, none⟩) 1 ca) ∧ w'.cell? ⟨w.heap.size + 1, 1, none⟩ = some (.int .i64 C) ∧ w'.cell? ⟨w.heap.size + 1, 2, none⟩ = some (.slice (some ⟨bz, oz, none⟩) 1 cz) ∧ w'.cell? ⟨ba, oa, none⟩ = some (.int .i64 a0) ∧ w'.cell? ⟨bz, oz, none⟩ = some (.int .i64 z0) ∧ Hid (Below W.heap.size W w'))
    (first | exact HS.out _ _ HB0 ((Below.refl W.heap.size W).drew) | (go_split_ands; exact HS.out _ _ (by assumption) hbA) | go_keep)
    (first
      | (go_at_call 29; (with_reducible refine (rmember_any P Q G a0 true hA hp (by omega) hQ _).mono ?_); rintro e wA ⟨rfl, hbA⟩)
      | (go_at_call 135; (with_reducible refine (rexp_any P Q G C true hC _).mono ?_); rintro e wA ⟨rfl, hbA⟩)
      | (go_at_call 135; (with_reducible refine (rexp_any P Q G z0 false hZ _).mono ?_); rintro e wA ⟨rfl, hbA⟩))
  rename_i hHeld
  obtain ⟨e0, e1, e2, e3, e4, e5, e6, e7, HBA⟩ := hHeld
  have hbf := below_ext HB.out HBA.out
  go_wp2
  go_ret
  exact ⟨rfl, hbf⟩
set_option maxHeartbeats 1600000 in
theorem rformed_5 (P Q G : Int) (ba oa ca : Nat) (a0 C : Int) (bz oz cz : Nat) (z0 : Int) (hA : Hid (memG P Q a0 = true)) (hC : Hid (expB Q C = true)) (hZ : Hid (expB Q z0 = true)) (hval : Hid (validG P Q G = true)) (hQ : Q < 9223372036854775808) (w : World) (ha : Hid (w.cell? ⟨ba, oa, none⟩ = some (.int .i64 a0))) (hz : Hid (w.cell? ⟨bz, oz, none⟩ = some (.int .i64 z0))) :
    Calls Tryz.prog 101 #[gv P Q G, prv (some ⟨ba, oa, none⟩) 1 ca C (some ⟨bz, oz, none⟩) 1 cz] w fun e' w' => e' = .returned (.bool true) ∧ Below w.heap.size w w' := by
  obtain ⟨hp2, hp, hq3, hqp⟩ := validG_P hval.out
  obtain ⟨W, hW⟩ : ∃ W, (w.alloc (gObj P Q G)).alloc (prObj (some ⟨ba, oa, none⟩) 1 ca C (some ⟨bz, oz, none⟩) 1 cz) = W := ⟨_, rfl⟩
  have HB : Hid (Below w.heap.size w W) := Lib.hid (by rw [← hW]; exact below_two (Below.refl _ _))
  have HX : Hid (GBox W w.heap.size P Q G) := Lib.hid (by rw [← hW]; exact (gbox_alloc w P Q G).below (below_box0 _ _))
  have HP : Hid (PBox W (w.heap.size + 1) (.slice (some ⟨ba, oa, none⟩) 1 ca) (.int .i64 C) (.slice (some ⟨bz, oz, none⟩) 1 cz)) := Lib.hid (by rw [← hW]; exact pbox_alloc w _ _ _ _ _)
  have HA : Hid (W.cell? ⟨ba, oa, none⟩ = some (.int .i64 a0)) := Lib.hid (cell_belowK ha.out HB.out)
  have HZ : Hid (W.cell? ⟨bz, oz, none⟩ = some (.int .i64 z0)) := Lib.hid (cell_belowK hz.out HB.out)
  have HS : Hid (∀ w1 w2 : World, Hid (Below W.heap.size W w1) → Below w1.heap.size w1 w2 → (w2.cell? ⟨w.heap.size, 0, none⟩ = some (.int .i64 P) ∧ w2.cell? ⟨w.heap.size, 1, none⟩ = some (.int .i64 Q) ∧ w2.cell? ⟨w.heap.size, 2, none⟩ = some (.int .i64 G) ∧ w2.cell? ⟨w.heap.size + 1, 0, none⟩ = some (.slice (some ⟨ba, oa, none⟩) 1 ca) ∧ w2.cell? ⟨w.heap.size + 1, 1, none⟩ = some (.int .i64 C) ∧ w2.cell? ⟨w.heap.size + 1, 2, none⟩ = some (.slice (some ⟨bz, oz, none⟩) 1 cz) ∧ w2.cell? ⟨ba, oa, none⟩ = some (.int .i64 a0) ∧ w2.cell? ⟨bz, oz, none⟩ = some (.int .i64 z0) ∧ Hid (Below W.heap.size W w2))) :=
    Lib.hid (fun w1 w2 h1 h2 => have h3 := below_ext h1.out h2; ⟨(HX.out.below h3).1, (HX.out.below h3).2.1, (HX.out.below h3).2.2, (HP.out.below h3).1, (HP.out.below h3).2.1, (HP.out.below h3).2.2, cell_belowK HA.out h3, cell_belowK HZ.out h3, Lib.hid h3⟩)
  have HB0 : Hid (Below W.heap.size W W) := Lib.hid (Below.refl _ _)
  have HW := Lib.hid hW
  clear hW
  go_enter Tryz.func101, Tryz.ntmps101
  go_wp2_with fail
  rw [HW.out]
  go_region_held3 (fun w' => w'.cell? ⟨w.heap.size, 0, none⟩ = some (.int .i64 P) ∧ w'.cell? ⟨w.heap.size, 1, none⟩ = some (.int .i64 Q) ∧ w'.cell? ⟨w.heap.size, 2, none⟩ = some (.int .i64 G) ∧ w'.cell? ⟨w.heap.size + 1, 0, none⟩ = some (.slice (some ⟨ba, oa, none⟩) 1 ca) ∧ w'.cell? ⟨w.heap.size + 1, 1, none⟩ = some (.int .i64 C) ∧ w'.cell? ⟨w.heap.size + 1, 2, none⟩ = some (.slice (some ⟨bz, oz, none⟩) 1 cz) ∧ w'.cell? ⟨ba, oa, none⟩ = some (.int .i64 a0) ∧ w'.cell? ⟨bz, oz, none⟩ = some (.int .i64 z0) ∧ Hid (Below W.heap.size W w'))
    (first | exact HS.out _ _ HB0 ((Below.refl W.heap.size W).drew) | (go_split_ands; exact HS.out _ _ (by assumption) hbA) | go_keep)
    (first
      | (go_at_call 29; (with_reducible refine (rmember_any P Q G a0 true hA hp (by omega) hQ _).mono ?_); rintro e wA ⟨rfl, hbA⟩)
      | (go_at_call 135; (with_reducible refine (rexp_any P Q G C true hC _).mono ?_); rintro e wA ⟨rfl, hbA⟩)
      | (go_at_call 135; (with_reducible refine (rexp_any P Q G z0 true hZ _).mono ?_); rintro e wA ⟨rfl, hbA⟩))
  rename_i hHeld
  obtain ⟨e0, e1, e2, e3, e4, e5, e6, e7, HBA⟩ := hHeld
  have hbf := below_ext HB.out HBA.out
  go_wp2
  go_ret
  exact ⟨rfl, hbf⟩
/-- THE CONTRACT. -/
theorem formed_any (P Q G : Int) (pa : Option Addr) (na ca : Nat) (a0 C : Int) (pz : Option Addr) (nz cz : Nat) (z0 : Int) (b : Bool) (hb : Hid (formB P Q na a0 C nz z0 = b)) (hval : Hid (validG P Q G = true)) (hQ : Q < 9223372036854775808) (w : World) (hv : Hid (Vars w))
    (hA : Hid (One w pa na a0)) (hZ : Hid (One w pz nz z0)) :
    Calls Tryz.prog 99 #[gv P Q G, prv pa na ca C pz nz cz] w fun e' w' => e' = .returned (.bool b) ∧ Below w.heap.size w w' := by
  have hb' := hb.out
  by_cases h1 : na = 1
  · obtain ⟨ba, oa, rfl, ha⟩ := hA.out h1
    subst h1
    cases h2 : memG P Q a0 with
    | false =>
      obtain rfl : b = false := by rw [← hb', formB, h2]; simp
      exact formed_1 P Q G ba oa ca a0 C pz nz cz z0 (Lib.hid (by rw [conG, hval.out, h2]; rfl)) hval hQ w hv (Lib.hid ha)
    | true =>
      have HA : Hid (conG P Q G a0 = true) := Lib.hid (by rw [conG, hval.out, h2]; rfl)
      cases h3 : expB Q C with
      | false =>
        obtain rfl : b = false := by rw [← hb', formB, h3]; simp
        exact formed_2 P Q G ba oa ca a0 C pz nz cz z0 HA (Lib.hid h3) hval hQ w hv (Lib.hid ha)
      | true =>
        by_cases h4 : nz = 1
        · obtain ⟨bz, oz, rfl, hz⟩ := hZ.out h4
          subst h4
          cases h5 : expB Q z0 with
          | false =>
            obtain rfl : b = false := by rw [← hb', formB, h5]; simp
            exact formed_4 P Q G ba oa ca a0 C bz oz cz z0 HA (Lib.hid h3) (Lib.hid h5) hval hQ w hv (Lib.hid ha) (Lib.hid hz)
          | true =>
            obtain rfl : b = true := by rw [← hb', formB, h2, h3, h5]; rfl
            exact formed_5 P Q G ba oa ca a0 C bz oz cz z0 HA (Lib.hid h3) (Lib.hid h5) hval hQ w hv (Lib.hid ha) (Lib.hid hz)
        · obtain rfl : b = false := by rw [← hb', formB]; simp [h4]
          exact formed_3 P Q G ba oa ca a0 C pz nz cz z0 (by simp; omega) HA (Lib.hid h3) hval hQ w hv (Lib.hid ha)
  · obtain rfl : b = false := by rw [← hb', formB]; simp [h1]
    exact formed_0 P Q G pa na ca a0 C pz nz cz z0 (by simp; omega) hval hQ w hv
/-- THE CONTRACT. -/
theorem rformed_any (P Q G : Int) (pa : Option Addr) (na ca : Nat) (a0 C : Int) (pz : Option Addr) (nz cz : Nat) (z0 : Int) (b : Bool) (hb : Hid (formB P Q na a0 C nz z0 = b)) (hval : Hid (validG P Q G = true)) (hQ : Q < 9223372036854775808) (w : World)
    (hA : Hid (One w pa na a0)) (hZ : Hid (One w pz nz z0)) :
    Calls Tryz.prog 101 #[gv P Q G, prv pa na ca C pz nz cz] w fun e' w' => e' = .returned (.bool b) ∧ Below w.heap.size w w' := by
  have hb' := hb.out
  by_cases h1 : na = 1
  · obtain ⟨ba, oa, rfl, ha⟩ := hA.out h1
    subst h1
    by_cases h4 : nz = 1
    · obtain ⟨bz, oz, rfl, hz⟩ := hZ.out h4
      subst h4
      cases h2 : memG P Q a0 with
      | false =>
        obtain rfl : b = false := by rw [← hb', formB, h2]; simp
        exact rformed_2 P Q G ba oa ca a0 C bz oz cz z0 (Lib.hid h2) hval hQ w (Lib.hid ha) (Lib.hid hz)
      | true =>
        cases h3 : expB Q C with
        | false =>
          obtain rfl : b = false := by rw [← hb', formB, h3]; simp
          exact rformed_3 P Q G ba oa ca a0 C bz oz cz z0 (Lib.hid h2) (Lib.hid h3) hval hQ w (Lib.hid ha) (Lib.hid hz)
        | true =>
          cases h5 : expB Q z0 with
          | false =>
            obtain rfl : b = false := by rw [← hb', formB, h5]; simp
            exact rformed_4 P Q G ba oa ca a0 C bz oz cz z0 (Lib.hid h2) (Lib.hid h3) (Lib.hid h5) hval hQ w (Lib.hid ha) (Lib.hid hz)
          | true =>
            obtain rfl : b = true := by rw [← hb', formB, h2, h3, h5]; rfl
            exact rformed_5 P Q G ba oa ca a0 C bz oz cz z0 (Lib.hid h2) (Lib.hid h3) (Lib.hid h5) hval hQ w (Lib.hid ha) (Lib.hid hz)
    · obtain rfl : b = false := by rw [← hb', formB]; simp [h4]
      exact rformed_1 P Q G ba oa ca a0 C pz nz cz z0 (by simp; omega) hval hQ w (Lib.hid ha)
  · obtain rfl : b = false := by rw [← hb', formB]; simp [h1]
    exact rformed_0 P Q G pa na ca a0 C pz nz cz z0 (by simp; omega) hval hQ w
end Go.Proofs.YtdlhodbiaoafiaaGreatDoor
namespace Go.Proofs.YtdlhodbiaoafiaaGreatDoor
open Go.RowKit SpM
set_option linter.unusedVariables false
/-- which proofs are right. -/
def chkB (P Q G b y : Int) (na : Nat) (a0 C : Int) (nz : Nat) (z0 : Int) : Bool := validG P Q G && (okB P Q b && (memG P Q y && (formB P Q na a0 C nz z0 && (pw b (z0 % Q) P == a0 * pw y (C % Q) P % P))))
theorem formB_parts {P Q : Int} {na : Nat} {a0 C : Int} {nz : Nat} {z0 : Int} (h : formB P Q na a0 C nz z0 = true) : na = 1 ∧ nz = 1 ∧ memG P Q a0 = true ∧ expB Q C = true ∧ expB Q z0 = true := by
  simp [formB] at h
  exact ⟨h.1, h.2.1, h.2.2.1, h.2.2.2.1, h.2.2.2.2⟩
set_option maxHeartbeats 6400000 in
theorem check_any16 (P Q G b y : Int) (pa : Option Addr) (na ca : Nat) (a0 C : Int) (pz : Option Addr) (nz cz : Nat) (z0 : Int) (r : Bool) (hr : Hid (chkB P Q G b y na a0 C nz z0 = r)) (hQ : Q < 9223372036854775808) (w : World) (hv : Hid (Vars w))
    (hA : Hid (One w pa na a0)) (hZ : Hid (One w pz nz z0)) :
    Calls Tryz.prog 67 #[gv P Q G, .int .i64 b, .int .i64 y, prv pa na ca C pz nz cz] w fun e' w' => e' = .returned (.bool r) ∧ Below w.heap.size w w' := by
  obtain ⟨w0, hW⟩ : ∃ W, (w.alloc (gObj P Q G)).alloc (prObj pa na ca C pz nz cz) = W := ⟨_, rfl⟩
  have HB : Hid (Below w.heap.size w w0) := Lib.hid (by rw [← hW]; exact below_two (Below.refl _ _))
  have HX0 : Hid (GBox w0 w.heap.size P Q G) := Lib.hid (by rw [← hW]; exact (gbox_alloc w P Q G).below (below_box0 _ _))
  have HP0 : Hid (PBox w0 (w.heap.size + 1) (.slice pa na ca) (.int .i64 C) (.slice pz nz cz)) := Lib.hid (by rw [← hW]; exact pbox_alloc w _ _ _ _ _)
  have HA0 : Hid (One w0 pa na a0) := Lib.hid (hA.out.below HB.out)
  have HZ0 : Hid (One w0 pz nz z0) := Lib.hid (hZ.out.below HB.out)
  have HV0 : Hid (Vars w0) := Lib.hid (hv.out.below HB.out)
  have HW := Lib.hid hW
  clear hW
  have hr' := hr.out
  cases hval : validG P Q G with
  | false =>
    obtain rfl : r = false := by rw [← hr', chkB, hval]; simp
    have HVL : Hid (validG P Q G = false) := hval
    clear hr' hr hval
    go_enter Tryz.func67, Tryz.ntmps67
    go_wp2_with fail
    rw [HW.out]
    go_wp2_with fail
    refine (valid_any P Q G false HVL hQ _ HV0).mono ?_
    rintro e w1 ⟨rfl, hb0⟩
    have hb1 := below_ext (HB.out) hb0
    clear hb0
    go_wp2
    go_ret
    exact ⟨rfl, hb1⟩
  | true =>
    have HVL : Hid (validG P Q G = true) := hval
    obtain ⟨hp2, hp, hq3, hqp⟩ := validG_P hval
    cases hk : okB P Q b with
    | false =>
      obtain rfl : r = false := by rw [← hr', chkB, hk]; simp
      have HK : Hid (okB P Q b = false) := hk
      clear hr' hr hval hk
      go_enter Tryz.func67, Tryz.ntmps67
      go_wp2_with fail
      rw [HW.out]
      go_wp2_with fail
      refine (valid_any P Q G true HVL hQ _ HV0).mono ?_
      rintro e w1 ⟨rfl, hb0⟩
      have hb1 := below_ext (HB.out) hb0
      have HV1 := Lib.hid (HV0.out.below hb0)
      have HX1 := Lib.hid (HX0.out.below hb0)
      have HP1 := Lib.hid (HP0.out.below hb0)
      have HA1 := Lib.hid (HA0.out.below hb0)
      have HZ1 := Lib.hid (HZ0.out.below hb0)
      clear hb0
      obtain ⟨c0, c1, c2⟩ := HX1.out
      obtain ⟨d0, d1, d2⟩ := HP1.out
      go_wp2_with fail
      refine (kbase_any P Q G b false HVL HK _ HV1).mono ?_
      rintro e w2 ⟨rfl, hb0⟩
      have hb2 := below_ext hb1 hb0
      clear hb0
      go_wp2
      go_ret
      exact ⟨rfl, hb2⟩
    | true =>
      have HK : Hid (okB P Q b = true) := hk
      cases hm : memG P Q y with
      | false =>
        obtain rfl : r = false := by rw [← hr', chkB, hm]; simp
        have HM : Hid (memG P Q y = false) := hm
        have HC : Hid (conG P Q G y = false) := Lib.hid (by rw [conG, hval, hm]; rfl)
        clear hr' hr hval hk hm
        go_enter Tryz.func67, Tryz.ntmps67
        go_wp2_with fail
        rw [HW.out]
        go_wp2_with fail
        refine (valid_any P Q G true HVL hQ _ HV0).mono ?_
        rintro e w1 ⟨rfl, hb0⟩
        have hb1 := below_ext (HB.out) hb0
        have HV1 := Lib.hid (HV0.out.below hb0)
        have HX1 := Lib.hid (HX0.out.below hb0)
        have HP1 := Lib.hid (HP0.out.below hb0)
        have HA1 := Lib.hid (HA0.out.below hb0)
        have HZ1 := Lib.hid (HZ0.out.below hb0)
        clear hb0
        obtain ⟨c0, c1, c2⟩ := HX1.out
        obtain ⟨d0, d1, d2⟩ := HP1.out
        go_wp2_with fail
        refine (kbase_any P Q G b true HVL HK _ HV1).mono ?_
        rintro e w2 ⟨rfl, hb0⟩
        have hb2 := below_ext hb1 hb0
        have HV2 := Lib.hid (HV1.out.below hb0)
        have HX2 := Lib.hid (HX1.out.below hb0)
        have HP2 := Lib.hid (HP1.out.below hb0)
        have HA2 := Lib.hid (HA1.out.below hb0)
        have HZ2 := Lib.hid (HZ1.out.below hb0)
        clear c0 c1 c2 d0 d1 d2 hb0
        obtain ⟨c0, c1, c2⟩ := HX2.out
        obtain ⟨d0, d1, d2⟩ := HP2.out
        go_wp2_with fail
        refine (contains_any P Q G y false HC hQ _ HV2).mono ?_
        rintro e w3 ⟨rfl, hb0⟩
        have hb3 := below_ext hb2 hb0
        clear hb0
        go_wp2
        go_ret
        exact ⟨rfl, hb3⟩
      | true =>
        have HM : Hid (memG P Q y = true) := hm
        have HC : Hid (conG P Q G y = true) := Lib.hid (by rw [conG, hval, hm]; rfl)
        cases hf : formB P Q na a0 C nz z0 with
        | false =>
          obtain rfl : r = false := by rw [← hr', chkB, hf]; simp
          have HF : Hid (formB P Q na a0 C nz z0 = false) := hf
          clear hr' hr hval hk hm hf
          go_enter Tryz.func67, Tryz.ntmps67
          go_wp2_with fail
          rw [HW.out]
          go_wp2_with fail
          refine (valid_any P Q G true HVL hQ _ HV0).mono ?_
          rintro e w1 ⟨rfl, hb0⟩
          have hb1 := below_ext (HB.out) hb0
          have HV1 := Lib.hid (HV0.out.below hb0)
          have HX1 := Lib.hid (HX0.out.below hb0)
          have HP1 := Lib.hid (HP0.out.below hb0)
          have HA1 := Lib.hid (HA0.out.below hb0)
          have HZ1 := Lib.hid (HZ0.out.below hb0)
          clear hb0
          obtain ⟨c0, c1, c2⟩ := HX1.out
          obtain ⟨d0, d1, d2⟩ := HP1.out
          go_wp2_with fail
          refine (kbase_any P Q G b true HVL HK _ HV1).mono ?_
          rintro e w2 ⟨rfl, hb0⟩
          have hb2 := below_ext hb1 hb0
          have HV2 := Lib.hid (HV1.out.below hb0)
          have HX2 := Lib.hid (HX1.out.below hb0)
          have HP2 := Lib.hid (HP1.out.below hb0)
          have HA2 := Lib.hid (HA1.out.below hb0)
          have HZ2 := Lib.hid (HZ1.out.below hb0)
          clear c0 c1 c2 d0 d1 d2 hb0
          obtain ⟨c0, c1, c2⟩ := HX2.out
          obtain ⟨d0, d1, d2⟩ := HP2.out
          go_wp2_with fail
          refine (contains_any P Q G y true HC hQ _ HV2).mono ?_
          rintro e w3 ⟨rfl, hb0⟩
          have hb3 := below_ext hb2 hb0
          have HV3 := Lib.hid (HV2.out.below hb0)
          have HX3 := Lib.hid (HX2.out.below hb0)
          have HP3 := Lib.hid (HP2.out.below hb0)
          have HA3 := Lib.hid (HA2.out.below hb0)
          have HZ3 := Lib.hid (HZ2.out.below hb0)
          clear c0 c1 c2 d0 d1 d2 hb0
          obtain ⟨c0, c1, c2⟩ := HX3.out
          obtain ⟨d0, d1, d2⟩ := HP3.out
          go_wp2_with fail
          refine (formed_any P Q G pa na ca a0 C pz nz cz z0 false HF HVL hQ _ HV3 HA3 HZ3).mono ?_
          rintro e w4 ⟨rfl, hb0⟩
          have hb4 := below_ext hb3 hb0
          clear hb0
          go_wp2
          go_ret
          exact ⟨rfl, hb4⟩
        | true =>
          have HF : Hid (formB P Q na a0 C nz z0 = true) := hf
          obtain ⟨rfl, rfl, hma, hC, hZ0⟩ := formB_parts hf
          obtain ⟨ba, oa, rfl, hca⟩ := hA.out rfl
          obtain ⟨bz, oz, rfl, hcz⟩ := hZ.out rfl
          have hbm := okB_mem hk
          have Cl := expB_lo hC
          have Cu := expB_hi hC
          have Zl := expB_lo hZ0
          have Zu := expB_hi hZ0
          obtain ⟨p1, hp1⟩ : ∃ p1, pw b (z0 % Q) P = p1 := ⟨_, rfl⟩
          obtain ⟨p2, hp2'⟩ : ∃ p2, pw y (C % Q) P = p2 := ⟨_, rfl⟩
          obtain ⟨p3, hp3⟩ : ∃ p3, a0 * p2 % P = p3 := ⟨_, rfl⟩
          have m2 : memG P Q p2 = true := by rw [← hp2']; exact mem_pw hp2 (by omega) (Int.emod_nonneg _ (by omega)) hm
          have HCb : Hid (chkG P Q G [b] = 0) := Lib.hid (chkG_ok hval (by simp [hbm]))
          have HCy : Hid (chkG P Q G [y] = 0) := Lib.hid (chkG_ok hval (by simp [hm]))
          have HCm : Hid (chkG P Q G [a0, p2] = 0) := Lib.hid (chkG_ok hval (by simp [hma, m2]))
          have HG : Hid (givE P Q G b y = 0) := Lib.hid (by rw [givE, hval, hk, hm]; rfl)
          have heq : ((p1 : Int) == p3) = r := by rw [← hr', chkB, hval, hk, hm, hf, hp1, hp2', hp3]; rfl
          have H1 := Lib.hid hp1
          have H2 := Lib.hid hp2'
          have H3 := Lib.hid hp3
          have bl := memG_lo hbm
          have bu := memG_hi hbm
          have yl := memG_lo hm
          have yu := memG_hi hm
          have al := memG_lo hma
          have au := memG_hi hma
          have l2 := memG_lo m2
          have u2 := memG_hi m2
          have HCA : Hid (w.cell? ⟨ba, oa, none⟩ = some (.int .i64 a0)) := Lib.hid hca
          have HCZ : Hid (w.cell? ⟨bz, oz, none⟩ = some (.int .i64 z0)) := Lib.hid hcz
          clear hr' hr hval hk hm hf hma hC hZ0 hca hcz hbm hp1 hp2' hp3 m2
          go_enter Tryz.func67, Tryz.ntmps67
          go_wp2_with fail
          rw [HW.out]
          go_wp2_with fail
          refine (valid_any P Q G true HVL hQ _ HV0).mono ?_
          rintro e w1 ⟨rfl, hb0⟩
          have hb1 := below_ext (HB.out) hb0
          have HV1 := Lib.hid (HV0.out.below hb0)
          have HX1 := Lib.hid (HX0.out.below hb0)
          have HP1 := Lib.hid (HP0.out.below hb0)
          have HA1 := Lib.hid (HA0.out.below hb0)
          have HZ1 := Lib.hid (HZ0.out.below hb0)
          clear hb0
          obtain ⟨c0, c1, c2⟩ := HX1.out
          obtain ⟨d0, d1, d2⟩ := HP1.out
          go_wp2_with fail
          refine (kbase_any P Q G b true HVL HK _ HV1).mono ?_
          rintro e w2 ⟨rfl, hb0⟩
          have hb2 := below_ext hb1 hb0
          have HV2 := Lib.hid (HV1.out.below hb0)
          have HX2 := Lib.hid (HX1.out.below hb0)
          have HP2 := Lib.hid (HP1.out.below hb0)
          have HA2 := Lib.hid (HA1.out.below hb0)
          have HZ2 := Lib.hid (HZ1.out.below hb0)
          clear c0 c1 c2 d0 d1 d2 hb0
          obtain ⟨c0, c1, c2⟩ := HX2.out
          obtain ⟨d0, d1, d2⟩ := HP2.out
          go_wp2_with fail
          refine (contains_any P Q G y true HC hQ _ HV2).mono ?_
          rintro e w3 ⟨rfl, hb0⟩
          have hb3 := below_ext hb2 hb0
          have HV3 := Lib.hid (HV2.out.below hb0)
          have HX3 := Lib.hid (HX2.out.below hb0)
          have HP3 := Lib.hid (HP2.out.below hb0)
          have HA3 := Lib.hid (HA2.out.below hb0)
          have HZ3 := Lib.hid (HZ2.out.below hb0)
          clear c0 c1 c2 d0 d1 d2 hb0
          obtain ⟨c0, c1, c2⟩ := HX3.out
          obtain ⟨d0, d1, d2⟩ := HP3.out
          go_wp2_with fail
          refine (formed_any P Q G (some ⟨ba, oa, none⟩) 1 ca a0 C (some ⟨bz, oz, none⟩) 1 cz z0 true HF HVL hQ _ HV3 HA3 HZ3).mono ?_
          rintro e w4 ⟨rfl, hb0⟩
          have hb4 := below_ext hb3 hb0
          have HV4 := Lib.hid (HV3.out.below hb0)
          have HX4 := Lib.hid (HX3.out.below hb0)
          have HP4 := Lib.hid (HP3.out.below hb0)
          have HA4 := Lib.hid (HA3.out.below hb0)
          have HZ4 := Lib.hid (HZ3.out.below hb0)
          clear c0 c1 c2 d0 d1 d2 hb0
          obtain ⟨c0, c1, c2⟩ := HX4.out
          obtain ⟨d0, d1, d2⟩ := HP4.out
          clear c0 c1 c2 d0 d1 d2
          have HA4a : Hid (w4.cell? ⟨ba, oa, none⟩ = some (.int .i64 a0)) := Lib.hid (cell_belowK HCA.out hb4)
          have HZ4a : Hid (w4.cell? ⟨bz, oz, none⟩ = some (.int .i64 z0)) := Lib.hid (cell_belowK HCZ.out hb4)
          clear HA4 HZ4
          have HA4 := HA4a
          have HZ4 := HZ4a
          have hSa := Lib.hid (show ∀ v1 v2 : World, Hid (Below w4.heap.size w4 v1) → Below v1.heap.size v1 v2 → (v2.cell? ⟨w.heap.size, 0, none⟩ = some (.int .i64 P) ∧ v2.cell? ⟨w.heap.size, 1, none⟩ = some (.int .i64 Q) ∧ v2.cell? ⟨w.heap.size, 2, none⟩ = some (.int .i64 G) ∧ v2.cell? ⟨w.heap.size + 1, 0, none⟩ = some (.slice (some ⟨ba, oa, none⟩) 1 ca) ∧ v2.cell? ⟨w.heap.size + 1, 1, none⟩ = some (.int .i64 C) ∧ v2.cell? ⟨w.heap.size + 1, 2, none⟩ = some (.slice (some ⟨bz, oz, none⟩) 1 cz) ∧ v2.cell? ⟨ba, oa, none⟩ = some (.int .i64 a0) ∧ v2.cell? ⟨bz, oz, none⟩ = some (.int .i64 z0) ∧ Hid (Below w4.heap.size w4 v2)) from fun v1 v2 h1 h2 => have h3 := below_ext h1.out h2; ⟨(HX4.out.below h3).1, (HX4.out.below h3).2.1, (HX4.out.below h3).2.2, (HP4.out.below h3).1, (HP4.out.below h3).2.1, (HP4.out.below h3).2.2, cell_belowK HA4.out h3, cell_belowK HZ4.out h3, Lib.hid h3⟩)
          have hRa : Hid (Below w4.heap.size w4 w4) := Lib.hid (Below.refl _ _)
          have hVa := Lib.hid (show ∀ v1 : World, Hid (Below w4.heap.size w4 v1) → Hid (Vars v1) from fun v1 h1 => Lib.hid (HV4.out.below h1.out))
          go_wp2_with fail
          go_region_held3 (fun w' => w'.cell? ⟨w.heap.size, 0, none⟩ = some (.int .i64 P) ∧ w'.cell? ⟨w.heap.size, 1, none⟩ = some (.int .i64 Q) ∧ w'.cell? ⟨w.heap.size, 2, none⟩ = some (.int .i64 G) ∧ w'.cell? ⟨w.heap.size + 1, 0, none⟩ = some (.slice (some ⟨ba, oa, none⟩) 1 ca) ∧ w'.cell? ⟨w.heap.size + 1, 1, none⟩ = some (.int .i64 C) ∧ w'.cell? ⟨w.heap.size + 1, 2, none⟩ = some (.slice (some ⟨bz, oz, none⟩) 1 cz) ∧ w'.cell? ⟨ba, oa, none⟩ = some (.int .i64 a0) ∧ w'.cell? ⟨bz, oz, none⟩ = some (.int .i64 z0) ∧ Hid (Below w4.heap.size w4 w'))
            (first | exact hSa.out _ _ hRa ((Below.refl w4.heap.size w4).drew) | (go_split_ands; exact hSa.out _ _ (by assumption) hbA) | go_keep)
            (first
              | (go_at_call 32; (refine (gpow_ok P Q G b z0 p1 HCb H1 (by omega) (by omega) _ ?_).mono ?_); rotate_left; rintro e wA ⟨rfl, hbA⟩; rotate_left; (go_split_ands; exact hVa.out _ (by assumption))))
          rename_i hHeld
          obtain ⟨e0, e1, e2, e3, e4, e5, e6, e7, hbQ⟩ := hHeld
          have hb5 := below_ext hb4 hbQ.out
          have HV5 := Lib.hid (HV4.out.below hbQ.out)
          have HX5 := Lib.hid (HX4.out.below hbQ.out)
          have HP5 := Lib.hid (HP4.out.below hbQ.out)
          have HA5 := Lib.hid (cell_belowK HA4.out hbQ.out)
          have HZ5 := Lib.hid (cell_belowK HZ4.out hbQ.out)
          obtain ⟨w5, hw5⟩ : ∃ w5, wA = w5 := ⟨_, rfl⟩
          subst hw5
          obtain ⟨c0, c1, c2⟩ := HX5.out
          obtain ⟨d0, d1, d2⟩ := HP5.out
          clear e0 e1 e2 e3 e4 e5 e6 e7
          go_wp2_with fail
          refine (gpow_ok P Q G y C p2 HCy H2 (by omega) (by omega) _ HV5).mono ?_
          rintro e w6 ⟨rfl, hb0⟩
          have hb6 := below_ext hb5 hb0
          have HV6 := Lib.hid (HV5.out.below hb0)
          have HX6 := Lib.hid (HX5.out.below hb0)
          have HP6 := Lib.hid (HP5.out.below hb0)
          have HA6 := Lib.hid (cell_belowK HA5.out hb0)
          have HZ6 := Lib.hid (cell_belowK HZ5.out hb0)
          clear hb0 c0 c1 c2 d0 d1 d2
          have hSb := Lib.hid (show ∀ v1 v2 : World, Hid (Below w6.heap.size w6 v1) → Below v1.heap.size v1 v2 → (v2.cell? ⟨w.heap.size, 0, none⟩ = some (.int .i64 P) ∧ v2.cell? ⟨w.heap.size, 1, none⟩ = some (.int .i64 Q) ∧ v2.cell? ⟨w.heap.size, 2, none⟩ = some (.int .i64 G) ∧ v2.cell? ⟨w.heap.size + 1, 0, none⟩ = some (.slice (some ⟨ba, oa, none⟩) 1 ca) ∧ v2.cell? ⟨w.heap.size + 1, 1, none⟩ = some (.int .i64 C) ∧ v2.cell? ⟨w.heap.size + 1, 2, none⟩ = some (.slice (some ⟨bz, oz, none⟩) 1 cz) ∧ v2.cell? ⟨ba, oa, none⟩ = some (.int .i64 a0) ∧ v2.cell? ⟨bz, oz, none⟩ = some (.int .i64 z0) ∧ Hid (Below w6.heap.size w6 v2)) from fun v1 v2 h1 h2 => have h3 := below_ext h1.out h2; ⟨(HX6.out.below h3).1, (HX6.out.below h3).2.1, (HX6.out.below h3).2.2, (HP6.out.below h3).1, (HP6.out.below h3).2.1, (HP6.out.below h3).2.2, cell_belowK HA6.out h3, cell_belowK HZ6.out h3, Lib.hid h3⟩)
          have hRb : Hid (Below w6.heap.size w6 w6) := Lib.hid (Below.refl _ _)
          have hVb := Lib.hid (show ∀ v1 : World, Hid (Below w6.heap.size w6 v1) → Hid (Vars v1) from fun v1 h1 => Lib.hid (HV6.out.below h1.out))
          go_wp2_with fail
          go_region_held3 (fun w' => w'.cell? ⟨w.heap.size, 0, none⟩ = some (.int .i64 P) ∧ w'.cell? ⟨w.heap.size, 1, none⟩ = some (.int .i64 Q) ∧ w'.cell? ⟨w.heap.size, 2, none⟩ = some (.int .i64 G) ∧ w'.cell? ⟨w.heap.size + 1, 0, none⟩ = some (.slice (some ⟨ba, oa, none⟩) 1 ca) ∧ w'.cell? ⟨w.heap.size + 1, 1, none⟩ = some (.int .i64 C) ∧ w'.cell? ⟨w.heap.size + 1, 2, none⟩ = some (.slice (some ⟨bz, oz, none⟩) 1 cz) ∧ w'.cell? ⟨ba, oa, none⟩ = some (.int .i64 a0) ∧ w'.cell? ⟨bz, oz, none⟩ = some (.int .i64 z0) ∧ Hid (Below w6.heap.size w6 w'))
            (first | exact hSb.out _ _ hRb ((Below.refl w6.heap.size w6).drew) | (go_split_ands; exact hSb.out _ _ (by assumption) hbA) | go_keep)
            (first
              | (go_at_call 66; (refine (gmul_ok P Q G a0 p2 p3 HCm H3 hQ _ ?_).mono ?_); rotate_left; rintro e wA ⟨rfl, hbA⟩; rotate_left; (go_split_ands; exact hVb.out _ (by assumption))))
          rename_i hHeld
          obtain ⟨e0, e1, e2, e3, e4, e5, e6, e7, hbQ⟩ := hHeld
          have hb7 := below_ext hb6 hbQ.out
          have HV7 := Lib.hid (HV6.out.below hbQ.out)
          have HX7 := Lib.hid (HX6.out.below hbQ.out)
          have HP7 := Lib.hid (HP6.out.below hbQ.out)
          have HA7 := Lib.hid (cell_belowK HA6.out hbQ.out)
          have HZ7 := Lib.hid (cell_belowK HZ6.out hbQ.out)
          obtain ⟨w7, hw7⟩ : ∃ w7, wA = w7 := ⟨_, rfl⟩
          subst hw7
          go_wp2
          go_ret
          exact ⟨rfl, hb7⟩
set_option maxHeartbeats 6400000 in
theorem rcheck_any16 (P Q G b y : Int) (pa : Option Addr) (na ca : Nat) (a0 C : Int) (pz : Option Addr) (nz cz : Nat) (z0 : Int) (r : Bool) (hr : Hid (chkB P Q G b y na a0 C nz z0 = r)) (hQ : Q < 9223372036854775808) (w : World)
    (hA : Hid (One w pa na a0)) (hZ : Hid (One w pz nz z0)) :
    Calls Tryz.prog 70 #[gv P Q G, .int .i64 b, .int .i64 y, prv pa na ca C pz nz cz] w fun e' w' => e' = .returned (.bool r) ∧ Below w.heap.size w w' := by
  obtain ⟨w0, hW⟩ : ∃ W, (w.alloc (gObj P Q G)).alloc (prObj pa na ca C pz nz cz) = W := ⟨_, rfl⟩
  have HB : Hid (Below w.heap.size w w0) := Lib.hid (by rw [← hW]; exact below_two (Below.refl _ _))
  have HX0 : Hid (GBox w0 w.heap.size P Q G) := Lib.hid (by rw [← hW]; exact (gbox_alloc w P Q G).below (below_box0 _ _))
  have HP0 : Hid (PBox w0 (w.heap.size + 1) (.slice pa na ca) (.int .i64 C) (.slice pz nz cz)) := Lib.hid (by rw [← hW]; exact pbox_alloc w _ _ _ _ _)
  have HA0 : Hid (One w0 pa na a0) := Lib.hid (hA.out.below HB.out)
  have HZ0 : Hid (One w0 pz nz z0) := Lib.hid (hZ.out.below HB.out)
  have HW := Lib.hid hW
  clear hW
  have hr' := hr.out
  cases hval : validG P Q G with
  | false =>
    obtain rfl : r = false := by rw [← hr', chkB, hval]; simp
    have HVL : Hid (validG P Q G = false) := hval
    have HG : Hid (givE P Q G b y = 1) := Lib.hid (by rw [givE, hval]; rfl)
    clear hr' hr hval
    go_enter Tryz.func70, Tryz.ntmps70
    go_wp2_with fail
    rw [HW.out]
    go_wp2_with fail
    refine (given_any P Q G b y 1 HG hQ _).mono ?_
    rintro e w1 ⟨rfl, hb0⟩
    have hb1 := below_ext (HB.out) hb0
    clear hb0
    go_wp2
    go_ret
    exact ⟨rfl, hb1⟩
  | true =>
    have HVL : Hid (validG P Q G = true) := hval
    obtain ⟨hp2, hp, hq3, hqp⟩ := validG_P hval
    cases hk : okB P Q b with
    | false =>
      obtain rfl : r = false := by rw [← hr', chkB, hk]; simp
      have HK : Hid (okB P Q b = false) := hk
      have HG : Hid (givE P Q G b y = 2) := Lib.hid (by rw [givE, hval, hk]; rfl)
      clear hr' hr hval hk
      go_enter Tryz.func70, Tryz.ntmps70
      go_wp2_with fail
      rw [HW.out]
      go_wp2_with fail
      refine (given_any P Q G b y 2 HG hQ _).mono ?_
      rintro e w1 ⟨rfl, hb0⟩
      have hb1 := below_ext (HB.out) hb0
      clear hb0
      go_wp2
      go_ret
      exact ⟨rfl, hb1⟩
    | true =>
      have HK : Hid (okB P Q b = true) := hk
      cases hm : memG P Q y with
      | false =>
        obtain rfl : r = false := by rw [← hr', chkB, hm]; simp
        have HM : Hid (memG P Q y = false) := hm
        have HG : Hid (givE P Q G b y = 2) := Lib.hid (by rw [givE, hval, hk, hm]; rfl)
        clear hr' hr hval hk hm
        go_enter Tryz.func70, Tryz.ntmps70
        go_wp2_with fail
        rw [HW.out]
        go_wp2_with fail
        refine (given_any P Q G b y 2 HG hQ _).mono ?_
        rintro e w1 ⟨rfl, hb0⟩
        have hb1 := below_ext (HB.out) hb0
        clear hb0
        go_wp2
        go_ret
        exact ⟨rfl, hb1⟩
      | true =>
        have HM : Hid (memG P Q y = true) := hm
        cases hf : formB P Q na a0 C nz z0 with
        | false =>
          obtain rfl : r = false := by rw [← hr', chkB, hf]; simp
          have HF : Hid (formB P Q na a0 C nz z0 = false) := hf
          have HG : Hid (givE P Q G b y = 0) := Lib.hid (by rw [givE, hval, hk, hm]; rfl)
          clear hr' hr hval hk hm hf
          go_enter Tryz.func70, Tryz.ntmps70
          go_wp2_with fail
          rw [HW.out]
          go_wp2_with fail
          refine (given_any P Q G b y 0 HG hQ _).mono ?_
          rintro e w1 ⟨rfl, hb0⟩
          have hb1 := below_ext (HB.out) hb0
          have HX1 := Lib.hid (HX0.out.below hb0)
          have HP1 := Lib.hid (HP0.out.below hb0)
          have HA1 := Lib.hid (HA0.out.below hb0)
          have HZ1 := Lib.hid (HZ0.out.below hb0)
          clear hb0
          obtain ⟨c0, c1, c2⟩ := HX1.out
          obtain ⟨d0, d1, d2⟩ := HP1.out
          go_wp2_with fail
          refine (rformed_any P Q G pa na ca a0 C pz nz cz z0 false HF HVL hQ _ HA1 HZ1).mono ?_
          rintro e w2 ⟨rfl, hb0⟩
          have hb2 := below_ext hb1 hb0
          clear hb0
          go_wp2
          go_ret
          exact ⟨rfl, hb2⟩
        | true =>
          have HF : Hid (formB P Q na a0 C nz z0 = true) := hf
          obtain ⟨rfl, rfl, hma, hC, hZ0⟩ := formB_parts hf
          obtain ⟨ba, oa, rfl, hca⟩ := hA.out rfl
          obtain ⟨bz, oz, rfl, hcz⟩ := hZ.out rfl
          have hbm := okB_mem hk
          have Cl := expB_lo hC
          have Cu := expB_hi hC
          have Zl := expB_lo hZ0
          have Zu := expB_hi hZ0
          obtain ⟨p1, hp1⟩ : ∃ p1, pw b (z0 % Q) P = p1 := ⟨_, rfl⟩
          obtain ⟨p2, hp2'⟩ : ∃ p2, pw y (C % Q) P = p2 := ⟨_, rfl⟩
          obtain ⟨p3, hp3⟩ : ∃ p3, a0 * p2 % P = p3 := ⟨_, rfl⟩
          have m2 : memG P Q p2 = true := by rw [← hp2']; exact mem_pw hp2 (by omega) (Int.emod_nonneg _ (by omega)) hm
          have HCb : Hid (chkG P Q G [b] = 0) := Lib.hid (chkG_ok hval (by simp [hbm]))
          have HCy : Hid (chkG P Q G [y] = 0) := Lib.hid (chkG_ok hval (by simp [hm]))
          have HCm : Hid (chkG P Q G [a0, p2] = 0) := Lib.hid (chkG_ok hval (by simp [hma, m2]))
          have HG : Hid (givE P Q G b y = 0) := Lib.hid (by rw [givE, hval, hk, hm]; rfl)
          have heq : ((p1 : Int) == p3) = r := by rw [← hr', chkB, hval, hk, hm, hf, hp1, hp2', hp3]; rfl
          have H1 := Lib.hid hp1
          have H2 := Lib.hid hp2'
          have H3 := Lib.hid hp3
          have bl := memG_lo hbm
          have bu := memG_hi hbm
          have yl := memG_lo hm
          have yu := memG_hi hm
          have al := memG_lo hma
          have au := memG_hi hma
          have l2 := memG_lo m2
          have u2 := memG_hi m2
          have HCA : Hid (w.cell? ⟨ba, oa, none⟩ = some (.int .i64 a0)) := Lib.hid hca
          have HCZ : Hid (w.cell? ⟨bz, oz, none⟩ = some (.int .i64 z0)) := Lib.hid hcz
          clear hr' hr hval hk hm hf hma hC hZ0 hca hcz hbm hp1 hp2' hp3 m2
          go_enter Tryz.func70, Tryz.ntmps70
          go_wp2_with fail
          rw [HW.out]
          go_wp2_with fail
          refine (given_any P Q G b y 0 HG hQ _).mono ?_
          rintro e w1 ⟨rfl, hb0⟩
          have hb1 := below_ext (HB.out) hb0
          have HX1 := Lib.hid (HX0.out.below hb0)
          have HP1 := Lib.hid (HP0.out.below hb0)
          have HA1 := Lib.hid (HA0.out.below hb0)
          have HZ1 := Lib.hid (HZ0.out.below hb0)
          clear hb0
          obtain ⟨c0, c1, c2⟩ := HX1.out
          obtain ⟨d0, d1, d2⟩ := HP1.out
          go_wp2_with fail
          refine (rformed_any P Q G (some ⟨ba, oa, none⟩) 1 ca a0 C (some ⟨bz, oz, none⟩) 1 cz z0 true HF HVL hQ _ HA1 HZ1).mono ?_
          rintro e w2 ⟨rfl, hb0⟩
          have hb2 := below_ext hb1 hb0
          have HX2 := Lib.hid (HX1.out.below hb0)
          have HP2 := Lib.hid (HP1.out.below hb0)
          have HA2 := Lib.hid (HA1.out.below hb0)
          have HZ2 := Lib.hid (HZ1.out.below hb0)
          clear c0 c1 c2 d0 d1 d2 hb0
          obtain ⟨c0, c1, c2⟩ := HX2.out
          obtain ⟨d0, d1, d2⟩ := HP2.out
          clear c0 c1 c2 d0 d1 d2
          have HA2a : Hid (w2.cell? ⟨ba, oa, none⟩ = some (.int .i64 a0)) := Lib.hid (cell_belowK HCA.out hb2)
          have HZ2a : Hid (w2.cell? ⟨bz, oz, none⟩ = some (.int .i64 z0)) := Lib.hid (cell_belowK HCZ.out hb2)
          clear HA2 HZ2
          have HA2 := HA2a
          have HZ2 := HZ2a
          have hSa := Lib.hid (show ∀ v1 v2 : World, Hid (Below w2.heap.size w2 v1) → Below v1.heap.size v1 v2 → (v2.cell? ⟨w.heap.size, 0, none⟩ = some (.int .i64 P) ∧ v2.cell? ⟨w.heap.size, 1, none⟩ = some (.int .i64 Q) ∧ v2.cell? ⟨w.heap.size, 2, none⟩ = some (.int .i64 G) ∧ v2.cell? ⟨w.heap.size + 1, 0, none⟩ = some (.slice (some ⟨ba, oa, none⟩) 1 ca) ∧ v2.cell? ⟨w.heap.size + 1, 1, none⟩ = some (.int .i64 C) ∧ v2.cell? ⟨w.heap.size + 1, 2, none⟩ = some (.slice (some ⟨bz, oz, none⟩) 1 cz) ∧ v2.cell? ⟨ba, oa, none⟩ = some (.int .i64 a0) ∧ v2.cell? ⟨bz, oz, none⟩ = some (.int .i64 z0) ∧ Hid (Below w2.heap.size w2 v2)) from fun v1 v2 h1 h2 => have h3 := below_ext h1.out h2; ⟨(HX2.out.below h3).1, (HX2.out.below h3).2.1, (HX2.out.below h3).2.2, (HP2.out.below h3).1, (HP2.out.below h3).2.1, (HP2.out.below h3).2.2, cell_belowK HA2.out h3, cell_belowK HZ2.out h3, Lib.hid h3⟩)
          have hRa : Hid (Below w2.heap.size w2 w2) := Lib.hid (Below.refl _ _)
          go_wp2_with fail
          go_region_held3 (fun w' => w'.cell? ⟨w.heap.size, 0, none⟩ = some (.int .i64 P) ∧ w'.cell? ⟨w.heap.size, 1, none⟩ = some (.int .i64 Q) ∧ w'.cell? ⟨w.heap.size, 2, none⟩ = some (.int .i64 G) ∧ w'.cell? ⟨w.heap.size + 1, 0, none⟩ = some (.slice (some ⟨ba, oa, none⟩) 1 ca) ∧ w'.cell? ⟨w.heap.size + 1, 1, none⟩ = some (.int .i64 C) ∧ w'.cell? ⟨w.heap.size + 1, 2, none⟩ = some (.slice (some ⟨bz, oz, none⟩) 1 cz) ∧ w'.cell? ⟨ba, oa, none⟩ = some (.int .i64 a0) ∧ w'.cell? ⟨bz, oz, none⟩ = some (.int .i64 z0) ∧ Hid (Below w2.heap.size w2 w'))
            (first | exact hSa.out _ _ hRa ((Below.refl w2.heap.size w2).drew) | (go_split_ands; exact hSa.out _ _ (by assumption) hbA) | go_keep)
            (first
              | (go_at_call 30; (with_reducible refine (rpower_any P Q G b z0 p1 H1 (by omega) hp (by omega) (by omega) (by omega) bu (by omega) (by omega) _).mono ?_); rintro e wA ⟨rfl, hbA⟩)
              | (go_at_call 30; (with_reducible refine (rpower_any P Q G y C p2 H2 (by omega) hp (by omega) (by omega) (by omega) yu (by omega) (by omega) _).mono ?_); rintro e wA ⟨rfl, hbA⟩)
              | (go_at_call 102; (with_reducible refine (rgmul_any P Q G a0 p2 p3 H3 hp (by omega) au (by omega) u2 _).mono ?_); rintro e wA ⟨rfl, hbA⟩))
          rename_i hHeld
          obtain ⟨e0, e1, e2, e3, e4, e5, e6, e7, hbQ⟩ := hHeld
          have hb3 := below_ext hb2 hbQ.out
          have HX3 := Lib.hid (HX2.out.below hbQ.out)
          have HP3 := Lib.hid (HP2.out.below hbQ.out)
          have HA3 := Lib.hid (cell_belowK HA2.out hbQ.out)
          have HZ3 := Lib.hid (cell_belowK HZ2.out hbQ.out)
          obtain ⟨w3, hw3⟩ : ∃ w3, wA = w3 := ⟨_, rfl⟩
          subst hw3
          go_wp2
          go_ret
          exact ⟨rfl, hb3⟩
end Go.Proofs.YtdlhodbiaoafiaaGreatDoor
namespace Go.Proofs.YtdlhodbiaoafiaaGreatDoor
open Go.RowKit SpM
set_option linter.unusedVariables false
set_option linter.unusedSimpArgs false
set_option maxRecDepth 100000
/-- a list that the call made, its block named. -/
def CellsOut (zs : List Int) (n : Nat) (w : World) (e : Ending) (w' : World) : Prop := ∃ g cap, e = .returned (.slice (some ⟨g, 0, none⟩) n cap) ∧ Hid (Cells w' g zs) ∧ Below w.heap.size w w'
theorem ListOut.cells {zs : List Int} {n : Nat} {w w' : World} {e : Ending} (h : ListOut zs w e w') (hn : zs.length = n) (hpos : 0 < n) : CellsOut zs n w e w' := by
  obtain ⟨v, he, ho, hb⟩ := h
  obtain ⟨g, cap, rfl, _, hc⟩ := OwnL.cells ho (by omega)
  rw [hn] at he
  exact ⟨g, cap, he, Lib.hid hc, hb⟩
end Go.Proofs.YtdlhodbiaoafiaaGreatDoor
namespace Go.Proofs.YtdlhodbiaoafiaaGreatDoor
open Go.RowKit SpM
set_option linter.unusedVariables false
set_option linter.unusedSimpArgs false
set_option maxRecDepth 20000
theorem RowF.below {w w' : World} {g n : Nat} {f : Nat → Int} (h : RowF w g n f) (hn : 0 < n) (hb : Below w.heap.size w w') : RowF w' g n f := by
  have hg : g < w.heap.size := World.block_lt_of_cell? _ _ (h.1 0 hn)
  exact ⟨fun j hj => (hb.cell (p := ⟨g, j, none⟩) hg).trans (h.1 j hj), fun j => (hb.frozen (p := ⟨g, j, none⟩) hg).trans (h.2 j)⟩
end Go.Proofs.YtdlhodbiaoafiaaGreatDoor
namespace Go.Proofs.YtdlhodbiaoafiaaGreatDoor
open Go.RowKit SpM
set_option linter.unusedVariables false
set_option linter.unusedSimpArgs false
set_option maxRecDepth 100000
/-- a proof's value, its block, its box (names apart from layer 16's). -/
abbrev prvL (pa : Option Addr) (na ca : Nat) (C : Int) (pz : Option Addr) (nz cz : Nat) : Value := .agg #[.slice pa na ca, .int .i64 C, .slice pz nz cz]
abbrev prObjL (pa : Option Addr) (na ca : Nat) (C : Int) (pz : Option Addr) (nz cz : Nat) : Obj := .cells #[.slice pa na ca, .int .i64 C, .slice pz nz cz] 28
def PrBox (w : World) (a : Nat) (x y z : Value) : Prop := w.cell? ⟨a, 0, none⟩ = some x ∧ w.cell? ⟨a, 1, none⟩ = some y ∧ w.cell? ⟨a, 2, none⟩ = some z
theorem PrBox.below {w w' : World} {a : Nat} {x y z : Value} (h : PrBox w a x y z) (hb : Below w.heap.size w w') : PrBox w' a x y z :=
  ⟨cell_below h.1 hb, cell_below h.2.1 hb, cell_below h.2.2 hb⟩
end Go.Proofs.YtdlhodbiaoafiaaGreatDoor
namespace Go.Proofs.YtdlhodbiaoafiaaGreatDoor
open Go.RowKit SpM
set_option linter.unusedVariables false
set_option linter.unusedSimpArgs false
set_option maxRecDepth 100000
/-- the relation of the example, laid from block s on. -/
def ex17R (s : Nat) : List Row := [⟨some ⟨s + 1 + 1, 0, none⟩, 1, 1, [2]⟩, ⟨some ⟨s + 1 + 1 + 1, 0, none⟩, 1, 1, [4]⟩]
def Ex17 (w : World) (s : Nat) : Prop := GBox w s 23 11 4 ∧ Sl w (some ⟨s + 1, 0, none⟩) [8, 18] ∧ Rw w (some ⟨s + 1 + 1 + 1 + 1, 0, none⟩) (ex17R s) ∧ RBox w (s + 1 + 1 + 1 + 1 + 1) (.slice (some ⟨s + 1, 0, none⟩) 2 2) (.slice (some ⟨s + 1 + 1 + 1 + 1, 0, none⟩) 2 2)
theorem Ex17.below {w w' : World} {s : Nat} (h : Ex17 w s) (hb : Below w.heap.size w w') : Ex17 w' s := ⟨h.1.below hb, h.2.1.below hb, h.2.2.1.below hb, h.2.2.2.below hb⟩
end Go.Proofs.YtdlhodbiaoafiaaGreatDoor
namespace Go.Proofs.YtdlhodbiaoafiaaGreatDoor
open Go.RowKit SpM
set_option linter.unusedVariables false
set_option linter.unusedSimpArgs false
set_option maxRecDepth 100000
theorem valid_okg {P Q G : Int} (h : validG P Q G = true) : okL [P, Q, G] := by
  obtain ⟨h1, h2, h3, h4⟩ := validG_P h
  have h5 : 2 ≤ G ∧ G < P := by simp [validG] at h; exact ⟨h.2.2.2.2.2.2.1, h.2.2.2.2.2.2.2.1⟩
  refine ⟨by simp, fun x hx => ?_⟩
  simp at hx
  rcases hx with rfl | rfl | rfl <;> omega
theorem mem_okL {P Q : Int} {l : List Int} (hP : P < 2305843009213693952) (h : l.all (memG P Q) = true) (hl : l.length ≤ 1000) : okL l :=
  ⟨hl, fun x hx => by
    have h1 := memG_lo (List.all_eq_true.1 h x hx)
    have h2 := memG_hi (List.all_eq_true.1 h x hx)
    omega⟩
end Go.Proofs.YtdlhodbiaoafiaaGreatDoor
