/- The walk of the law KnowledgeSimulated. -/
import Derived.Test.YtaoodeenbedmhaaDoorKSimA
namespace Go.Proofs.YtaoodeenbedmhaaDoor
open Go.RowKit SpM Go.Maps
set_option linter.unusedVariables false
set_option linter.unusedSimpArgs false

set_option maxHeartbeats 1600000 in
theorem ksim_0 (P : Int) (q : Nat) (G b x c : Int) (hs : 60 < q) (w : World) (hv : Hid (Vars w)) :
    Calls Tryd.prog 5 #[gv P q G, .int .i64 b, .int .i64 x, .int .i64 c] w fun e' w' => e' = .returned (.bool true) ∧ Below w.heap.size w w' := by
  have HV0 := Lib.hid (hv.out.below (below_box0 w (gObj P q G)))
  have HX0 := Lib.hid (gbox_alloc w P q G)
  have d60 : decide ((60 : Int) < (q : Int)) = true := by simp; omega
  go_enter Tryd.func5, Tryd.ntmps5
  go_wp2_with fail
  refine (awake16 _ HV0).mono ?_
  rintro e w1 ⟨rfl, hb0⟩
  have hb1 := below_ext (below_box0 _ _) hb0
  have HV1 := Lib.hid (HV0.out.below hb0)
  have HX1 := Lib.hid (HX0.out.below hb0)
  clear hb0
  obtain ⟨c0, c1, c2⟩ := HX1.out
  go_wp2
  go_ret
  exact ⟨rfl, hb1⟩

set_option maxHeartbeats 1600000 in
theorem ksim_1 (P : Int) (q : Nat) (G b x c : Int) (hs : q ≤ 60) (HVL : Hid (validG P q G = false)) (w : World) (hv : Hid (Vars w)) :
    Calls Tryd.prog 5 #[gv P q G, .int .i64 b, .int .i64 x, .int .i64 c] w fun e' w' => e' = .returned (.bool true) ∧ Below w.heap.size w w' := by
  have HV0 := Lib.hid (hv.out.below (below_box0 w (gObj P q G)))
  have HX0 := Lib.hid (gbox_alloc w P q G)
  have d60 : decide ((60 : Int) < (q : Int)) = false := by simp; omega
  go_enter Tryd.func5, Tryd.ntmps5
  go_wp2_with fail
  refine (awake16 _ HV0).mono ?_
  rintro e w1 ⟨rfl, hb0⟩
  have hb1 := below_ext (below_box0 _ _) hb0
  have HV1 := Lib.hid (HV0.out.below hb0)
  have HX1 := Lib.hid (HX0.out.below hb0)
  clear hb0
  obtain ⟨c0, c1, c2⟩ := HX1.out
  go_wp2_with fail
  refine (rvalid_any P q G false HVL (by omega) _).mono ?_
  rintro e w2 ⟨rfl, hb0⟩
  have hb2 := below_ext hb1 hb0
  clear hb0
  go_wp2
  go_ret
  exact ⟨rfl, hb2⟩

set_option maxHeartbeats 1600000 in
theorem ksim_2 (P : Int) (q : Nat) (G b x c : Int) (hs : q ≤ 60) (HVL : Hid (validG P q G = true)) (HK : Hid (okB P q b = false)) (w : World) (hv : Hid (Vars w)) :
    Calls Tryd.prog 5 #[gv P q G, .int .i64 b, .int .i64 x, .int .i64 c] w fun e' w' => e' = .returned (.bool true) ∧ Below w.heap.size w w' := by
  have HV0 := Lib.hid (hv.out.below (below_box0 w (gObj P q G)))
  have HX0 := Lib.hid (gbox_alloc w P q G)
  have d60 : decide ((60 : Int) < (q : Int)) = false := by simp; omega
  go_enter Tryd.func5, Tryd.ntmps5
  go_wp2_with fail
  refine (awake16 _ HV0).mono ?_
  rintro e w1 ⟨rfl, hb0⟩
  have hb1 := below_ext (below_box0 _ _) hb0
  have HV1 := Lib.hid (HV0.out.below hb0)
  have HX1 := Lib.hid (HX0.out.below hb0)
  clear hb0
  obtain ⟨c0, c1, c2⟩ := HX1.out
  go_wp2_with fail
  refine (rvalid_any P q G true HVL (by omega) _).mono ?_
  rintro e w2 ⟨rfl, hb0⟩
  have hb2 := below_ext hb1 hb0
  have HV2 := Lib.hid (HV1.out.below hb0)
  have HX2 := Lib.hid (HX1.out.below hb0)
  clear c0 c1 c2 hb0
  obtain ⟨c0, c1, c2⟩ := HX2.out
  go_wp2_with fail
  refine (rbase_any P q G b false HVL HK _).mono ?_
  rintro e w3 ⟨rfl, hb0⟩
  have hb3 := below_ext hb2 hb0
  clear hb0
  go_wp2
  go_ret
  exact ⟨rfl, hb3⟩

set_option maxHeartbeats 1600000 in
theorem ksim_3 (P : Int) (q : Nat) (G b x c : Int) (hs : q ≤ 60) (HVL : Hid (validG P q G = true)) (HK : Hid (okB P q b = true)) (Hx : Hid (expB q x = false)) (w : World) (hv : Hid (Vars w)) :
    Calls Tryd.prog 5 #[gv P q G, .int .i64 b, .int .i64 x, .int .i64 c] w fun e' w' => e' = .returned (.bool true) ∧ Below w.heap.size w w' := by
  have HV0 := Lib.hid (hv.out.below (below_box0 w (gObj P q G)))
  have HX0 := Lib.hid (gbox_alloc w P q G)
  have d60 : decide ((60 : Int) < (q : Int)) = false := by simp; omega
  go_enter Tryd.func5, Tryd.ntmps5
  go_wp2_with fail
  refine (awake16 _ HV0).mono ?_
  rintro e w1 ⟨rfl, hb0⟩
  have hb1 := below_ext (below_box0 _ _) hb0
  have HV1 := Lib.hid (HV0.out.below hb0)
  have HX1 := Lib.hid (HX0.out.below hb0)
  clear hb0
  obtain ⟨c0, c1, c2⟩ := HX1.out
  go_wp2_with fail
  refine (rvalid_any P q G true HVL (by omega) _).mono ?_
  rintro e w2 ⟨rfl, hb0⟩
  have hb2 := below_ext hb1 hb0
  have HV2 := Lib.hid (HV1.out.below hb0)
  have HX2 := Lib.hid (HX1.out.below hb0)
  clear c0 c1 c2 hb0
  obtain ⟨c0, c1, c2⟩ := HX2.out
  go_wp2_with fail
  refine (rbase_any P q G b true HVL HK _).mono ?_
  rintro e w3 ⟨rfl, hb0⟩
  have hb3 := below_ext hb2 hb0
  have HV3 := Lib.hid (HV2.out.below hb0)
  have HX3 := Lib.hid (HX2.out.below hb0)
  clear c0 c1 c2 hb0
  obtain ⟨c0, c1, c2⟩ := HX3.out
  go_wp2_with fail
  refine (rexp_any P q G x false Hx _).mono ?_
  rintro e w4 ⟨rfl, hb0⟩
  have hb4 := below_ext hb3 hb0
  clear hb0
  go_wp2
  go_ret
  exact ⟨rfl, hb4⟩

set_option maxHeartbeats 1600000 in
theorem ksim_4 (P : Int) (q : Nat) (G b x c : Int) (hs : q ≤ 60) (HVL : Hid (validG P q G = true)) (HK : Hid (okB P q b = true)) (Hx : Hid (expB q x = true)) (Hc : Hid (expB q c = false)) (w : World) (hv : Hid (Vars w)) :
    Calls Tryd.prog 5 #[gv P q G, .int .i64 b, .int .i64 x, .int .i64 c] w fun e' w' => e' = .returned (.bool true) ∧ Below w.heap.size w w' := by
  have HV0 := Lib.hid (hv.out.below (below_box0 w (gObj P q G)))
  have HX0 := Lib.hid (gbox_alloc w P q G)
  have d60 : decide ((60 : Int) < (q : Int)) = false := by simp; omega
  go_enter Tryd.func5, Tryd.ntmps5
  go_wp2_with fail
  refine (awake16 _ HV0).mono ?_
  rintro e w1 ⟨rfl, hb0⟩
  have hb1 := below_ext (below_box0 _ _) hb0
  have HV1 := Lib.hid (HV0.out.below hb0)
  have HX1 := Lib.hid (HX0.out.below hb0)
  clear hb0
  obtain ⟨c0, c1, c2⟩ := HX1.out
  go_wp2_with fail
  refine (rvalid_any P q G true HVL (by omega) _).mono ?_
  rintro e w2 ⟨rfl, hb0⟩
  have hb2 := below_ext hb1 hb0
  have HV2 := Lib.hid (HV1.out.below hb0)
  have HX2 := Lib.hid (HX1.out.below hb0)
  clear c0 c1 c2 hb0
  obtain ⟨c0, c1, c2⟩ := HX2.out
  go_wp2_with fail
  refine (rbase_any P q G b true HVL HK _).mono ?_
  rintro e w3 ⟨rfl, hb0⟩
  have hb3 := below_ext hb2 hb0
  have HV3 := Lib.hid (HV2.out.below hb0)
  have HX3 := Lib.hid (HX2.out.below hb0)
  clear c0 c1 c2 hb0
  obtain ⟨c0, c1, c2⟩ := HX3.out
  go_wp2_with fail
  refine (rexp_any P q G x true Hx _).mono ?_
  rintro e w4 ⟨rfl, hb0⟩
  have hb4 := below_ext hb3 hb0
  have HV4 := Lib.hid (HV3.out.below hb0)
  have HX4 := Lib.hid (HX3.out.below hb0)
  clear c0 c1 c2 hb0
  obtain ⟨c0, c1, c2⟩ := HX4.out
  go_wp2_with fail
  refine (rexp_any P q G c false Hc _).mono ?_
  rintro e w5 ⟨rfl, hb0⟩
  have hb5 := below_ext hb4 hb0
  clear hb0
  go_wp2
  go_ret
  exact ⟨rfl, hb5⟩

theorem lit_inj {a b : Int} (h : (DataW.lit (.int .i64 a) : DataW Unit) = .lit (.int .i64 b)) : a = b := by
  injection h with h1
  injection h1

set_option maxHeartbeats 1600000 in
theorem ksim_neg (P Q G b x c : Int) (hneg : Q < 0) (w : World) (hv : Hid (Vars w)) :
    Calls Tryd.prog 5 #[gv P Q G, .int .i64 b, .int .i64 x, .int .i64 c] w fun e' w' => e' = .returned (.bool true) ∧ Below w.heap.size w w' := by
  have HV0 := Lib.hid (hv.out.below (below_box0 w (gObj P Q G)))
  have HX0 := Lib.hid (gbox_alloc w P Q G)
  have HVL : Hid (validG P Q G = false) := Lib.hid (by simp [validG]; omega)
  have d60 : decide ((60 : Int) < Q) = false := by simp; omega
  go_enter Tryd.func5, Tryd.ntmps5
  go_wp2_with fail
  refine (awake16 _ HV0).mono ?_
  rintro e w1 ⟨rfl, hb0⟩
  have hb1 := below_ext (below_box0 _ _) hb0
  have HV1 := Lib.hid (HV0.out.below hb0)
  have HX1 := Lib.hid (HX0.out.below hb0)
  clear hb0
  obtain ⟨c0, c1, c2⟩ := HX1.out
  go_wp2_with fail
  refine (rvalid_any P Q G false HVL (by omega) _).mono ?_
  rintro e w2 ⟨rfl, hb0⟩
  have hb2 := below_ext hb1 hb0
  clear hb0
  go_wp2
  go_ret
  exact ⟨rfl, hb2⟩

set_option maxRecDepth 100000 in
set_option maxHeartbeats 12800000 in
theorem ksim_5 (P : Int) (q : Nat) (G b x c : Int) (hs : q ≤ 60) (HVL : Hid (validG P q G = true)) (HK : Hid (okB P q b = true)) (Hx : Hid (expB q x = true)) (Hc : Hid (expB q c = true)) (w : World) (hv : Hid (Vars w)) :
    Calls Tryd.prog 5 #[gv P q G, .int .i64 b, .int .i64 x, .int .i64 c] w fun e' w' => e' = .returned (.bool true) ∧ Below w.heap.size w w' := by
  have HV0 := Lib.hid (hv.out.below (below_box0 w (gObj P q G)))
  have HX0 := Lib.hid (gbox_alloc w P q G)
  have d60 : decide ((60 : Int) < (q : Int)) = false := by simp; omega
  obtain ⟨hp2, hp, hq3, hqp⟩ := validG_P HVL.out
  have xl := expB_lo Hx.out
  have xu := expB_hi Hx.out
  have cl := expB_lo Hc.out
  have cu := expB_hi Hc.out
  have hbm := okB_mem HK.out
  have HCb : Hid (chkG P q G [b] = 0) := Lib.hid (chkG_ok HVL.out (by simp [hbm]))
  obtain ⟨y, hy⟩ : ∃ y, pw b (x % q) P = y := ⟨_, rfl⟩
  have hy2 : pw b x P = y := by rw [← hy, Int.emod_eq_of_lt xl xu]
  have HY := Lib.hid hy
  have hym : memG P q y = true := by rw [← hy2]; exact mem_pw hp2 (by omega) xl hbm
  have hisP : isP q = true := by have := HVL.out; simp [validG] at this; exact this.2.2.2.2.1
  -- the powers and the responses
  have HFI : Hid (∀ i j : Nat, i < q → j < q → pw b i P = pw b j P → i = j) := Lib.hid (fun i j hi hj h => pw_inj hp2 (by omega) hq3 hisP HK.out (by omega) (by omega) h)
  have HSI : Hid (∀ z : Nat, z < q → ∃ k : Nat, k < q ∧ simA P q b y c z = pw b k P ∧ (c * x % q + (k : Int)) % q = z) := Lib.hid (fun z hz => by
    obtain ⟨k, h1, h2, h3⟩ := sim_index (P := P) (Q := q) (b := b) (x := x) (c := c) (z := z) hp2 hq3 HK.out xl (by omega) (by omega)
    exact ⟨k, by omega, by rw [← hy2]; exact h2, h3⟩)
  have HSR : Hid (∀ z : Nat, z < q → chkB P q G b y 1 (simA P q b y c z) c 1 z = true) := Lib.hid (fun z hz => sim_right HVL.out HK.out hym cl cu (by omega) (by omega))
  have HSE : Hid (∀ z : Nat, z < q → simE P q G b y c z = 0) := Lib.hid (fun z hz => by
    have f2 : expB (q : Int) (z : Int) = true := by simp [expB]; omega
    rw [simE, HVL.out, HK.out, hym, Hc.out, f2]; rfl)
  have HSA : Hid (∀ z : Nat, z < q → 1 ≤ simA P q b y c z ∧ simA P q b y c z < P) := Lib.hid (fun z hz => by
    have m3 : memG P q (simA P q b y c z) = true := mem_mul hp2 (by omega) (mem_pw hp2 (by omega) (Int.emod_nonneg _ (by omega)) hbm) (mem_pw hp2 (by omega) (Int.emod_nonneg _ (by omega)) hym)
    exact ⟨memG_lo m3, memG_hi m3⟩)
  have HCE : Hid (∀ k : Nat, k < q → comE P q G b k = 0 ∧ comV P q G b k = fS b P k ∧ resE P q G k c x = 0 ∧ resV P q G k c x = gS c x q k ∧ 1 ≤ fS b P k ∧ fS b P k < P ∧ 0 ≤ gS c x q k ∧ gS c x q k < q) := Lib.hid (fun k hk => by
    have f2 : expB (q : Int) (k : Int) = true := by simp [expB]; omega
    have e1 : comE P q G b k = 0 := by rw [comE, HVL.out, HK.out, f2]; rfl
    have e2 : resE P q G k c x = 0 := by rw [resE, HVL.out, f2, Hc.out, Hx.out]; rfl
    have m3 : memG P q (pw b k P) = true := mem_pw hp2 (by omega) (by omega) hbm
    exact ⟨e1, by rw [comV, e1, if_pos rfl, Int.emod_eq_of_lt (by omega) (by omega)]; rfl, e2, by rw [resV, e2, if_pos rfl]; rfl, memG_lo m3, memG_hi m3, Int.emod_nonneg _ (by omega), Int.emod_lt_of_pos _ (by omega)⟩)
  clear hy hy2 hym hisP hbm
  have hmm := fun t w => run_makeMap (P := Tryd.prog) t w
  go_enter Tryd.func5, Tryd.ntmps5
  go_wp2_with fail
  refine (awake16 _ HV0).mono ?_
  rintro e w1 ⟨rfl, hb0⟩
  have hb1 := below_ext (below_box0 _ _) hb0
  have HV1 := Lib.hid (HV0.out.below hb0)
  have HX1 := Lib.hid (HX0.out.below hb0)
  clear hb0
  obtain ⟨c0, c1, c2⟩ := HX1.out
  go_wp2_with fail
  refine (rvalid_any P q G true HVL (by omega) _).mono ?_
  rintro e w2 ⟨rfl, hb0⟩
  have hb2 := below_ext hb1 hb0
  have HV2 := Lib.hid (HV1.out.below hb0)
  have HX2 := Lib.hid (HX1.out.below hb0)
  clear c0 c1 c2 hb0
  obtain ⟨c0, c1, c2⟩ := HX2.out
  go_wp2_with fail
  refine (rbase_any P q G b true HVL HK _).mono ?_
  rintro e w3 ⟨rfl, hb0⟩
  have hb3 := below_ext hb2 hb0
  have HV3 := Lib.hid (HV2.out.below hb0)
  have HX3 := Lib.hid (HX2.out.below hb0)
  clear c0 c1 c2 hb0
  obtain ⟨c0, c1, c2⟩ := HX3.out
  go_wp2_with fail
  refine (rexp_any P q G x true Hx _).mono ?_
  rintro e w4 ⟨rfl, hb0⟩
  have hb4 := below_ext hb3 hb0
  have HV4 := Lib.hid (HV3.out.below hb0)
  have HX4 := Lib.hid (HX3.out.below hb0)
  clear c0 c1 c2 hb0
  obtain ⟨c0, c1, c2⟩ := HX4.out
  go_wp2_with fail
  refine (rexp_any P q G c true Hc _).mono ?_
  rintro e w5 ⟨rfl, hb0⟩
  have hb5 := below_ext hb4 hb0
  have HV5 := Lib.hid (HV4.out.below hb0)
  have HX5 := Lib.hid (HX4.out.below hb0)
  clear c0 c1 c2 hb0
  obtain ⟨c0, c1, c2⟩ := HX5.out
  go_wp2_with fail
  refine (gpow_ok P q G b x y HCb HY (by omega) (by omega) _ HV5).mono ?_
  rintro e w6 ⟨rfl, hb0⟩
  have hb6 := below_ext hb5 hb0
  have HV6 := Lib.hid (HV5.out.below hb0)
  have HX6 := Lib.hid (HX5.out.below hb0)
  clear c0 c1 c2 hb0
  obtain ⟨c0, c1, c2⟩ := HX6.out
  have HM0 := Lib.hid (mapRel_made (fS b P) (gS c x q) w6)
  obtain ⟨m0, m1, m2⟩ := HX6.out.below (below_box0 w6 (.map #[] 0))
  go_wp2
  clear c0 c1 c2 m0 m1 m2
  have HBl : Hid (Below w6.heap.size w6 (w6.alloc (.map #[] 0))) := Lib.hid (below_box0 _ _)
  obtain ⟨B, hBe⟩ : ∃ B, w6.heap.size = B := ⟨_, rfl⟩
  rw [hBe] at HM0 HBl ⊢
  have HBe := Lib.hid hBe
  clear hBe
  go_loopw [62] (fun i wr => ∃ k : Nat, k ≤ q ∧ i = .int .i64 k ∧ Hid (MapRel (fS b P) (gS c x q) wr B k) ∧ Hid (Below B w6 wr)) (fun i _ => q - (intOf i).toNat)
  case atStart => exact ⟨0, by omega, rfl, HM0, HBl⟩
  case round =>
    obtain ⟨k, hk, rfl, HMr, HBr⟩ := hrel
    have hbr : Below w6.heap.size w6 wr := by rw [HBe.out]; exact HBr.out
    have HV7 := Lib.hid (HV6.out.below hbr)
    have HX7 := Lib.hid (HX6.out.below hbr)
    obtain ⟨c0, c1, c2⟩ := HX7.out
    clear hbr
    have lt7 := HMr.out.lt
    by_cases hlt : k < q
    · obtain ⟨e1, e2, e3, e4, l1, u1, l2, u2⟩ := HCE.out k hlt
      obtain ⟨fk, hfk⟩ : ∃ v, fS b P k = v := ⟨_, rfl⟩
      obtain ⟨gk, hgk⟩ : ∃ v, gS c x q k = v := ⟨_, rfl⟩
      rw [hfk] at e2 l1 u1
      rw [hgk] at e4 l2 u2
      have E1 := Lib.hid e1
      have E2 := Lib.hid e2
      have E3 := Lib.hid e3
      have E4 := Lib.hid e4
      have HFk := Lib.hid hfk
      have HGk := Lib.hid hgk
      clear e1 e2 e3 e4 hfk hgk
      go_wp2_with fail
      refine (commit_any P q G b k fk 0 E2 E1 (by omega) _ HV7).mono ?_
      rintro e w8 ⟨rfl, hb0⟩
      have HV8 := Lib.hid (HV7.out.below hb0)
      have HX8 := Lib.hid (HX7.out.below hb0)
      have HM8 := Lib.hid (HMr.out.below hb0)
      have HB8 : Hid (Below B w6 w8) := Lib.hid (HBr.out.trans (hb0.mono (by omega)))
      have lt8 := HM8.out.lt
      clear c0 c1 c2 hb0
      obtain ⟨c0, c1, c2⟩ := HX8.out
      go_wp2_with fail
      refine (respond_any P q G k c x gk 0 E4 E3 (by omega) _ HV8).mono ?_
      rintro e w9 ⟨rfl, hb0⟩
      have HM9 := Lib.hid (HM8.out.below hb0)
      have HB9 : Hid (Below B w6 w9) := Lib.hid (HB8.out.trans (hb0.mono (by omega)))
      have lt9 := HM9.out.lt
      clear c0 c1 c2 hb0
      obtain ⟨D, hown, hsz, hh, hg⟩ := HM9.out
      have HSZ := Lib.hid hsz
      have HH := Lib.hid hh
      have HG := Lib.hid hg
      have HT := Lib.hid (hown.tidy law3)
      clear hsz hh hg
      have wf1 : (Lit.int .i64 fk).wf = true := WalkArith.wf_i64 (by omega)
      have wf2 : (Lit.int .i64 gk).wf = true := WalkArith.wf_i64 (by omega)
      go_wp2_with (at_mapUpdate; refine wpList_mapUpdate_own _ rfl _ _ _ 50 rfl 3 3 law3 Tryd.underlying50 _ B k _ rfl hown (by unfold maxLen; omega) _ _ _ rfl rfl (keyOf_int_mk Tryd.underlying3 wf1) _ [] (plainElem_int Tryd.underlying3 wf2) ?_; intro w10 hown1 hgrow1)
      have HM10 : Hid (MapRel (fS b P) (gS c x q) w10 B (k + 1)) := Lib.hid (mapRel_put HT.out (by rw [HFk.out, HGk.out]; exact hown1) HSZ.out HH.out HG.out (fun j hj h => absurd (HFI.out k j hlt (by omega) h) (by omega)))
      have HB10 : Hid (Below B w6 w10) := Lib.hid (HB9.out.grown hgrow1 (by omega) (fun j hj => by cases hj; exact Nat.le_refl _))
      clear hown hown1 hgrow1
      go_roundw
      case rel => exact ⟨k + 1, by omega, by go_num, HM10, HB10⟩
      case measure => simp [intOf]; omega
    · obtain rfl : k = q := by omega
      obtain ⟨D, hown, hsz, hh, hg⟩ := HMr.out
      have HSZ := Lib.hid hsz
      clear hsz hh hg
      go_wp2_with (at_len; refine wpList_len_own _ rfl _ 50 rfl 3 3 Tryd.underlying50 _ B _ D rfl hown ?_; rw [HSZ.out])
      clear hown hlt c0 c1 c2
      obtain ⟨wo, rfl⟩ : ∃ wo : World, wo = wr := ⟨_, rfl⟩
      go_loopw [97] (fun i wz => ∃ z : Nat, z ≤ k ∧ i = .int .i64 z ∧ Hid (MapRel (fS b P) (gS c x k) wz B k) ∧ Hid (Below B w6 wz)) (fun i _ => k - (intOf i).toNat)
      case atStart => exact ⟨0, by omega, rfl, HMr, HBr⟩
      case round =>
        obtain ⟨z, hz, rfl, HMz, HBz⟩ := hrel
        have hbz : Below w6.heap.size w6 wr := by rw [HBe.out]; exact HBz.out
        have HVz := Lib.hid (HV6.out.below hbz)
        have HXz := Lib.hid (HX6.out.below hbz)
        have hbF := below_ext hb6 hbz
        obtain ⟨c0, c1, c2⟩ := HXz.out
        clear hbz
        have ltz := HMz.out.lt
        by_cases hlt : z < k
        · obtain ⟨k0, hk0, hka, hkz⟩ := HSI.out z hlt
          obtain ⟨la, ua⟩ := HSA.out z hlt
          obtain ⟨a, ha⟩ : ∃ a, simA P k b y c z = a := ⟨_, rfl⟩
          rw [ha] at hka la ua
          have HE := Lib.hid (HSE.out z hlt)
          have HAa := Lib.hid ha
          have HCK : Hid (chkB P k G b y 1 a c 1 z = true) := Lib.hid (by rw [← ha]; exact HSR.out z hlt)
          have HK0 : Hid (a = fS b P k0 ∧ gS c x k k0 = z) := Lib.hid ⟨hka, hkz⟩
          clear ha hka hkz
          go_wp2_with fail
          refine (sim_ok P k G b y c z a HE HAa (by omega) _ HVz).mono ?_
          rintro e w8 ⟨b1, b2, rfl, hc1, hc2, hb0⟩
          have HV8 := Lib.hid (HVz.out.below hb0)
          have HX8 := Lib.hid (HXz.out.below hb0)
          have HM8 := Lib.hid (HMz.out.below hb0)
          have HB8 : Hid (Below B w6 w8) := Lib.hid (HBz.out.trans (hb0.mono (by omega)))
          have lt8 := HM8.out.lt
          have HC1 := Lib.hid hc1
          have HC2 := Lib.hid hc2
          clear c0 c1 c2 hb0 hc1 hc2
          obtain ⟨w9, hx9⟩ : ∃ W, w8.alloc (prObj (some ⟨b1, 0, none⟩) 1 1 c (some ⟨b2, 0, none⟩) 1 1) = W := ⟨_, rfl⟩
          have hq9 : Below w8.heap.size w8 w9 := by rw [← hx9]; exact below_box0 _ _
          have HV9 := Lib.hid (HV8.out.below hq9)
          have HX9 := Lib.hid (HX8.out.below hq9)
          have HM9 := Lib.hid (HM8.out.below hq9)
          have HB9 : Hid (Below B w6 w9) := Lib.hid (HB8.out.trans (hq9.mono (by omega)))
          have lt9 := HM9.out.lt
          have HA9 : Hid (w9.cell? ⟨b1, 0, none⟩ = some (.int .i64 a)) := Lib.hid (cell_below (HC1.out 0 (by simp)) hq9)
          have HZ9 : Hid (w9.cell? ⟨b2, 0, none⟩ = some (.int .i64 z)) := Lib.hid (cell_below (HC2.out 0 (by simp)) hq9)
          have HS9 : Hid (PBox w9 w8.heap.size (.slice (some ⟨b1, 0, none⟩) 1 1) (.int .i64 c) (.slice (some ⟨b2, 0, none⟩) 1 1)) := Lib.hid (by rw [← hx9]; exact pbox_alloc0 _ _ _ _ _)
          have HW9 := Lib.hid hx9
          have hXe := HX9.out
          have hSe := HS9.out
          have hAe := HA9.out
          have hZe := HZ9.out
          clear hx9 hq9
          rw [← HW9.out] at hXe hSe hAe hZe
          obtain ⟨c0, c1, c2⟩ := hXe
          obtain ⟨d0, d1, d2⟩ := hSe
          go_wp2_with fail
          rw [HW9.out]
          refine (check_any16 P k G b y (some ⟨b1, 0, none⟩) 1 1 a c (some ⟨b2, 0, none⟩) 1 1 z true HCK (by omega) _ HV9 (Lib.hid (fun _ => ⟨_, _, rfl, HA9.out⟩)) (Lib.hid (fun _ => ⟨_, _, rfl, HZ9.out⟩))).mono ?_
          rintro e w10 ⟨rfl, hb0⟩
          have HM10 := Lib.hid (HM9.out.below hb0)
          have HB10 : Hid (Below B w6 w10) := Lib.hid (HB9.out.trans (hb0.mono (by omega)))
          have HS10 := Lib.hid (HS9.out.below hb0)
          have HA10 := Lib.hid (cell_below HA9.out hb0)
          clear hb0 c0 c1 c2 d0 d1 d2 hAe hZe
          obtain ⟨d0, d1, d2⟩ := HS10.out
          have g0 := HA10.out
          obtain ⟨D, hown, hsz, hh, hg⟩ := HM10.out
          obtain ⟨hg1, hg2⟩ := hg k0 hk0
          have HHs : Hid (Maps.has D (.int .i64 a) = true) := Lib.hid (by rw [HK0.out.1]; exact hg1)
          have HAt : Hid (D.atKey (.int .i64 a) (.lit (.int .i64 0)) = .lit (.int .i64 z)) := Lib.hid (by rw [HK0.out.1, hg2, HK0.out.2])
          have wf1 : (Lit.int .i64 a).wf = true := WalkArith.wf_i64 (by omega)
          clear hsz hh hg hg1 hg2
          go_wp2_with (at_lookup; refine wpList_lookup_own_ok_int _ rfl _ _ 50 rfl 3 3 .i64 law3 Tryd.underlying50 Tryd.underlying3 (zero3 _) B k _ rfl hown _ _ rfl (keyOf_int_mk Tryd.underlying3 wf1) ?_; intro c' hat hwc; have hcz := lit_inj (hat.symm.trans HAt.out); subst hcz; rw [HHs.out]; clear hat hwc)
          clear hown d0 d1 d2 g0
          go_roundw
          case rel => exact ⟨z + 1, by omega, by go_num, HM10, HB10⟩
          case measure => simp [intOf]; omega
        · obtain rfl : z = k := by omega
          clear hlt
          go_wp2
          go_ret
          exact ⟨rfl, hbF⟩

/-- THE LAW: true for every input. -/
theorem ksim_true (P Q G b x c : Int) (hQ : Q < 9223372036854775808) (w : World) (hv : Hid (Vars w)) :
    Calls Tryd.prog 5 #[gv P Q G, .int .i64 b, .int .i64 x, .int .i64 c] w fun e' w' => e' = .returned (.bool true) ∧ Below w.heap.size w w' := by
  by_cases hneg : Q < 0
  · exact ksim_neg P Q G b x c hneg w hv
  obtain ⟨q, rfl⟩ := Int.eq_ofNat_of_zero_le (show 0 ≤ Q by omega)
  by_cases hs : 60 < q
  · exact ksim_0 P q G b x c hs w hv
  · cases h1 : validG P q G with
    | false => exact ksim_1 P q G b x c (by omega) (Lib.hid h1) w hv
    | true =>
      cases h2 : okB P q b with
      | false => exact ksim_2 P q G b x c (by omega) (Lib.hid h1) (Lib.hid h2) w hv
      | true =>
        cases h3 : expB q x with
        | false => exact ksim_3 P q G b x c (by omega) (Lib.hid h1) (Lib.hid h2) (Lib.hid h3) w hv
        | true =>
          cases h4 : expB q c with
          | false => exact ksim_4 P q G b x c (by omega) (Lib.hid h1) (Lib.hid h2) (Lib.hid h3) (Lib.hid h4) w hv
          | true => exact ksim_5 P q G b x c (by omega) (Lib.hid h1) (Lib.hid h2) (Lib.hid h3) (Lib.hid h4) w hv
end Go.Proofs.YtaoodeenbedmhaaDoor
