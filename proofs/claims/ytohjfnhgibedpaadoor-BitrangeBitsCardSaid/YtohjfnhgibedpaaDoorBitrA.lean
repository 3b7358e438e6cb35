/- The walk of the law BitrangeBits: the bad numbers. -/
import Derived.Test.YtohjfnhgibedpaaDoorAwk20
import Derived.Test.YtohjfnhgibedpaaDoorJoinD
namespace Go.Proofs.YtohjfnhgibedpaaDoor
open Go.RowKit SpM
set_option linter.unusedVariables false
set_option linter.unusedSimpArgs false
set_option maxRecDepth 100000

set_option maxHeartbeats 6400000 in
theorem bitr_long (P Q G A B H m : Int) (n : Int) (S : Option Addr) (xs : List Int) (l c : Nat) (hn : Hid (xs.length = l)) (hQ : Q < 9223372036854775808) (hl : 100 < l) (w : World) (hv : Hid (Vars w)) (hs : Hid (Sl w S xs)) :
    Calls Tryd.prog 3 #[bv P Q G A B H, .int .i64 m, .int .i64 n, .slice S l c] w fun e' w' => e' = .returned (.bool true) ∧ Below w.heap.size w w' := by
  have dl : decide ((100 : Int) < (l : Int)) = true := by simp; omega
  have HV0 := Lib.hid (hv.out.below (below_box0 w (bObj P Q G A B H)))
  have HX0 := Lib.hid (bbox_alloc w P Q G A B H)
  have HSl0 := Lib.hid (hs.out.below (below_box0 w (bObj P Q G A B H)))
  clear hs
  go_enter Tryd.func3, Tryd.ntmps3
  go_wp2_with fail
  refine (awake20 _ HV0).mono ?_
  rintro e w1 ⟨rfl, hb0⟩
  have hb1 := below_ext (below_box0 _ _) hb0
  have HV1 := Lib.hid (HV0.out.below hb0)
  have HX1 := Lib.hid (HX0.out.below hb0)
  have HSl1 := Lib.hid (HSl0.out.below hb0)
  clear hb0
  obtain ⟨⟨c0, c1, c2⟩, c3, c4, c5⟩ := HX1.out
  go_wp2
  go_ret
  exact ⟨rfl, hb1⟩

set_option maxHeartbeats 6400000 in
theorem bitr_1_1 (P Q G A B H m : Int) (n : Int) (S : Option Addr) (xs : List Int) (l c : Nat) (hn : Hid (xs.length = l)) (hQ : Q < 9223372036854775808) (hl : l ≤ 100) (h : n < 1) (hj : Hid (validB P Q G A B H = false)) (w : World) (hv : Hid (Vars w)) (hs : Hid (Sl w S xs)) :
    Calls Tryd.prog 3 #[bv P Q G A B H, .int .i64 m, .int .i64 n, .slice S l c] w fun e' w' => e' = .returned (.bool true) ∧ Below w.heap.size w w' := by
  have dl : decide ((100 : Int) < (l : Int)) = false := by simp; omega
  have d1 : decide (n < 1) = true := by simp; omega
  have HV0 := Lib.hid (hv.out.below (below_box0 w (bObj P Q G A B H)))
  have HX0 := Lib.hid (bbox_alloc w P Q G A B H)
  have HSl0 := Lib.hid (hs.out.below (below_box0 w (bObj P Q G A B H)))
  clear hs
  go_enter Tryd.func3, Tryd.ntmps3
  go_wp2_with fail
  refine (awake20 _ HV0).mono ?_
  rintro e w1 ⟨rfl, hb0⟩
  have hb1 := below_ext (below_box0 _ _) hb0
  have HV1 := Lib.hid (HV0.out.below hb0)
  have HX1 := Lib.hid (HX0.out.below hb0)
  have HSl1 := Lib.hid (HSl0.out.below hb0)
  clear hb0
  obtain ⟨⟨c0, c1, c2⟩, c3, c4, c5⟩ := HX1.out
  go_wp2_with fail
  refine (bits_bad1 m n h _).mono ?_
  rintro e w2 ⟨rfl, hb0⟩
  have hb2 := below_ext hb1 hb0
  have HV2 := Lib.hid (HV1.out.below hb0)
  have HX2 := Lib.hid (HX1.out.below hb0)
  have HSl2 := Lib.hid (HSl1.out.below hb0)
  clear c0 c1 c2 c3 c4 c5 hb0
  obtain ⟨⟨c0, c1, c2⟩, c3, c4, c5⟩ := HX2.out
  go_wp2_with fail
  refine (join_1 P Q G A B H S xs l c hj hn (by omega) hQ _ HV2 HSl2).mono ?_
  rintro e w3 ⟨rfl, hb0⟩
  have hb3 := below_ext hb2 hb0
  have HV3 := Lib.hid (HV2.out.below hb0)
  have HX3 := Lib.hid (HX2.out.below hb0)
  have HSl3 := Lib.hid (HSl2.out.below hb0)
  clear c0 c1 c2 c3 c4 c5 hb0
  obtain ⟨⟨c0, c1, c2⟩, c3, c4, c5⟩ := HX3.out
  go_wp2_with fail
  refine (rbvalid_any P Q G A B H false hj hQ _).mono ?_
  rintro e w4 ⟨rfl, hb0⟩
  have hb4 := below_ext hb3 hb0
  have HV4 := Lib.hid (HV3.out.below hb0)
  have HX4 := Lib.hid (HX3.out.below hb0)
  have HSl4 := Lib.hid (HSl3.out.below hb0)
  clear c0 c1 c2 c3 c4 c5 hb0
  obtain ⟨⟨c0, c1, c2⟩, c3, c4, c5⟩ := HX4.out
  go_wp2
  go_ret
  exact ⟨rfl, hb4⟩

set_option maxHeartbeats 6400000 in
theorem bitr_1_5 (P Q G A B H m : Int) (n : Int) (S : Option Addr) (xs : List Int) (l c : Nat) (hn : Hid (xs.length = l)) (hQ : Q < 9223372036854775808) (hl : l ≤ 100) (h : n < 1) (hj : Hid (validB P Q G A B H = true)) (hl2 : 16 < l) (w : World) (hv : Hid (Vars w)) (hs : Hid (Sl w S xs)) :
    Calls Tryd.prog 3 #[bv P Q G A B H, .int .i64 m, .int .i64 n, .slice S l c] w fun e' w' => e' = .returned (.bool true) ∧ Below w.heap.size w w' := by
  have dl : decide ((100 : Int) < (l : Int)) = false := by simp; omega
  have d1 : decide (n < 1) = true := by simp; omega
  have d16 : decide ((16 : Int) < (l : Int)) = true := by simp; omega
  have HV0 := Lib.hid (hv.out.below (below_box0 w (bObj P Q G A B H)))
  have HX0 := Lib.hid (bbox_alloc w P Q G A B H)
  have HSl0 := Lib.hid (hs.out.below (below_box0 w (bObj P Q G A B H)))
  clear hs
  go_enter Tryd.func3, Tryd.ntmps3
  go_wp2_with fail
  refine (awake20 _ HV0).mono ?_
  rintro e w1 ⟨rfl, hb0⟩
  have hb1 := below_ext (below_box0 _ _) hb0
  have HV1 := Lib.hid (HV0.out.below hb0)
  have HX1 := Lib.hid (HX0.out.below hb0)
  have HSl1 := Lib.hid (HSl0.out.below hb0)
  clear hb0
  obtain ⟨⟨c0, c1, c2⟩, c3, c4, c5⟩ := HX1.out
  go_wp2_with fail
  refine (bits_bad1 m n h _).mono ?_
  rintro e w2 ⟨rfl, hb0⟩
  have hb2 := below_ext hb1 hb0
  have HV2 := Lib.hid (HV1.out.below hb0)
  have HX2 := Lib.hid (HX1.out.below hb0)
  have HSl2 := Lib.hid (HSl1.out.below hb0)
  clear c0 c1 c2 c3 c4 c5 hb0
  obtain ⟨⟨c0, c1, c2⟩, c3, c4, c5⟩ := HX2.out
  go_wp2_with fail
  refine (join_5 P Q G A B H S xs l c hj hl2 hn (by omega) hQ _ HV2 HSl2).mono ?_
  rintro e w3 ⟨rfl, hb0⟩
  have hb3 := below_ext hb2 hb0
  have HV3 := Lib.hid (HV2.out.below hb0)
  have HX3 := Lib.hid (HX2.out.below hb0)
  have HSl3 := Lib.hid (HSl2.out.below hb0)
  clear c0 c1 c2 c3 c4 c5 hb0
  obtain ⟨⟨c0, c1, c2⟩, c3, c4, c5⟩ := HX3.out
  go_wp2_with fail
  refine (rbvalid_any P Q G A B H true hj hQ _).mono ?_
  rintro e w4 ⟨rfl, hb0⟩
  have hb4 := below_ext hb3 hb0
  have HV4 := Lib.hid (HV3.out.below hb0)
  have HX4 := Lib.hid (HX3.out.below hb0)
  have HSl4 := Lib.hid (HSl3.out.below hb0)
  clear c0 c1 c2 c3 c4 c5 hb0
  obtain ⟨⟨c0, c1, c2⟩, c3, c4, c5⟩ := HX4.out
  go_wp2
  go_ret
  exact ⟨rfl, hb4⟩

set_option maxHeartbeats 6400000 in
theorem bitr_1_2 (P Q G A B H m : Int) (n : Int) (S : Option Addr) (xs : List Int) (l c : Nat) (hn : Hid (xs.length = l)) (hQ : Q < 9223372036854775808) (hl : l ≤ 100) (h : n < 1) (hj : Hid (validB P Q G A B H = true)) (hl2 : l ≤ 16) (hk : Hid (xs.all (memG P Q) = false)) (w : World) (hv : Hid (Vars w)) (hs : Hid (Sl w S xs)) :
    Calls Tryd.prog 3 #[bv P Q G A B H, .int .i64 m, .int .i64 n, .slice S l c] w fun e' w' => e' = .returned (.bool true) ∧ Below w.heap.size w w' := by
  have dl : decide ((100 : Int) < (l : Int)) = false := by simp; omega
  have d1 : decide (n < 1) = true := by simp; omega
  have d16 : decide ((16 : Int) < (l : Int)) = false := by simp; omega
  have HG := Lib.hid (validB_parts hj.out).1
  have HV0 := Lib.hid (hv.out.below (below_box0 w (bObj P Q G A B H)))
  have HX0 := Lib.hid (bbox_alloc w P Q G A B H)
  have HSl0 := Lib.hid (hs.out.below (below_box0 w (bObj P Q G A B H)))
  clear hs
  go_enter Tryd.func3, Tryd.ntmps3
  go_wp2_with fail
  refine (awake20 _ HV0).mono ?_
  rintro e w1 ⟨rfl, hb0⟩
  have hb1 := below_ext (below_box0 _ _) hb0
  have HV1 := Lib.hid (HV0.out.below hb0)
  have HX1 := Lib.hid (HX0.out.below hb0)
  have HSl1 := Lib.hid (HSl0.out.below hb0)
  clear hb0
  obtain ⟨⟨c0, c1, c2⟩, c3, c4, c5⟩ := HX1.out
  go_wp2_with fail
  refine (bits_bad1 m n h _).mono ?_
  rintro e w2 ⟨rfl, hb0⟩
  have hb2 := below_ext hb1 hb0
  have HV2 := Lib.hid (HV1.out.below hb0)
  have HX2 := Lib.hid (HX1.out.below hb0)
  have HSl2 := Lib.hid (HSl1.out.below hb0)
  clear c0 c1 c2 c3 c4 c5 hb0
  obtain ⟨⟨c0, c1, c2⟩, c3, c4, c5⟩ := HX2.out
  go_wp2_with fail
  refine (join_2 P Q G A B H S xs l c hj hl2 hk hn (by omega) hQ _ HV2 HSl2).mono ?_
  rintro e w3 ⟨rfl, hb0⟩
  have hb3 := below_ext hb2 hb0
  have HV3 := Lib.hid (HV2.out.below hb0)
  have HX3 := Lib.hid (HX2.out.below hb0)
  have HSl3 := Lib.hid (HSl2.out.below hb0)
  clear c0 c1 c2 c3 c4 c5 hb0
  obtain ⟨⟨c0, c1, c2⟩, c3, c4, c5⟩ := HX3.out
  go_wp2_with fail
  refine (rbvalid_any P Q G A B H true hj hQ _).mono ?_
  rintro e w4 ⟨rfl, hb0⟩
  have hb4 := below_ext hb3 hb0
  have HV4 := Lib.hid (HV3.out.below hb0)
  have HX4 := Lib.hid (HX3.out.below hb0)
  have HSl4 := Lib.hid (HSl3.out.below hb0)
  clear c0 c1 c2 c3 c4 c5 hb0
  obtain ⟨⟨c0, c1, c2⟩, c3, c4, c5⟩ := HX4.out
  go_wp2_with fail
  refine (members_any P Q G S xs l c false hk hn (by omega) HG _ HSl4).mono ?_
  rintro e w5 ⟨rfl, hb0⟩
  have hb5 := below_ext hb4 hb0
  have HV5 := Lib.hid (HV4.out.below hb0)
  have HX5 := Lib.hid (HX4.out.below hb0)
  have HSl5 := Lib.hid (HSl4.out.below hb0)
  clear c0 c1 c2 c3 c4 c5 hb0
  obtain ⟨⟨c0, c1, c2⟩, c3, c4, c5⟩ := HX5.out
  go_wp2
  go_ret
  exact ⟨rfl, hb5⟩

set_option maxHeartbeats 6400000 in
theorem bitr_1_0 (P Q G A B H m : Int) (n : Int) (S : Option Addr) (xs : List Int) (l c : Nat) (hn : Hid (xs.length = l)) (hQ : Q < 9223372036854775808) (hl : l ≤ 100) (h : n < 1) (hj : Hid (validB P Q G A B H = true)) (hl2 : l ≤ 16) (hk : Hid (xs.all (memG P Q) = true)) (w : World) (hv : Hid (Vars w)) (hs : Hid (Sl w S xs)) :
    Calls Tryd.prog 3 #[bv P Q G A B H, .int .i64 m, .int .i64 n, .slice S l c] w fun e' w' => e' = .returned (.bool true) ∧ Below w.heap.size w w' := by
  have dl : decide ((100 : Int) < (l : Int)) = false := by simp; omega
  have d1 : decide (n < 1) = true := by simp; omega
  have d16 : decide ((16 : Int) < (l : Int)) = false := by simp; omega
  have HG := Lib.hid (validB_parts hj.out).1
  obtain ⟨V, hV⟩ : ∃ V, joinV P Q xs = V := ⟨_, rfl⟩
  have HJV := Lib.hid hV
  clear hV
  have HV0 := Lib.hid (hv.out.below (below_box0 w (bObj P Q G A B H)))
  have HX0 := Lib.hid (bbox_alloc w P Q G A B H)
  have HSl0 := Lib.hid (hs.out.below (below_box0 w (bObj P Q G A B H)))
  clear hs
  go_enter Tryd.func3, Tryd.ntmps3
  go_wp2_with fail
  refine (awake20 _ HV0).mono ?_
  rintro e w1 ⟨rfl, hb0⟩
  have hb1 := below_ext (below_box0 _ _) hb0
  have HV1 := Lib.hid (HV0.out.below hb0)
  have HX1 := Lib.hid (HX0.out.below hb0)
  have HSl1 := Lib.hid (HSl0.out.below hb0)
  clear hb0
  obtain ⟨⟨c0, c1, c2⟩, c3, c4, c5⟩ := HX1.out
  go_wp2_with fail
  refine (bits_bad1 m n h _).mono ?_
  rintro e w2 ⟨rfl, hb0⟩
  have hb2 := below_ext hb1 hb0
  have HV2 := Lib.hid (HV1.out.below hb0)
  have HX2 := Lib.hid (HX1.out.below hb0)
  have HSl2 := Lib.hid (HSl1.out.below hb0)
  clear c0 c1 c2 c3 c4 c5 hb0
  obtain ⟨⟨c0, c1, c2⟩, c3, c4, c5⟩ := HX2.out
  go_wp2_with fail
  refine (join_0 P Q G A B H S xs l c V hj hl2 hk HJV hn (by omega) hQ _ HV2 HSl2).mono ?_
  rintro e w3 ⟨rfl, hb0⟩
  have hb3 := below_ext hb2 hb0
  have HV3 := Lib.hid (HV2.out.below hb0)
  have HX3 := Lib.hid (HX2.out.below hb0)
  have HSl3 := Lib.hid (HSl2.out.below hb0)
  clear c0 c1 c2 c3 c4 c5 hb0
  obtain ⟨⟨c0, c1, c2⟩, c3, c4, c5⟩ := HX3.out
  go_wp2_with fail
  refine (rbvalid_any P Q G A B H true hj hQ _).mono ?_
  rintro e w4 ⟨rfl, hb0⟩
  have hb4 := below_ext hb3 hb0
  have HV4 := Lib.hid (HV3.out.below hb0)
  have HX4 := Lib.hid (HX3.out.below hb0)
  have HSl4 := Lib.hid (HSl3.out.below hb0)
  clear c0 c1 c2 c3 c4 c5 hb0
  obtain ⟨⟨c0, c1, c2⟩, c3, c4, c5⟩ := HX4.out
  go_wp2_with fail
  refine (members_any P Q G S xs l c true hk hn (by omega) HG _ HSl4).mono ?_
  rintro e w5 ⟨rfl, hb0⟩
  have hb5 := below_ext hb4 hb0
  have HV5 := Lib.hid (HV4.out.below hb0)
  have HX5 := Lib.hid (HX4.out.below hb0)
  have HSl5 := Lib.hid (HSl4.out.below hb0)
  clear c0 c1 c2 c3 c4 c5 hb0
  obtain ⟨⟨c0, c1, c2⟩, c3, c4, c5⟩ := HX5.out
  go_wp2_with fail
  refine (rjoin_any P Q G A B H S xs l c V HJV hn hl2 HG hk _ HSl5).mono ?_
  rintro e w6 ⟨rfl, hb0⟩
  have hb6 := below_ext hb5 hb0
  have HV6 := Lib.hid (HV5.out.below hb0)
  have HX6 := Lib.hid (HX5.out.below hb0)
  have HSl6 := Lib.hid (HSl5.out.below hb0)
  clear c0 c1 c2 c3 c4 c5 hb0
  obtain ⟨⟨c0, c1, c2⟩, c3, c4, c5⟩ := HX6.out
  go_wp2
  go_ret
  exact ⟨rfl, hb6⟩

set_option maxHeartbeats 6400000 in
theorem bitr_2_1 (P Q G A B H m : Int) (n : Int) (S : Option Addr) (xs : List Int) (l c : Nat) (hn : Hid (xs.length = l)) (hQ : Q < 9223372036854775808) (hl : l ≤ 100) (h1 : ¬ n < 1) (h : 16 < n) (hj : Hid (validB P Q G A B H = false)) (w : World) (hv : Hid (Vars w)) (hs : Hid (Sl w S xs)) :
    Calls Tryd.prog 3 #[bv P Q G A B H, .int .i64 m, .int .i64 n, .slice S l c] w fun e' w' => e' = .returned (.bool true) ∧ Below w.heap.size w w' := by
  have dl : decide ((100 : Int) < (l : Int)) = false := by simp; omega
  have d1 : decide (n < 1) = false := by simp; omega
  have d2 : decide (16 < n) = true := by simp; omega
  have HV0 := Lib.hid (hv.out.below (below_box0 w (bObj P Q G A B H)))
  have HX0 := Lib.hid (bbox_alloc w P Q G A B H)
  have HSl0 := Lib.hid (hs.out.below (below_box0 w (bObj P Q G A B H)))
  clear hs
  go_enter Tryd.func3, Tryd.ntmps3
  go_wp2_with fail
  refine (awake20 _ HV0).mono ?_
  rintro e w1 ⟨rfl, hb0⟩
  have hb1 := below_ext (below_box0 _ _) hb0
  have HV1 := Lib.hid (HV0.out.below hb0)
  have HX1 := Lib.hid (HX0.out.below hb0)
  have HSl1 := Lib.hid (HSl0.out.below hb0)
  clear hb0
  obtain ⟨⟨c0, c1, c2⟩, c3, c4, c5⟩ := HX1.out
  go_wp2_with fail
  refine (bits_bad2 m n (by omega) h _).mono ?_
  rintro e w2 ⟨rfl, hb0⟩
  have hb2 := below_ext hb1 hb0
  have HV2 := Lib.hid (HV1.out.below hb0)
  have HX2 := Lib.hid (HX1.out.below hb0)
  have HSl2 := Lib.hid (HSl1.out.below hb0)
  clear c0 c1 c2 c3 c4 c5 hb0
  obtain ⟨⟨c0, c1, c2⟩, c3, c4, c5⟩ := HX2.out
  go_wp2_with fail
  refine (join_1 P Q G A B H S xs l c hj hn (by omega) hQ _ HV2 HSl2).mono ?_
  rintro e w3 ⟨rfl, hb0⟩
  have hb3 := below_ext hb2 hb0
  have HV3 := Lib.hid (HV2.out.below hb0)
  have HX3 := Lib.hid (HX2.out.below hb0)
  have HSl3 := Lib.hid (HSl2.out.below hb0)
  clear c0 c1 c2 c3 c4 c5 hb0
  obtain ⟨⟨c0, c1, c2⟩, c3, c4, c5⟩ := HX3.out
  go_wp2_with fail
  refine (rbvalid_any P Q G A B H false hj hQ _).mono ?_
  rintro e w4 ⟨rfl, hb0⟩
  have hb4 := below_ext hb3 hb0
  have HV4 := Lib.hid (HV3.out.below hb0)
  have HX4 := Lib.hid (HX3.out.below hb0)
  have HSl4 := Lib.hid (HSl3.out.below hb0)
  clear c0 c1 c2 c3 c4 c5 hb0
  obtain ⟨⟨c0, c1, c2⟩, c3, c4, c5⟩ := HX4.out
  go_wp2
  go_ret
  exact ⟨rfl, hb4⟩

set_option maxHeartbeats 6400000 in
theorem bitr_2_5 (P Q G A B H m : Int) (n : Int) (S : Option Addr) (xs : List Int) (l c : Nat) (hn : Hid (xs.length = l)) (hQ : Q < 9223372036854775808) (hl : l ≤ 100) (h1 : ¬ n < 1) (h : 16 < n) (hj : Hid (validB P Q G A B H = true)) (hl2 : 16 < l) (w : World) (hv : Hid (Vars w)) (hs : Hid (Sl w S xs)) :
    Calls Tryd.prog 3 #[bv P Q G A B H, .int .i64 m, .int .i64 n, .slice S l c] w fun e' w' => e' = .returned (.bool true) ∧ Below w.heap.size w w' := by
  have dl : decide ((100 : Int) < (l : Int)) = false := by simp; omega
  have d1 : decide (n < 1) = false := by simp; omega
  have d2 : decide (16 < n) = true := by simp; omega
  have d16 : decide ((16 : Int) < (l : Int)) = true := by simp; omega
  have HV0 := Lib.hid (hv.out.below (below_box0 w (bObj P Q G A B H)))
  have HX0 := Lib.hid (bbox_alloc w P Q G A B H)
  have HSl0 := Lib.hid (hs.out.below (below_box0 w (bObj P Q G A B H)))
  clear hs
  go_enter Tryd.func3, Tryd.ntmps3
  go_wp2_with fail
  refine (awake20 _ HV0).mono ?_
  rintro e w1 ⟨rfl, hb0⟩
  have hb1 := below_ext (below_box0 _ _) hb0
  have HV1 := Lib.hid (HV0.out.below hb0)
  have HX1 := Lib.hid (HX0.out.below hb0)
  have HSl1 := Lib.hid (HSl0.out.below hb0)
  clear hb0
  obtain ⟨⟨c0, c1, c2⟩, c3, c4, c5⟩ := HX1.out
  go_wp2_with fail
  refine (bits_bad2 m n (by omega) h _).mono ?_
  rintro e w2 ⟨rfl, hb0⟩
  have hb2 := below_ext hb1 hb0
  have HV2 := Lib.hid (HV1.out.below hb0)
  have HX2 := Lib.hid (HX1.out.below hb0)
  have HSl2 := Lib.hid (HSl1.out.below hb0)
  clear c0 c1 c2 c3 c4 c5 hb0
  obtain ⟨⟨c0, c1, c2⟩, c3, c4, c5⟩ := HX2.out
  go_wp2_with fail
  refine (join_5 P Q G A B H S xs l c hj hl2 hn (by omega) hQ _ HV2 HSl2).mono ?_
  rintro e w3 ⟨rfl, hb0⟩
  have hb3 := below_ext hb2 hb0
  have HV3 := Lib.hid (HV2.out.below hb0)
  have HX3 := Lib.hid (HX2.out.below hb0)
  have HSl3 := Lib.hid (HSl2.out.below hb0)
  clear c0 c1 c2 c3 c4 c5 hb0
  obtain ⟨⟨c0, c1, c2⟩, c3, c4, c5⟩ := HX3.out
  go_wp2_with fail
  refine (rbvalid_any P Q G A B H true hj hQ _).mono ?_
  rintro e w4 ⟨rfl, hb0⟩
  have hb4 := below_ext hb3 hb0
  have HV4 := Lib.hid (HV3.out.below hb0)
  have HX4 := Lib.hid (HX3.out.below hb0)
  have HSl4 := Lib.hid (HSl3.out.below hb0)
  clear c0 c1 c2 c3 c4 c5 hb0
  obtain ⟨⟨c0, c1, c2⟩, c3, c4, c5⟩ := HX4.out
  go_wp2
  go_ret
  exact ⟨rfl, hb4⟩

set_option maxHeartbeats 6400000 in
theorem bitr_2_2 (P Q G A B H m : Int) (n : Int) (S : Option Addr) (xs : List Int) (l c : Nat) (hn : Hid (xs.length = l)) (hQ : Q < 9223372036854775808) (hl : l ≤ 100) (h1 : ¬ n < 1) (h : 16 < n) (hj : Hid (validB P Q G A B H = true)) (hl2 : l ≤ 16) (hk : Hid (xs.all (memG P Q) = false)) (w : World) (hv : Hid (Vars w)) (hs : Hid (Sl w S xs)) :
    Calls Tryd.prog 3 #[bv P Q G A B H, .int .i64 m, .int .i64 n, .slice S l c] w fun e' w' => e' = .returned (.bool true) ∧ Below w.heap.size w w' := by
  have dl : decide ((100 : Int) < (l : Int)) = false := by simp; omega
  have d1 : decide (n < 1) = false := by simp; omega
  have d2 : decide (16 < n) = true := by simp; omega
  have d16 : decide ((16 : Int) < (l : Int)) = false := by simp; omega
  have HG := Lib.hid (validB_parts hj.out).1
  have HV0 := Lib.hid (hv.out.below (below_box0 w (bObj P Q G A B H)))
  have HX0 := Lib.hid (bbox_alloc w P Q G A B H)
  have HSl0 := Lib.hid (hs.out.below (below_box0 w (bObj P Q G A B H)))
  clear hs
  go_enter Tryd.func3, Tryd.ntmps3
  go_wp2_with fail
  refine (awake20 _ HV0).mono ?_
  rintro e w1 ⟨rfl, hb0⟩
  have hb1 := below_ext (below_box0 _ _) hb0
  have HV1 := Lib.hid (HV0.out.below hb0)
  have HX1 := Lib.hid (HX0.out.below hb0)
  have HSl1 := Lib.hid (HSl0.out.below hb0)
  clear hb0
  obtain ⟨⟨c0, c1, c2⟩, c3, c4, c5⟩ := HX1.out
  go_wp2_with fail
  refine (bits_bad2 m n (by omega) h _).mono ?_
  rintro e w2 ⟨rfl, hb0⟩
  have hb2 := below_ext hb1 hb0
  have HV2 := Lib.hid (HV1.out.below hb0)
  have HX2 := Lib.hid (HX1.out.below hb0)
  have HSl2 := Lib.hid (HSl1.out.below hb0)
  clear c0 c1 c2 c3 c4 c5 hb0
  obtain ⟨⟨c0, c1, c2⟩, c3, c4, c5⟩ := HX2.out
  go_wp2_with fail
  refine (join_2 P Q G A B H S xs l c hj hl2 hk hn (by omega) hQ _ HV2 HSl2).mono ?_
  rintro e w3 ⟨rfl, hb0⟩
  have hb3 := below_ext hb2 hb0
  have HV3 := Lib.hid (HV2.out.below hb0)
  have HX3 := Lib.hid (HX2.out.below hb0)
  have HSl3 := Lib.hid (HSl2.out.below hb0)
  clear c0 c1 c2 c3 c4 c5 hb0
  obtain ⟨⟨c0, c1, c2⟩, c3, c4, c5⟩ := HX3.out
  go_wp2_with fail
  refine (rbvalid_any P Q G A B H true hj hQ _).mono ?_
  rintro e w4 ⟨rfl, hb0⟩
  have hb4 := below_ext hb3 hb0
  have HV4 := Lib.hid (HV3.out.below hb0)
  have HX4 := Lib.hid (HX3.out.below hb0)
  have HSl4 := Lib.hid (HSl3.out.below hb0)
  clear c0 c1 c2 c3 c4 c5 hb0
  obtain ⟨⟨c0, c1, c2⟩, c3, c4, c5⟩ := HX4.out
  go_wp2_with fail
  refine (members_any P Q G S xs l c false hk hn (by omega) HG _ HSl4).mono ?_
  rintro e w5 ⟨rfl, hb0⟩
  have hb5 := below_ext hb4 hb0
  have HV5 := Lib.hid (HV4.out.below hb0)
  have HX5 := Lib.hid (HX4.out.below hb0)
  have HSl5 := Lib.hid (HSl4.out.below hb0)
  clear c0 c1 c2 c3 c4 c5 hb0
  obtain ⟨⟨c0, c1, c2⟩, c3, c4, c5⟩ := HX5.out
  go_wp2
  go_ret
  exact ⟨rfl, hb5⟩

set_option maxHeartbeats 6400000 in
theorem bitr_2_0 (P Q G A B H m : Int) (n : Int) (S : Option Addr) (xs : List Int) (l c : Nat) (hn : Hid (xs.length = l)) (hQ : Q < 9223372036854775808) (hl : l ≤ 100) (h1 : ¬ n < 1) (h : 16 < n) (hj : Hid (validB P Q G A B H = true)) (hl2 : l ≤ 16) (hk : Hid (xs.all (memG P Q) = true)) (w : World) (hv : Hid (Vars w)) (hs : Hid (Sl w S xs)) :
    Calls Tryd.prog 3 #[bv P Q G A B H, .int .i64 m, .int .i64 n, .slice S l c] w fun e' w' => e' = .returned (.bool true) ∧ Below w.heap.size w w' := by
  have dl : decide ((100 : Int) < (l : Int)) = false := by simp; omega
  have d1 : decide (n < 1) = false := by simp; omega
  have d2 : decide (16 < n) = true := by simp; omega
  have d16 : decide ((16 : Int) < (l : Int)) = false := by simp; omega
  have HG := Lib.hid (validB_parts hj.out).1
  obtain ⟨V, hV⟩ : ∃ V, joinV P Q xs = V := ⟨_, rfl⟩
  have HJV := Lib.hid hV
  clear hV
  have HV0 := Lib.hid (hv.out.below (below_box0 w (bObj P Q G A B H)))
  have HX0 := Lib.hid (bbox_alloc w P Q G A B H)
  have HSl0 := Lib.hid (hs.out.below (below_box0 w (bObj P Q G A B H)))
  clear hs
  go_enter Tryd.func3, Tryd.ntmps3
  go_wp2_with fail
  refine (awake20 _ HV0).mono ?_
  rintro e w1 ⟨rfl, hb0⟩
  have hb1 := below_ext (below_box0 _ _) hb0
  have HV1 := Lib.hid (HV0.out.below hb0)
  have HX1 := Lib.hid (HX0.out.below hb0)
  have HSl1 := Lib.hid (HSl0.out.below hb0)
  clear hb0
  obtain ⟨⟨c0, c1, c2⟩, c3, c4, c5⟩ := HX1.out
  go_wp2_with fail
  refine (bits_bad2 m n (by omega) h _).mono ?_
  rintro e w2 ⟨rfl, hb0⟩
  have hb2 := below_ext hb1 hb0
  have HV2 := Lib.hid (HV1.out.below hb0)
  have HX2 := Lib.hid (HX1.out.below hb0)
  have HSl2 := Lib.hid (HSl1.out.below hb0)
  clear c0 c1 c2 c3 c4 c5 hb0
  obtain ⟨⟨c0, c1, c2⟩, c3, c4, c5⟩ := HX2.out
  go_wp2_with fail
  refine (join_0 P Q G A B H S xs l c V hj hl2 hk HJV hn (by omega) hQ _ HV2 HSl2).mono ?_
  rintro e w3 ⟨rfl, hb0⟩
  have hb3 := below_ext hb2 hb0
  have HV3 := Lib.hid (HV2.out.below hb0)
  have HX3 := Lib.hid (HX2.out.below hb0)
  have HSl3 := Lib.hid (HSl2.out.below hb0)
  clear c0 c1 c2 c3 c4 c5 hb0
  obtain ⟨⟨c0, c1, c2⟩, c3, c4, c5⟩ := HX3.out
  go_wp2_with fail
  refine (rbvalid_any P Q G A B H true hj hQ _).mono ?_
  rintro e w4 ⟨rfl, hb0⟩
  have hb4 := below_ext hb3 hb0
  have HV4 := Lib.hid (HV3.out.below hb0)
  have HX4 := Lib.hid (HX3.out.below hb0)
  have HSl4 := Lib.hid (HSl3.out.below hb0)
  clear c0 c1 c2 c3 c4 c5 hb0
  obtain ⟨⟨c0, c1, c2⟩, c3, c4, c5⟩ := HX4.out
  go_wp2_with fail
  refine (members_any P Q G S xs l c true hk hn (by omega) HG _ HSl4).mono ?_
  rintro e w5 ⟨rfl, hb0⟩
  have hb5 := below_ext hb4 hb0
  have HV5 := Lib.hid (HV4.out.below hb0)
  have HX5 := Lib.hid (HX4.out.below hb0)
  have HSl5 := Lib.hid (HSl4.out.below hb0)
  clear c0 c1 c2 c3 c4 c5 hb0
  obtain ⟨⟨c0, c1, c2⟩, c3, c4, c5⟩ := HX5.out
  go_wp2_with fail
  refine (rjoin_any P Q G A B H S xs l c V HJV hn hl2 HG hk _ HSl5).mono ?_
  rintro e w6 ⟨rfl, hb0⟩
  have hb6 := below_ext hb5 hb0
  have HV6 := Lib.hid (HV5.out.below hb0)
  have HX6 := Lib.hid (HX5.out.below hb0)
  have HSl6 := Lib.hid (HSl5.out.below hb0)
  clear c0 c1 c2 c3 c4 c5 hb0
  obtain ⟨⟨c0, c1, c2⟩, c3, c4, c5⟩ := HX6.out
  go_wp2
  go_ret
  exact ⟨rfl, hb6⟩

set_option maxHeartbeats 6400000 in
theorem bitr_3_1 (P Q G A B H m : Int) (n : Int) (S : Option Addr) (xs : List Int) (l c : Nat) (hn : Hid (xs.length = l)) (hQ : Q < 9223372036854775808) (hl : l ≤ 100) (h1 : ¬ n < 1) (h2 : ¬ 16 < n) (h : m < 0) (hj : Hid (validB P Q G A B H = false)) (w : World) (hv : Hid (Vars w)) (hs : Hid (Sl w S xs)) :
    Calls Tryd.prog 3 #[bv P Q G A B H, .int .i64 m, .int .i64 n, .slice S l c] w fun e' w' => e' = .returned (.bool true) ∧ Below w.heap.size w w' := by
  have dl : decide ((100 : Int) < (l : Int)) = false := by simp; omega
  have d1 : decide (n < 1) = false := by simp; omega
  have d2 : decide (16 < n) = false := by simp; omega
  have d3 : decide (m < 0) = true := by simp; omega
  have HV0 := Lib.hid (hv.out.below (below_box0 w (bObj P Q G A B H)))
  have HX0 := Lib.hid (bbox_alloc w P Q G A B H)
  have HSl0 := Lib.hid (hs.out.below (below_box0 w (bObj P Q G A B H)))
  clear hs
  go_enter Tryd.func3, Tryd.ntmps3
  go_wp2_with fail
  refine (awake20 _ HV0).mono ?_
  rintro e w1 ⟨rfl, hb0⟩
  have hb1 := below_ext (below_box0 _ _) hb0
  have HV1 := Lib.hid (HV0.out.below hb0)
  have HX1 := Lib.hid (HX0.out.below hb0)
  have HSl1 := Lib.hid (HSl0.out.below hb0)
  clear hb0
  obtain ⟨⟨c0, c1, c2⟩, c3, c4, c5⟩ := HX1.out
  go_wp2_with fail
  refine (bits_bad3 m n (by omega) (by omega) h _).mono ?_
  rintro e w2 ⟨rfl, hb0⟩
  have hb2 := below_ext hb1 hb0
  have HV2 := Lib.hid (HV1.out.below hb0)
  have HX2 := Lib.hid (HX1.out.below hb0)
  have HSl2 := Lib.hid (HSl1.out.below hb0)
  clear c0 c1 c2 c3 c4 c5 hb0
  obtain ⟨⟨c0, c1, c2⟩, c3, c4, c5⟩ := HX2.out
  go_wp2_with fail
  refine (join_1 P Q G A B H S xs l c hj hn (by omega) hQ _ HV2 HSl2).mono ?_
  rintro e w3 ⟨rfl, hb0⟩
  have hb3 := below_ext hb2 hb0
  have HV3 := Lib.hid (HV2.out.below hb0)
  have HX3 := Lib.hid (HX2.out.below hb0)
  have HSl3 := Lib.hid (HSl2.out.below hb0)
  clear c0 c1 c2 c3 c4 c5 hb0
  obtain ⟨⟨c0, c1, c2⟩, c3, c4, c5⟩ := HX3.out
  go_wp2_with fail
  refine (rbvalid_any P Q G A B H false hj hQ _).mono ?_
  rintro e w4 ⟨rfl, hb0⟩
  have hb4 := below_ext hb3 hb0
  have HV4 := Lib.hid (HV3.out.below hb0)
  have HX4 := Lib.hid (HX3.out.below hb0)
  have HSl4 := Lib.hid (HSl3.out.below hb0)
  clear c0 c1 c2 c3 c4 c5 hb0
  obtain ⟨⟨c0, c1, c2⟩, c3, c4, c5⟩ := HX4.out
  go_wp2
  go_ret
  exact ⟨rfl, hb4⟩

set_option maxHeartbeats 6400000 in
theorem bitr_3_5 (P Q G A B H m : Int) (n : Int) (S : Option Addr) (xs : List Int) (l c : Nat) (hn : Hid (xs.length = l)) (hQ : Q < 9223372036854775808) (hl : l ≤ 100) (h1 : ¬ n < 1) (h2 : ¬ 16 < n) (h : m < 0) (hj : Hid (validB P Q G A B H = true)) (hl2 : 16 < l) (w : World) (hv : Hid (Vars w)) (hs : Hid (Sl w S xs)) :
    Calls Tryd.prog 3 #[bv P Q G A B H, .int .i64 m, .int .i64 n, .slice S l c] w fun e' w' => e' = .returned (.bool true) ∧ Below w.heap.size w w' := by
  have dl : decide ((100 : Int) < (l : Int)) = false := by simp; omega
  have d1 : decide (n < 1) = false := by simp; omega
  have d2 : decide (16 < n) = false := by simp; omega
  have d3 : decide (m < 0) = true := by simp; omega
  have d16 : decide ((16 : Int) < (l : Int)) = true := by simp; omega
  have HV0 := Lib.hid (hv.out.below (below_box0 w (bObj P Q G A B H)))
  have HX0 := Lib.hid (bbox_alloc w P Q G A B H)
  have HSl0 := Lib.hid (hs.out.below (below_box0 w (bObj P Q G A B H)))
  clear hs
  go_enter Tryd.func3, Tryd.ntmps3
  go_wp2_with fail
  refine (awake20 _ HV0).mono ?_
  rintro e w1 ⟨rfl, hb0⟩
  have hb1 := below_ext (below_box0 _ _) hb0
  have HV1 := Lib.hid (HV0.out.below hb0)
  have HX1 := Lib.hid (HX0.out.below hb0)
  have HSl1 := Lib.hid (HSl0.out.below hb0)
  clear hb0
  obtain ⟨⟨c0, c1, c2⟩, c3, c4, c5⟩ := HX1.out
  go_wp2_with fail
  refine (bits_bad3 m n (by omega) (by omega) h _).mono ?_
  rintro e w2 ⟨rfl, hb0⟩
  have hb2 := below_ext hb1 hb0
  have HV2 := Lib.hid (HV1.out.below hb0)
  have HX2 := Lib.hid (HX1.out.below hb0)
  have HSl2 := Lib.hid (HSl1.out.below hb0)
  clear c0 c1 c2 c3 c4 c5 hb0
  obtain ⟨⟨c0, c1, c2⟩, c3, c4, c5⟩ := HX2.out
  go_wp2_with fail
  refine (join_5 P Q G A B H S xs l c hj hl2 hn (by omega) hQ _ HV2 HSl2).mono ?_
  rintro e w3 ⟨rfl, hb0⟩
  have hb3 := below_ext hb2 hb0
  have HV3 := Lib.hid (HV2.out.below hb0)
  have HX3 := Lib.hid (HX2.out.below hb0)
  have HSl3 := Lib.hid (HSl2.out.below hb0)
  clear c0 c1 c2 c3 c4 c5 hb0
  obtain ⟨⟨c0, c1, c2⟩, c3, c4, c5⟩ := HX3.out
  go_wp2_with fail
  refine (rbvalid_any P Q G A B H true hj hQ _).mono ?_
  rintro e w4 ⟨rfl, hb0⟩
  have hb4 := below_ext hb3 hb0
  have HV4 := Lib.hid (HV3.out.below hb0)
  have HX4 := Lib.hid (HX3.out.below hb0)
  have HSl4 := Lib.hid (HSl3.out.below hb0)
  clear c0 c1 c2 c3 c4 c5 hb0
  obtain ⟨⟨c0, c1, c2⟩, c3, c4, c5⟩ := HX4.out
  go_wp2
  go_ret
  exact ⟨rfl, hb4⟩

set_option maxHeartbeats 6400000 in
theorem bitr_3_2 (P Q G A B H m : Int) (n : Int) (S : Option Addr) (xs : List Int) (l c : Nat) (hn : Hid (xs.length = l)) (hQ : Q < 9223372036854775808) (hl : l ≤ 100) (h1 : ¬ n < 1) (h2 : ¬ 16 < n) (h : m < 0) (hj : Hid (validB P Q G A B H = true)) (hl2 : l ≤ 16) (hk : Hid (xs.all (memG P Q) = false)) (w : World) (hv : Hid (Vars w)) (hs : Hid (Sl w S xs)) :
    Calls Tryd.prog 3 #[bv P Q G A B H, .int .i64 m, .int .i64 n, .slice S l c] w fun e' w' => e' = .returned (.bool true) ∧ Below w.heap.size w w' := by
  have dl : decide ((100 : Int) < (l : Int)) = false := by simp; omega
  have d1 : decide (n < 1) = false := by simp; omega
  have d2 : decide (16 < n) = false := by simp; omega
  have d3 : decide (m < 0) = true := by simp; omega
  have d16 : decide ((16 : Int) < (l : Int)) = false := by simp; omega
  have HG := Lib.hid (validB_parts hj.out).1
  have HV0 := Lib.hid (hv.out.below (below_box0 w (bObj P Q G A B H)))
  have HX0 := Lib.hid (bbox_alloc w P Q G A B H)
  have HSl0 := Lib.hid (hs.out.below (below_box0 w (bObj P Q G A B H)))
  clear hs
  go_enter Tryd.func3, Tryd.ntmps3
  go_wp2_with fail
  refine (awake20 _ HV0).mono ?_
  rintro e w1 ⟨rfl, hb0⟩
  have hb1 := below_ext (below_box0 _ _) hb0
  have HV1 := Lib.hid (HV0.out.below hb0)
  have HX1 := Lib.hid (HX0.out.below hb0)
  have HSl1 := Lib.hid (HSl0.out.below hb0)
  clear hb0
  obtain ⟨⟨c0, c1, c2⟩, c3, c4, c5⟩ := HX1.out
  go_wp2_with fail
  refine (bits_bad3 m n (by omega) (by omega) h _).mono ?_
  rintro e w2 ⟨rfl, hb0⟩
  have hb2 := below_ext hb1 hb0
  have HV2 := Lib.hid (HV1.out.below hb0)
  have HX2 := Lib.hid (HX1.out.below hb0)
  have HSl2 := Lib.hid (HSl1.out.below hb0)
  clear c0 c1 c2 c3 c4 c5 hb0
  obtain ⟨⟨c0, c1, c2⟩, c3, c4, c5⟩ := HX2.out
  go_wp2_with fail
  refine (join_2 P Q G A B H S xs l c hj hl2 hk hn (by omega) hQ _ HV2 HSl2).mono ?_
  rintro e w3 ⟨rfl, hb0⟩
  have hb3 := below_ext hb2 hb0
  have HV3 := Lib.hid (HV2.out.below hb0)
  have HX3 := Lib.hid (HX2.out.below hb0)
  have HSl3 := Lib.hid (HSl2.out.below hb0)
  clear c0 c1 c2 c3 c4 c5 hb0
  obtain ⟨⟨c0, c1, c2⟩, c3, c4, c5⟩ := HX3.out
  go_wp2_with fail
  refine (rbvalid_any P Q G A B H true hj hQ _).mono ?_
  rintro e w4 ⟨rfl, hb0⟩
  have hb4 := below_ext hb3 hb0
  have HV4 := Lib.hid (HV3.out.below hb0)
  have HX4 := Lib.hid (HX3.out.below hb0)
  have HSl4 := Lib.hid (HSl3.out.below hb0)
  clear c0 c1 c2 c3 c4 c5 hb0
  obtain ⟨⟨c0, c1, c2⟩, c3, c4, c5⟩ := HX4.out
  go_wp2_with fail
  refine (members_any P Q G S xs l c false hk hn (by omega) HG _ HSl4).mono ?_
  rintro e w5 ⟨rfl, hb0⟩
  have hb5 := below_ext hb4 hb0
  have HV5 := Lib.hid (HV4.out.below hb0)
  have HX5 := Lib.hid (HX4.out.below hb0)
  have HSl5 := Lib.hid (HSl4.out.below hb0)
  clear c0 c1 c2 c3 c4 c5 hb0
  obtain ⟨⟨c0, c1, c2⟩, c3, c4, c5⟩ := HX5.out
  go_wp2
  go_ret
  exact ⟨rfl, hb5⟩

set_option maxHeartbeats 6400000 in
theorem bitr_3_0 (P Q G A B H m : Int) (n : Int) (S : Option Addr) (xs : List Int) (l c : Nat) (hn : Hid (xs.length = l)) (hQ : Q < 9223372036854775808) (hl : l ≤ 100) (h1 : ¬ n < 1) (h2 : ¬ 16 < n) (h : m < 0) (hj : Hid (validB P Q G A B H = true)) (hl2 : l ≤ 16) (hk : Hid (xs.all (memG P Q) = true)) (w : World) (hv : Hid (Vars w)) (hs : Hid (Sl w S xs)) :
    Calls Tryd.prog 3 #[bv P Q G A B H, .int .i64 m, .int .i64 n, .slice S l c] w fun e' w' => e' = .returned (.bool true) ∧ Below w.heap.size w w' := by
  have dl : decide ((100 : Int) < (l : Int)) = false := by simp; omega
  have d1 : decide (n < 1) = false := by simp; omega
  have d2 : decide (16 < n) = false := by simp; omega
  have d3 : decide (m < 0) = true := by simp; omega
  have d16 : decide ((16 : Int) < (l : Int)) = false := by simp; omega
  have HG := Lib.hid (validB_parts hj.out).1
  obtain ⟨V, hV⟩ : ∃ V, joinV P Q xs = V := ⟨_, rfl⟩
  have HJV := Lib.hid hV
  clear hV
  have HV0 := Lib.hid (hv.out.below (below_box0 w (bObj P Q G A B H)))
  have HX0 := Lib.hid (bbox_alloc w P Q G A B H)
  have HSl0 := Lib.hid (hs.out.below (below_box0 w (bObj P Q G A B H)))
  clear hs
  go_enter Tryd.func3, Tryd.ntmps3
  go_wp2_with fail
  refine (awake20 _ HV0).mono ?_
  rintro e w1 ⟨rfl, hb0⟩
  have hb1 := below_ext (below_box0 _ _) hb0
  have HV1 := Lib.hid (HV0.out.below hb0)
  have HX1 := Lib.hid (HX0.out.below hb0)
  have HSl1 := Lib.hid (HSl0.out.below hb0)
  clear hb0
  obtain ⟨⟨c0, c1, c2⟩, c3, c4, c5⟩ := HX1.out
  go_wp2_with fail
  refine (bits_bad3 m n (by omega) (by omega) h _).mono ?_
  rintro e w2 ⟨rfl, hb0⟩
  have hb2 := below_ext hb1 hb0
  have HV2 := Lib.hid (HV1.out.below hb0)
  have HX2 := Lib.hid (HX1.out.below hb0)
  have HSl2 := Lib.hid (HSl1.out.below hb0)
  clear c0 c1 c2 c3 c4 c5 hb0
  obtain ⟨⟨c0, c1, c2⟩, c3, c4, c5⟩ := HX2.out
  go_wp2_with fail
  refine (join_0 P Q G A B H S xs l c V hj hl2 hk HJV hn (by omega) hQ _ HV2 HSl2).mono ?_
  rintro e w3 ⟨rfl, hb0⟩
  have hb3 := below_ext hb2 hb0
  have HV3 := Lib.hid (HV2.out.below hb0)
  have HX3 := Lib.hid (HX2.out.below hb0)
  have HSl3 := Lib.hid (HSl2.out.below hb0)
  clear c0 c1 c2 c3 c4 c5 hb0
  obtain ⟨⟨c0, c1, c2⟩, c3, c4, c5⟩ := HX3.out
  go_wp2_with fail
  refine (rbvalid_any P Q G A B H true hj hQ _).mono ?_
  rintro e w4 ⟨rfl, hb0⟩
  have hb4 := below_ext hb3 hb0
  have HV4 := Lib.hid (HV3.out.below hb0)
  have HX4 := Lib.hid (HX3.out.below hb0)
  have HSl4 := Lib.hid (HSl3.out.below hb0)
  clear c0 c1 c2 c3 c4 c5 hb0
  obtain ⟨⟨c0, c1, c2⟩, c3, c4, c5⟩ := HX4.out
  go_wp2_with fail
  refine (members_any P Q G S xs l c true hk hn (by omega) HG _ HSl4).mono ?_
  rintro e w5 ⟨rfl, hb0⟩
  have hb5 := below_ext hb4 hb0
  have HV5 := Lib.hid (HV4.out.below hb0)
  have HX5 := Lib.hid (HX4.out.below hb0)
  have HSl5 := Lib.hid (HSl4.out.below hb0)
  clear c0 c1 c2 c3 c4 c5 hb0
  obtain ⟨⟨c0, c1, c2⟩, c3, c4, c5⟩ := HX5.out
  go_wp2_with fail
  refine (rjoin_any P Q G A B H S xs l c V HJV hn hl2 HG hk _ HSl5).mono ?_
  rintro e w6 ⟨rfl, hb0⟩
  have hb6 := below_ext hb5 hb0
  have HV6 := Lib.hid (HV5.out.below hb0)
  have HX6 := Lib.hid (HX5.out.below hb0)
  have HSl6 := Lib.hid (HSl5.out.below hb0)
  clear c0 c1 c2 c3 c4 c5 hb0
  obtain ⟨⟨c0, c1, c2⟩, c3, c4, c5⟩ := HX6.out
  go_wp2
  go_ret
  exact ⟨rfl, hb6⟩

set_option maxHeartbeats 6400000 in
theorem bitr_4_1 (P Q G A B H m : Int) (n : Nat) (S : Option Addr) (xs : List Int) (l c : Nat) (hn : Hid (xs.length = l)) (hQ : Q < 9223372036854775808) (hl : l ≤ 100) (h1 : 1 ≤ n) (h2 : n ≤ 16) (h0 : 0 ≤ m) (hm : 2 ^ n ≤ m) (hj : Hid (validB P Q G A B H = false)) (w : World) (hv : Hid (Vars w)) (hs : Hid (Sl w S xs)) :
    Calls Tryd.prog 3 #[bv P Q G A B H, .int .i64 m, .int .i64 n, .slice S l c] w fun e' w' => e' = .returned (.bool true) ∧ Below w.heap.size w w' := by
  have dl : decide ((100 : Int) < (l : Int)) = false := by simp; omega
  obtain ⟨q1, q2⟩ := pow16 h2
  obtain ⟨M, hM⟩ : ∃ M, (2 : Int) ^ n = M := ⟨_, rfl⟩
  have hsh : wrap64 ((2 : Int) ^ n) = M := by rw [hM]; exact IntWalk.wrap64_in _ (by omega)
  have d1 : decide ((n : Int) < 1) = false := by simp; omega
  have d2 : decide ((16 : Int) < (n : Int)) = false := by simp; omega
  have d3 : decide (m < 0) = false := by simp; omega
  have d4 : decide (M ≤ m) = true := by rw [← hM]; simp; omega
  clear hM
  have HV0 := Lib.hid (hv.out.below (below_box0 w (bObj P Q G A B H)))
  have HX0 := Lib.hid (bbox_alloc w P Q G A B H)
  have HSl0 := Lib.hid (hs.out.below (below_box0 w (bObj P Q G A B H)))
  clear hs
  go_enter Tryd.func3, Tryd.ntmps3
  go_wp2_with fail
  refine (awake20 _ HV0).mono ?_
  rintro e w1 ⟨rfl, hb0⟩
  have hb1 := below_ext (below_box0 _ _) hb0
  have HV1 := Lib.hid (HV0.out.below hb0)
  have HX1 := Lib.hid (HX0.out.below hb0)
  have HSl1 := Lib.hid (HSl0.out.below hb0)
  clear hb0
  obtain ⟨⟨c0, c1, c2⟩, c3, c4, c5⟩ := HX1.out
  go_wp2_with fail
  refine (bits_bad4 m n h1 h2 h0 hm _).mono ?_
  rintro e w2 ⟨rfl, hb0⟩
  have hb2 := below_ext hb1 hb0
  have HV2 := Lib.hid (HV1.out.below hb0)
  have HX2 := Lib.hid (HX1.out.below hb0)
  have HSl2 := Lib.hid (HSl1.out.below hb0)
  clear c0 c1 c2 c3 c4 c5 hb0
  obtain ⟨⟨c0, c1, c2⟩, c3, c4, c5⟩ := HX2.out
  go_wp2_with fail
  refine (join_1 P Q G A B H S xs l c hj hn (by omega) hQ _ HV2 HSl2).mono ?_
  rintro e w3 ⟨rfl, hb0⟩
  have hb3 := below_ext hb2 hb0
  have HV3 := Lib.hid (HV2.out.below hb0)
  have HX3 := Lib.hid (HX2.out.below hb0)
  have HSl3 := Lib.hid (HSl2.out.below hb0)
  clear c0 c1 c2 c3 c4 c5 hb0
  obtain ⟨⟨c0, c1, c2⟩, c3, c4, c5⟩ := HX3.out
  go_wp2_with fail
  refine (rbvalid_any P Q G A B H false hj hQ _).mono ?_
  rintro e w4 ⟨rfl, hb0⟩
  have hb4 := below_ext hb3 hb0
  have HV4 := Lib.hid (HV3.out.below hb0)
  have HX4 := Lib.hid (HX3.out.below hb0)
  have HSl4 := Lib.hid (HSl3.out.below hb0)
  clear c0 c1 c2 c3 c4 c5 hb0
  obtain ⟨⟨c0, c1, c2⟩, c3, c4, c5⟩ := HX4.out
  go_wp2
  go_ret
  exact ⟨rfl, hb4⟩

set_option maxHeartbeats 6400000 in
theorem bitr_4_5 (P Q G A B H m : Int) (n : Nat) (S : Option Addr) (xs : List Int) (l c : Nat) (hn : Hid (xs.length = l)) (hQ : Q < 9223372036854775808) (hl : l ≤ 100) (h1 : 1 ≤ n) (h2 : n ≤ 16) (h0 : 0 ≤ m) (hm : 2 ^ n ≤ m) (hj : Hid (validB P Q G A B H = true)) (hl2 : 16 < l) (w : World) (hv : Hid (Vars w)) (hs : Hid (Sl w S xs)) :
    Calls Tryd.prog 3 #[bv P Q G A B H, .int .i64 m, .int .i64 n, .slice S l c] w fun e' w' => e' = .returned (.bool true) ∧ Below w.heap.size w w' := by
  have dl : decide ((100 : Int) < (l : Int)) = false := by simp; omega
  obtain ⟨q1, q2⟩ := pow16 h2
  obtain ⟨M, hM⟩ : ∃ M, (2 : Int) ^ n = M := ⟨_, rfl⟩
  have hsh : wrap64 ((2 : Int) ^ n) = M := by rw [hM]; exact IntWalk.wrap64_in _ (by omega)
  have d1 : decide ((n : Int) < 1) = false := by simp; omega
  have d2 : decide ((16 : Int) < (n : Int)) = false := by simp; omega
  have d3 : decide (m < 0) = false := by simp; omega
  have d4 : decide (M ≤ m) = true := by rw [← hM]; simp; omega
  clear hM
  have d16 : decide ((16 : Int) < (l : Int)) = true := by simp; omega
  have HV0 := Lib.hid (hv.out.below (below_box0 w (bObj P Q G A B H)))
  have HX0 := Lib.hid (bbox_alloc w P Q G A B H)
  have HSl0 := Lib.hid (hs.out.below (below_box0 w (bObj P Q G A B H)))
  clear hs
  go_enter Tryd.func3, Tryd.ntmps3
  go_wp2_with fail
  refine (awake20 _ HV0).mono ?_
  rintro e w1 ⟨rfl, hb0⟩
  have hb1 := below_ext (below_box0 _ _) hb0
  have HV1 := Lib.hid (HV0.out.below hb0)
  have HX1 := Lib.hid (HX0.out.below hb0)
  have HSl1 := Lib.hid (HSl0.out.below hb0)
  clear hb0
  obtain ⟨⟨c0, c1, c2⟩, c3, c4, c5⟩ := HX1.out
  go_wp2_with fail
  refine (bits_bad4 m n h1 h2 h0 hm _).mono ?_
  rintro e w2 ⟨rfl, hb0⟩
  have hb2 := below_ext hb1 hb0
  have HV2 := Lib.hid (HV1.out.below hb0)
  have HX2 := Lib.hid (HX1.out.below hb0)
  have HSl2 := Lib.hid (HSl1.out.below hb0)
  clear c0 c1 c2 c3 c4 c5 hb0
  obtain ⟨⟨c0, c1, c2⟩, c3, c4, c5⟩ := HX2.out
  go_wp2_with fail
  refine (join_5 P Q G A B H S xs l c hj hl2 hn (by omega) hQ _ HV2 HSl2).mono ?_
  rintro e w3 ⟨rfl, hb0⟩
  have hb3 := below_ext hb2 hb0
  have HV3 := Lib.hid (HV2.out.below hb0)
  have HX3 := Lib.hid (HX2.out.below hb0)
  have HSl3 := Lib.hid (HSl2.out.below hb0)
  clear c0 c1 c2 c3 c4 c5 hb0
  obtain ⟨⟨c0, c1, c2⟩, c3, c4, c5⟩ := HX3.out
  go_wp2_with fail
  refine (rbvalid_any P Q G A B H true hj hQ _).mono ?_
  rintro e w4 ⟨rfl, hb0⟩
  have hb4 := below_ext hb3 hb0
  have HV4 := Lib.hid (HV3.out.below hb0)
  have HX4 := Lib.hid (HX3.out.below hb0)
  have HSl4 := Lib.hid (HSl3.out.below hb0)
  clear c0 c1 c2 c3 c4 c5 hb0
  obtain ⟨⟨c0, c1, c2⟩, c3, c4, c5⟩ := HX4.out
  go_wp2
  go_ret
  exact ⟨rfl, hb4⟩

set_option maxHeartbeats 6400000 in
theorem bitr_4_2 (P Q G A B H m : Int) (n : Nat) (S : Option Addr) (xs : List Int) (l c : Nat) (hn : Hid (xs.length = l)) (hQ : Q < 9223372036854775808) (hl : l ≤ 100) (h1 : 1 ≤ n) (h2 : n ≤ 16) (h0 : 0 ≤ m) (hm : 2 ^ n ≤ m) (hj : Hid (validB P Q G A B H = true)) (hl2 : l ≤ 16) (hk : Hid (xs.all (memG P Q) = false)) (w : World) (hv : Hid (Vars w)) (hs : Hid (Sl w S xs)) :
    Calls Tryd.prog 3 #[bv P Q G A B H, .int .i64 m, .int .i64 n, .slice S l c] w fun e' w' => e' = .returned (.bool true) ∧ Below w.heap.size w w' := by
  have dl : decide ((100 : Int) < (l : Int)) = false := by simp; omega
  obtain ⟨q1, q2⟩ := pow16 h2
  obtain ⟨M, hM⟩ : ∃ M, (2 : Int) ^ n = M := ⟨_, rfl⟩
  have hsh : wrap64 ((2 : Int) ^ n) = M := by rw [hM]; exact IntWalk.wrap64_in _ (by omega)
  have d1 : decide ((n : Int) < 1) = false := by simp; omega
  have d2 : decide ((16 : Int) < (n : Int)) = false := by simp; omega
  have d3 : decide (m < 0) = false := by simp; omega
  have d4 : decide (M ≤ m) = true := by rw [← hM]; simp; omega
  clear hM
  have d16 : decide ((16 : Int) < (l : Int)) = false := by simp; omega
  have HG := Lib.hid (validB_parts hj.out).1
  have HV0 := Lib.hid (hv.out.below (below_box0 w (bObj P Q G A B H)))
  have HX0 := Lib.hid (bbox_alloc w P Q G A B H)
  have HSl0 := Lib.hid (hs.out.below (below_box0 w (bObj P Q G A B H)))
  clear hs
  go_enter Tryd.func3, Tryd.ntmps3
  go_wp2_with fail
  refine (awake20 _ HV0).mono ?_
  rintro e w1 ⟨rfl, hb0⟩
  have hb1 := below_ext (below_box0 _ _) hb0
  have HV1 := Lib.hid (HV0.out.below hb0)
  have HX1 := Lib.hid (HX0.out.below hb0)
  have HSl1 := Lib.hid (HSl0.out.below hb0)
  clear hb0
  obtain ⟨⟨c0, c1, c2⟩, c3, c4, c5⟩ := HX1.out
  go_wp2_with fail
  refine (bits_bad4 m n h1 h2 h0 hm _).mono ?_
  rintro e w2 ⟨rfl, hb0⟩
  have hb2 := below_ext hb1 hb0
  have HV2 := Lib.hid (HV1.out.below hb0)
  have HX2 := Lib.hid (HX1.out.below hb0)
  have HSl2 := Lib.hid (HSl1.out.below hb0)
  clear c0 c1 c2 c3 c4 c5 hb0
  obtain ⟨⟨c0, c1, c2⟩, c3, c4, c5⟩ := HX2.out
  go_wp2_with fail
  refine (join_2 P Q G A B H S xs l c hj hl2 hk hn (by omega) hQ _ HV2 HSl2).mono ?_
  rintro e w3 ⟨rfl, hb0⟩
  have hb3 := below_ext hb2 hb0
  have HV3 := Lib.hid (HV2.out.below hb0)
  have HX3 := Lib.hid (HX2.out.below hb0)
  have HSl3 := Lib.hid (HSl2.out.below hb0)
  clear c0 c1 c2 c3 c4 c5 hb0
  obtain ⟨⟨c0, c1, c2⟩, c3, c4, c5⟩ := HX3.out
  go_wp2_with fail
  refine (rbvalid_any P Q G A B H true hj hQ _).mono ?_
  rintro e w4 ⟨rfl, hb0⟩
  have hb4 := below_ext hb3 hb0
  have HV4 := Lib.hid (HV3.out.below hb0)
  have HX4 := Lib.hid (HX3.out.below hb0)
  have HSl4 := Lib.hid (HSl3.out.below hb0)
  clear c0 c1 c2 c3 c4 c5 hb0
  obtain ⟨⟨c0, c1, c2⟩, c3, c4, c5⟩ := HX4.out
  go_wp2_with fail
  refine (members_any P Q G S xs l c false hk hn (by omega) HG _ HSl4).mono ?_
  rintro e w5 ⟨rfl, hb0⟩
  have hb5 := below_ext hb4 hb0
  have HV5 := Lib.hid (HV4.out.below hb0)
  have HX5 := Lib.hid (HX4.out.below hb0)
  have HSl5 := Lib.hid (HSl4.out.below hb0)
  clear c0 c1 c2 c3 c4 c5 hb0
  obtain ⟨⟨c0, c1, c2⟩, c3, c4, c5⟩ := HX5.out
  go_wp2
  go_ret
  exact ⟨rfl, hb5⟩

set_option maxHeartbeats 6400000 in
theorem bitr_4_0 (P Q G A B H m : Int) (n : Nat) (S : Option Addr) (xs : List Int) (l c : Nat) (hn : Hid (xs.length = l)) (hQ : Q < 9223372036854775808) (hl : l ≤ 100) (h1 : 1 ≤ n) (h2 : n ≤ 16) (h0 : 0 ≤ m) (hm : 2 ^ n ≤ m) (hj : Hid (validB P Q G A B H = true)) (hl2 : l ≤ 16) (hk : Hid (xs.all (memG P Q) = true)) (w : World) (hv : Hid (Vars w)) (hs : Hid (Sl w S xs)) :
    Calls Tryd.prog 3 #[bv P Q G A B H, .int .i64 m, .int .i64 n, .slice S l c] w fun e' w' => e' = .returned (.bool true) ∧ Below w.heap.size w w' := by
  have dl : decide ((100 : Int) < (l : Int)) = false := by simp; omega
  obtain ⟨q1, q2⟩ := pow16 h2
  obtain ⟨M, hM⟩ : ∃ M, (2 : Int) ^ n = M := ⟨_, rfl⟩
  have hsh : wrap64 ((2 : Int) ^ n) = M := by rw [hM]; exact IntWalk.wrap64_in _ (by omega)
  have d1 : decide ((n : Int) < 1) = false := by simp; omega
  have d2 : decide ((16 : Int) < (n : Int)) = false := by simp; omega
  have d3 : decide (m < 0) = false := by simp; omega
  have d4 : decide (M ≤ m) = true := by rw [← hM]; simp; omega
  clear hM
  have d16 : decide ((16 : Int) < (l : Int)) = false := by simp; omega
  have HG := Lib.hid (validB_parts hj.out).1
  obtain ⟨V, hV⟩ : ∃ V, joinV P Q xs = V := ⟨_, rfl⟩
  have HJV := Lib.hid hV
  clear hV
  have HV0 := Lib.hid (hv.out.below (below_box0 w (bObj P Q G A B H)))
  have HX0 := Lib.hid (bbox_alloc w P Q G A B H)
  have HSl0 := Lib.hid (hs.out.below (below_box0 w (bObj P Q G A B H)))
  clear hs
  go_enter Tryd.func3, Tryd.ntmps3
  go_wp2_with fail
  refine (awake20 _ HV0).mono ?_
  rintro e w1 ⟨rfl, hb0⟩
  have hb1 := below_ext (below_box0 _ _) hb0
  have HV1 := Lib.hid (HV0.out.below hb0)
  have HX1 := Lib.hid (HX0.out.below hb0)
  have HSl1 := Lib.hid (HSl0.out.below hb0)
  clear hb0
  obtain ⟨⟨c0, c1, c2⟩, c3, c4, c5⟩ := HX1.out
  go_wp2_with fail
  refine (bits_bad4 m n h1 h2 h0 hm _).mono ?_
  rintro e w2 ⟨rfl, hb0⟩
  have hb2 := below_ext hb1 hb0
  have HV2 := Lib.hid (HV1.out.below hb0)
  have HX2 := Lib.hid (HX1.out.below hb0)
  have HSl2 := Lib.hid (HSl1.out.below hb0)
  clear c0 c1 c2 c3 c4 c5 hb0
  obtain ⟨⟨c0, c1, c2⟩, c3, c4, c5⟩ := HX2.out
  go_wp2_with fail
  refine (join_0 P Q G A B H S xs l c V hj hl2 hk HJV hn (by omega) hQ _ HV2 HSl2).mono ?_
  rintro e w3 ⟨rfl, hb0⟩
  have hb3 := below_ext hb2 hb0
  have HV3 := Lib.hid (HV2.out.below hb0)
  have HX3 := Lib.hid (HX2.out.below hb0)
  have HSl3 := Lib.hid (HSl2.out.below hb0)
  clear c0 c1 c2 c3 c4 c5 hb0
  obtain ⟨⟨c0, c1, c2⟩, c3, c4, c5⟩ := HX3.out
  go_wp2_with fail
  refine (rbvalid_any P Q G A B H true hj hQ _).mono ?_
  rintro e w4 ⟨rfl, hb0⟩
  have hb4 := below_ext hb3 hb0
  have HV4 := Lib.hid (HV3.out.below hb0)
  have HX4 := Lib.hid (HX3.out.below hb0)
  have HSl4 := Lib.hid (HSl3.out.below hb0)
  clear c0 c1 c2 c3 c4 c5 hb0
  obtain ⟨⟨c0, c1, c2⟩, c3, c4, c5⟩ := HX4.out
  go_wp2_with fail
  refine (members_any P Q G S xs l c true hk hn (by omega) HG _ HSl4).mono ?_
  rintro e w5 ⟨rfl, hb0⟩
  have hb5 := below_ext hb4 hb0
  have HV5 := Lib.hid (HV4.out.below hb0)
  have HX5 := Lib.hid (HX4.out.below hb0)
  have HSl5 := Lib.hid (HSl4.out.below hb0)
  clear c0 c1 c2 c3 c4 c5 hb0
  obtain ⟨⟨c0, c1, c2⟩, c3, c4, c5⟩ := HX5.out
  go_wp2_with fail
  refine (rjoin_any P Q G A B H S xs l c V HJV hn hl2 HG hk _ HSl5).mono ?_
  rintro e w6 ⟨rfl, hb0⟩
  have hb6 := below_ext hb5 hb0
  have HV6 := Lib.hid (HV5.out.below hb0)
  have HX6 := Lib.hid (HX5.out.below hb0)
  have HSl6 := Lib.hid (HSl5.out.below hb0)
  clear c0 c1 c2 c3 c4 c5 hb0
  obtain ⟨⟨c0, c1, c2⟩, c3, c4, c5⟩ := HX6.out
  go_wp2
  go_ret
  exact ⟨rfl, hb6⟩

end Go.Proofs.YtohjfnhgibedpaaDoor
