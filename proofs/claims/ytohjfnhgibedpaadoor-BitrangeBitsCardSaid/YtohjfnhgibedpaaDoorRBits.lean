/- The contract of the reference's Bits: a list that is appended to. -/
import Derived.Test.YtohjfnhgibedpaaDoorBits
import Derived.Maps.AppendAt
namespace Go.Proofs.YtohjfnhgibedpaaDoor
open Go.RowKit SpM
set_option linter.unusedVariables false
set_option maxRecDepth 20000

/-- a row that the call owns, as a list of integers. -/
def OwnL (w : World) (base : Nat) (v : Value) (xs : List Int) : Prop := w.ownsRow base 3 1 v xs.length (xs.map (Value.int .i64))
theorem ownL_nil (w : World) (base : Nat) : OwnL w base (.slice none 0 0) [] := World.ownsRow_nil _ _ _ _
theorem OwnL.app {w1 : World} {base k : Nat} {v' : Value} {xs : List Int} {x : Int} (hk : k = xs.length)
    (h : w1.ownsRow base 3 1 v' (k + 1) (xs.map (Value.int .i64) ++ [.int .i64 x])) : OwnL w1 base v' (xs ++ [x]) := by
  unfold OwnL
  rw [List.length_append, List.map_append, List.length_singleton, ← hk]
  exact h
theorem OwnL.below {w w1 wr : World} {B : Nat} {o : Obj} {v : Value} {xs : List Int} (h : OwnL wr B v xs) (hb : Below B w wr) (hB : B ≤ wr.heap.size) (hg : (wr.alloc o).grownBy w1 v.ownBlock) : Below B w w1 :=
  (hb.alloc hB o).grown hg (by simp; omega) (fun j hj => (World.ownsRow.lt h j hj).1)
/-- a row that owns something lies at a block's head. -/
theorem OwnL.cells {w : World} {B : Nat} {v : Value} {xs : List Int} (h : OwnL w B v xs) (hne : 0 < xs.length) : ∃ g cap, v = .slice (some ⟨g, 0, none⟩) xs.length cap ∧ B ≤ g ∧ Cells w g xs := by
  obtain ⟨h1, h2⟩ := h
  rcases h2 with ⟨_, h0⟩ | ⟨g, cap, cur, rfl, hg, hh, hn, hc, hs, ht⟩
  · omega
  · refine ⟨g, cap, rfl, hg, fun j hj => ?_⟩
    rw [cell_blk hh]
    have e : cur.toList[j]? = (xs.map (Value.int .i64))[j]? := by
      rw [← ht, List.getElem?_take_of_lt (by omega)]
    rw [← Array.getElem?_toList, e, List.getElem?_map, List.getElem?_eq_getElem hj, List.getD_eq_getElem?_getD, List.getElem?_eq_getElem hj]
    rfl

theorem pow_div_succ (m : Int) (k : Nat) : m / 2 ^ k / 2 = m / 2 ^ (k + 1) := by
  have h : (0 : Int) < 2 ^ k := Int.pow_pos (by decide)
  rw [Int.pow_succ, Int.ediv_ediv_of_nonneg (by omega)]

/-- what the reference's Bits answers. -/
def RBitsOut (m : Int) (n : Nat) (w : World) (e : Ending) (w' : World) : Prop :=
  ∃ g cap, e = .returned (.slice (some ⟨g, 0, none⟩) n cap) ∧ Cells w' g (bitsL m n) ∧ Below w.heap.size w w'

set_option maxHeartbeats 3200000 in
theorem rbits_ok (m : Int) (n : Nat) (h1 : 1 ≤ n) (h2 : n ≤ 16) (h0 : 0 ≤ m) (hm : m < 9223372036854775808) (w : World) :
    Calls Tryd.prog 11 #[.int .i64 m, .int .i64 n] w (RBitsOut m n w) := by
  obtain ⟨i0, hi, hz0, hz1, hz2⟩ := info_parts intInfo
  go_enter Tryd.func11, Tryd.ntmps11
  go_wp2
  go_loopw [0, 5, 6] (fun mv v i wr => ∃ (k : Nat) (s : Int), k ≤ n ∧ i = .int .i64 k ∧ mv = .int .i64 s ∧ Hid (m / 2 ^ k = s) ∧ 0 ≤ s ∧ s ≤ m ∧ Hid (OwnL wr w.heap.size v (bitsL m k)) ∧ Hid (Below w.heap.size w wr)) (fun _ _ i _ => n - (intOf i).toNat)
  case atStart => exact ⟨0, m, by omega, rfl, rfl, Lib.hid (by simp), h0, Int.le_refl _, Lib.hid (ownL_nil _ _), Lib.hid (Below.refl _ _)⟩
  case round =>
    obtain ⟨k, s, hk, rfl, rfl, HS, hs0, hs1, HO, HB⟩ := hrel
    by_cases hlt : k < n
    · have hown : wr.ownsRow w.heap.size 3 1 u5 k ((bitsL m k).map (Value.int .i64)) := by
        have h3 := HO.out
        unfold OwnL at h3
        rwa [bitsL_length] at h3
      obtain ⟨t, ht⟩ : ∃ t, s % 2 = t := ⟨_, rfl⟩
      obtain ⟨s2, hs2⟩ : ∃ s2, s / 2 = s2 := ⟨_, rfl⟩
      have hs20 : 0 ≤ s2 := by omega
      have hs21 : s2 ≤ m := by omega
      have hbs := HB.out.size
      have HT : Hid (m / 2 ^ k % 2 = t) := Lib.hid (by rw [HS.out, ht])
      have HS2 : Hid (m / 2 ^ (k + 1) = s2) := Lib.hid (by rw [← pow_div_succ, HS.out, hs2])
      go_wp2_with (at_builtin; refine wpList_append_own _ rfl _ _ 26 rfl w.heap.size 3 i0 (.int .i64 0) 1 8 Tryd.underlying26 hi hz0 hz1 hz2 rfl (by decide) _ _ _ rfl (hown.alloc _) ⟨wr.heap.size, 0, none⟩ 1 1 [.int .i64 t] rfl rfl (cell_one_new _ _ _) (ints_oneCell .i64 [t]) (by unfold maxLen; omega) (by omega) (by simp; omega) ?_; intro v' w1 hown1 hgrow1 _)
      have HO2 : Hid (OwnL w1 w.heap.size v' (bitsL m (k + 1))) := Lib.hid (by
        rw [bitsL_succ, HT.out]
        exact OwnL.app (bitsL_length m k).symm hown1)
      have HB2 : Hid (Below w.heap.size w w1) := Lib.hid (HO.out.below HB.out hbs hgrow1)
      clear hown hown1 hgrow1 HT
      go_roundw
      case rel => exact ⟨k + 1, s2, by omega, by go_num, by first | rfl | rw [hs2], HS2, hs20, hs21, HO2, HB2⟩
      case measure => simp [intOf]; omega
    · obtain rfl : k = n := by omega
      obtain ⟨g, cap, hv, _, hc⟩ := OwnL.cells HO.out (by rw [bitsL_length]; omega)
      rw [bitsL_length] at hv
      subst hv
      have HC := Lib.hid hc
      clear hc HO HS hlt
      go_wp2
      go_ret
      exact ⟨g, cap, rfl, HC.out, HB.out⟩
end Go.Proofs.YtohjfnhgibedpaaDoor
