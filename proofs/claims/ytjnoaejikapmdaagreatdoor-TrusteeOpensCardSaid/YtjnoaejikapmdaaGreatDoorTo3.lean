/- Contracts and lemmas: TruA, TruB, Held, TruC, Many, DigD, DigE, DigF, RdgA, Itm. -/
import Derived.Deep.RegionHeld3
import Derived.Maps.OwnSet
import Derived.Deep.AppendLies
import Derived.Test.YtjnoaejikapmdaaGreatDoorTo2
namespace Go.Proofs.YtjnoaejikapmdaaGreatDoor
open Go.RowKit SpM
set_option linter.unusedVariables false
set_option linter.unusedSimpArgs false
set_option maxRecDepth 100000
abbrev trV (need : Int) (Cs : Option Addr) (cn cc : Nat) (Ks : Option Addr) (kn kc : Nat) : Value := .agg #[.int .i64 need, .slice Cs cn cc, .slice Ks kn kc]
abbrev trO (need : Int) (Cs : Option Addr) (cn cc : Nat) (Ks : Option Addr) (kn kc : Nat) : Obj := .cells #[.int .i64 need, .slice Cs cn cc, .slice Ks kn kc] 26
def numB (Q need : Int) (n : Nat) : Bool := decide (1 ≤ n) && (decide (n ≤ 8) && (decide ((n : Int) < Q) && (decide (1 ≤ need) && decide (need ≤ n))))
def exM (Q i : Int) : Nat → Int
  | 0 => 1
  | k + 1 => exM Q i k * i % Q
def keM (P Q : Int) (cs : List Int) (i : Int) : Nat → Int
  | 0 => 1
  | k + 1 => keM P Q cs i k * pw (cs.getD k 0) (exM Q i k % Q) P % P
def kyB (P Q : Int) (cs : List Int) : Nat → List Int → Bool
  | _, [] => true
  | i, y :: t => (y == keM P Q cs ((i : Int) + 1) cs.length) && kyB P Q cs (i + 1) t
theorem kyB_drop {P Q : Int} {cs ks : List Int} {k : Nat} (hk : k < ks.length) : kyB P Q cs k (ks.drop k) = ((ks.getD k 0 == keM P Q cs ((k : Int) + 1) cs.length) && kyB P Q cs (k + 1) (ks.drop (k + 1))) := by
  rw [List.drop_eq_getElem_cons hk, kyB, List.getD_eq_getElem?_getD, List.getElem?_eq_getElem hk]; rfl
theorem exM_bounds {Q i : Int} (hQ : 2 ≤ Q) : ∀ k, 0 ≤ exM Q i k ∧ exM Q i k < Q
  | 0 => ⟨by rw [exM]; omega, by rw [exM]; omega⟩
  | k + 1 => ⟨Int.emod_nonneg _ (by omega), Int.emod_lt_of_pos _ (by omega)⟩
theorem keM_mem {P Q : Int} {cs : List Int} {i : Int} (hP : 2 ≤ P) (hQ : 1 ≤ Q) (h : cs.all (memG P Q) = true) : ∀ k, k ≤ cs.length → memG P Q (keM P Q cs i k) = true
  | 0, _ => mem_one hP
  | k + 1, hk => mem_mul hP hQ (keM_mem hP hQ h k (by omega)) (mem_pw hP hQ (Int.emod_nonneg _ (by omega)) (all_get h (by omega)))
theorem numB_parts {Q need : Int} {n : Nat} (h : numB Q need n = true) : 1 ≤ n ∧ n ≤ 8 ∧ (n : Int) < Q ∧ 1 ≤ need ∧ need ≤ n := by
  unfold numB at h
  simpa using h
theorem sl_some {w : World} {A : Option Addr} {xs : List Int} (h : Sl w A xs) (hp : 0 < xs.length) : ∃ b o, A = some ⟨b, o, none⟩ := by
  obtain ⟨b, o, h1, _⟩ := h 0 hp
  exact ⟨b, o, h1⟩
def trB (P Q G need : Int) (cs ks : List Int) : Bool := validG P Q G && (numB Q need ks.length && (decide ((cs.length : Int) = need) && (!(cs.getD 0 0 == 1) && (cs.all (memG P Q) && kyB P Q cs 0 ks))))
set_option maxHeartbeats 3200000 in
theorem numbers_any (P Q G need : Int) (n : Nat) (r : Bool) (hr : Hid (numB Q need n = r)) (w : World) :
    Calls Tryz.prog 64 #[gv P Q G, .int .i64 need, .int .i64 n] w fun e' w' => e' = .returned (.bool r) ∧ Below w.heap.size w w' := by
  have HX := Lib.hid (gbox_alloc w P Q G)
  obtain ⟨c0, c1, c2⟩ := HX.out
  have hb := below_box0 w (gObj P Q G)
  have hr1 := hr.out
  unfold numB at hr1
  by_cases h0 : 1 ≤ n
  · have d0 : decide ((1 : Int) ≤ (n : Int)) = true := by simp; omega
    by_cases h1 : n ≤ 8
    · have d1 : decide ((n : Int) ≤ 8) = true := by simp; omega
      by_cases h2 : (n : Int) < Q
      · have d2 : decide ((n : Int) < Q) = true := by simp; omega
        by_cases h3 : 1 ≤ need
        · have d3 : decide ((1 : Int) ≤ need) = true := by simp; omega
          by_cases h4 : need ≤ n
          · have d4 : decide (need ≤ (n : Int)) = true := by simp; omega
            obtain rfl : r = true := by rw [← hr1]; simp; omega
            go_enter Tryz.func64, Tryz.ntmps64
            go_wp2
            go_ret
            exact ⟨rfl, hb⟩
          · have d4 : decide (need ≤ (n : Int)) = false := by simp; omega
            obtain rfl : r = false := by rw [← hr1]; simp; omega
            go_enter Tryz.func64, Tryz.ntmps64
            go_wp2
            go_ret
            exact ⟨rfl, hb⟩
        · have d3 : decide ((1 : Int) ≤ need) = false := by simp; omega
          obtain rfl : r = false := by rw [← hr1]; simp; omega
          go_enter Tryz.func64, Tryz.ntmps64
          go_wp2
          go_ret
          exact ⟨rfl, hb⟩
      · have d2 : decide ((n : Int) < Q) = false := by simp; omega
        obtain rfl : r = false := by rw [← hr1]; simp; omega
        go_enter Tryz.func64, Tryz.ntmps64
        go_wp2
        go_ret
        exact ⟨rfl, hb⟩
    · have d1 : decide ((n : Int) ≤ 8) = false := by simp; omega
      obtain rfl : r = false := by rw [← hr1]; simp; omega
      go_enter Tryz.func64, Tryz.ntmps64
      go_wp2
      go_ret
      exact ⟨rfl, hb⟩
  · have d0 : decide ((1 : Int) ≤ (n : Int)) = false := by simp; omega
    obtain rfl : r = false := by rw [← hr1]; simp; omega
    go_enter Tryz.func64, Tryz.ntmps64
    go_wp2
    go_ret
    exact ⟨rfl, hb⟩
set_option maxRecDepth 100000 in
theorem stz0 (P : Int) (Q : Int) (G : Int) (w : World) : ∃ w0, Hid ((w.alloc (gObj P Q G)) = w0) ∧ Hid (Below w.heap.size w w0) ∧ Hid (∀ u : World, Hid (Below w0.heap.size w0 u) → u.cell? ⟨w.heap.size, 0, none⟩ = some (.int .i64 P) ∧ u.cell? ⟨w.heap.size, 1, none⟩ = some (.int .i64 Q) ∧ u.cell? ⟨w.heap.size, 2, none⟩ = some (.int .i64 G)) := by
  obtain ⟨w0, hW⟩ : ∃ W, (w.alloc (gObj P Q G)) = W := ⟨_, rfl⟩
  have HBw : Hid (Below w.heap.size w w0) := Lib.hid (by rw [← hW]; exact below_box0 _ _)
  have hc : w0.cell? ⟨w.heap.size, 0, none⟩ = some (.int .i64 P) ∧ w0.cell? ⟨w.heap.size, 1, none⟩ = some (.int .i64 Q) ∧ w0.cell? ⟨w.heap.size, 2, none⟩ = some (.int .i64 G) := by rw [← hW]; exact ⟨allocs_cell (by simp) (by rfl), allocs_cell (by simp) (by rfl), allocs_cell (by simp) (by rfl)⟩
  have kC := Lib.hid (show ∀ u : World, Hid (Below w0.heap.size w0 u) → u.cell? ⟨w.heap.size, 0, none⟩ = some (.int .i64 P) ∧ u.cell? ⟨w.heap.size, 1, none⟩ = some (.int .i64 Q) ∧ u.cell? ⟨w.heap.size, 2, none⟩ = some (.int .i64 G) from fun u h => ⟨cell_below hc.1 h.out, cell_below hc.2.1 h.out, cell_below hc.2.2 h.out⟩)
  exact ⟨w0, Lib.hid hW, HBw, kC⟩
set_option maxHeartbeats 6400000 in
theorem key_any (P Q G : Int) (bC oC : Nat) (cs : List Int) (cn cc : Nat) (hbig : cn < 1000000) (idx K : Int) (HVG : Hid (validG P Q G = true)) (hn : Hid (cs.length = cn)) (hm : Hid (cs.all (memG P Q) = true)) (i0 : 0 ≤ idx) (i1 : idx < Q) (hK : Hid (keM P Q cs idx cs.length = K)) (w : World) (hv : Hid (Vars w)) (hC : Hid (Sl w (some ⟨bC, oC, none⟩) cs)) :
    Calls Tryz.prog 66 #[gv P Q G, .slice (some ⟨bC, oC, none⟩) cn cc, .int .i64 idx] w fun e' w' => e' = .returned (.int .i64 K) ∧ Below w.heap.size w w' := by
  obtain ⟨hp2, hp, hq3, hqp⟩ := validG_P HVG.out
  have hQ : Q < 9223372036854775808 := by omega
  have hq : Q < 2305843009213693952 := by omega
  obtain ⟨w0, HW, HBw, kC⟩ := stz0 P Q G w
  have kV := Lib.hid (show ∀ u : World, Hid (Below w0.heap.size w0 u) → Hid (Vars u) from fun u h => Lib.hid ((hv.out.below) (below_ext HBw.out h.out)))
  have kCs := Lib.hid (show ∀ u : World, Hid (Below w0.heap.size w0 u) → Hid (Sl u (some ⟨bC, oC, none⟩) cs) from fun u h => Lib.hid ((hC.out.below) (below_ext HBw.out h.out)))
  have HB_0 : Hid (Below w0.heap.size w0 w0) := Lib.hid (Below.refl _ _)
  clear hv hC
  go_enter Tryz.func66, Tryz.ntmps66
  go_wp2_with fail
  rw [HW.out]
  obtain ⟨zc0, zc1, zc2⟩ := kC.out _ HB_0
  go_wp2
  clear zc0 zc1 zc2
  go_loopw [7, 8, 15] (fun y e i wr => ∃ k : Nat, k ≤ cn ∧ i = .int .i64 k ∧ y = .int .i64 (keM P Q cs idx k) ∧ e = .int .i64 (exM Q idx k) ∧ Hid (Below w0.heap.size w0 wr)) (fun _ _ i _ => cn - (intOf i).toNat)
  case atStart => exact ⟨0, by omega, rfl, rfl, rfl, HB_0⟩
  case round =>
    obtain ⟨k, hk, rfl, rfl, rfl, HBr⟩ := hrel
    have hkm := keM_mem (i := idx) hp2 (by omega) hm.out k (by rw [hn.out]; exact hk)
    obtain ⟨e0, e1⟩ := exM_bounds (i := idx) (show 2 ≤ Q by omega) k
    by_cases hlt : k < cn
    · skip
      have hkl : k < cs.length := by rw [hn.out]; exact hlt
      obtain ⟨b, o, hA, hi⟩ := (kCs.out _ HBr).out k hkl
      cases hA
      have hcm := all_get hm.out hkl
      have sk : keM P Q cs idx (k + 1) = keM P Q cs idx k * pw (cs.getD k 0) (exM Q idx k % Q) P % P := rfl
      have se : exM Q idx (k + 1) = exM Q idx k * idx % Q := rfl
      obtain ⟨x, hx⟩ : ∃ x, cs.getD k 0 = x := ⟨_, rfl⟩
      obtain ⟨a, ha⟩ : ∃ x, keM P Q cs idx k = x := ⟨_, rfl⟩
      obtain ⟨e, he⟩ : ∃ x, exM Q idx k = x := ⟨_, rfl⟩
      obtain ⟨v, hv9⟩ : ∃ x', pw x (e % Q) P = x' := ⟨_, rfl⟩
      obtain ⟨u, hu⟩ : ∃ x', a * v % P = x' := ⟨_, rfl⟩
      obtain ⟨f, hf⟩ : ∃ x', e * idx % Q = x' := ⟨_, rfl⟩
      rw [hx] at hi hcm sk
      rw [ha] at hkm sk ⊢
      rw [he] at e0 e1 sk se ⊢
      rw [hv9, hu] at sk
      rw [hf] at se
      have ck1 : Hid (chkG P Q G [x] = 0) := Lib.hid (chkG_ok HVG.out (by simp [hcm]))
      have mv : memG P Q v = true := by rw [← hv9]; exact mem_pw hp2 (by omega) (Int.emod_nonneg _ (by omega)) hcm
      have ck2 : Hid (chkG P Q G [a, v] = 0) := Lib.hid (chkG_ok HVG.out (by simp [hkm, mv]))
      have HV9 := Lib.hid hv9
      have HU := Lib.hid hu
      have HF := Lib.hid hf
      have SK := Lib.hid sk
      have SE := Lib.hid se
      clear hx ha he hv9 hu hf sk se hcm hkm mv hkl
      obtain ⟨zc0, zc1, zc2⟩ := kC.out _ HBr
      go_wp2_with fail
      refine (gpow_ok P Q G x e v ck1 HV9 (by omega) (by omega) _ (kV.out _ HBr)).mono ?_
      rintro e w1 ⟨rfl, hb0⟩
      have HB_1 := Lib.hid (below_ext HBr.out hb0)
      clear zc0 zc1 zc2
      clear hb0
      obtain ⟨zc0, zc1, zc2⟩ := kC.out _ HB_1
      go_wp2_with fail
      refine (gmul_ok P Q G a v u ck2 HU hQ _ (kV.out _ HB_1)).mono ?_
      rintro e w2 ⟨rfl, hb0⟩
      have HB_2 := Lib.hid (below_ext HB_1.out hb0)
      clear zc0 zc1 zc2
      clear hb0
      obtain ⟨zc0, zc1, zc2⟩ := kC.out _ HB_2
      go_wp2_with fail
      refine (wmul_eq e idx Q f HF hq e0 e1 i0 i1 _).mono ?_
      rintro e9 w9 ⟨rfl, n9, rfl⟩
      have HB9 := Lib.hid (below_drawN HB_2.out n9)
      go_wp2
      go_roundw
      case rel => exact ⟨k + 1, by omega, by go_num, by rw [SK.out], by rw [SE.out], HB9⟩
      case measure => simp [intOf]; omega
    · skip
      obtain rfl : k = cn := by omega
      have hkv := hK.out
      rw [hn.out] at hkv
      rw [hkv]
      clear hkv hkm e0 e1
      have hbF := below_ext HBw.out HBr.out
      go_wp2
      go_ret
      exact ⟨rfl, hbF⟩
set_option maxRecDepth 100000 in
theorem stz1 (P : Int) (Q : Int) (G : Int) (need : Int) (Cs : Option Addr) (cn : Nat) (cc : Nat) (Ks : Option Addr) (kn : Nat) (kc : Nat) (w : World) : ∃ w0, Hid (((w.alloc (gObj P Q G)).alloc (trO need Cs cn cc Ks kn kc)) = w0) ∧ Hid (Below w.heap.size w w0) ∧ Hid (∀ u : World, Hid (Below w0.heap.size w0 u) → u.cell? ⟨w.heap.size, 0, none⟩ = some (.int .i64 P) ∧ u.cell? ⟨w.heap.size, 1, none⟩ = some (.int .i64 Q) ∧ u.cell? ⟨w.heap.size, 2, none⟩ = some (.int .i64 G) ∧ u.cell? ⟨w.heap.size + 1, 0, none⟩ = some (.int .i64 need) ∧ u.cell? ⟨w.heap.size + 1, 1, none⟩ = some (.slice Cs cn cc) ∧ u.cell? ⟨w.heap.size + 1, 2, none⟩ = some (.slice Ks kn kc)) := by
  obtain ⟨w0, hW⟩ : ∃ W, ((w.alloc (gObj P Q G)).alloc (trO need Cs cn cc Ks kn kc)) = W := ⟨_, rfl⟩
  have HBw : Hid (Below w.heap.size w w0) := Lib.hid (by rw [← hW]; exact below_two (Below.refl _ _))
  have hc : w0.cell? ⟨w.heap.size, 0, none⟩ = some (.int .i64 P) ∧ w0.cell? ⟨w.heap.size, 1, none⟩ = some (.int .i64 Q) ∧ w0.cell? ⟨w.heap.size, 2, none⟩ = some (.int .i64 G) ∧ w0.cell? ⟨w.heap.size + 1, 0, none⟩ = some (.int .i64 need) ∧ w0.cell? ⟨w.heap.size + 1, 1, none⟩ = some (.slice Cs cn cc) ∧ w0.cell? ⟨w.heap.size + 1, 2, none⟩ = some (.slice Ks kn kc) := by rw [← hW]; exact ⟨cell_below (allocs_cell (by simp) (by rfl)) (below_box0 _ _), cell_below (allocs_cell (by simp) (by rfl)) (below_box0 _ _), cell_below (allocs_cell (by simp) (by rfl)) (below_box0 _ _), allocs_cell (by simp) (by rfl), allocs_cell (by simp) (by rfl), allocs_cell (by simp) (by rfl)⟩
  have kC := Lib.hid (show ∀ u : World, Hid (Below w0.heap.size w0 u) → u.cell? ⟨w.heap.size, 0, none⟩ = some (.int .i64 P) ∧ u.cell? ⟨w.heap.size, 1, none⟩ = some (.int .i64 Q) ∧ u.cell? ⟨w.heap.size, 2, none⟩ = some (.int .i64 G) ∧ u.cell? ⟨w.heap.size + 1, 0, none⟩ = some (.int .i64 need) ∧ u.cell? ⟨w.heap.size + 1, 1, none⟩ = some (.slice Cs cn cc) ∧ u.cell? ⟨w.heap.size + 1, 2, none⟩ = some (.slice Ks kn kc) from fun u h => ⟨cell_below hc.1 h.out, cell_below hc.2.1 h.out, cell_below hc.2.2.1 h.out, cell_below hc.2.2.2.1 h.out, cell_below hc.2.2.2.2.1 h.out, cell_below hc.2.2.2.2.2 h.out⟩)
  exact ⟨w0, Lib.hid hW, HBw, kC⟩
set_option maxHeartbeats 3200000 in
theorem trv_1 (P Q G need : Int) (Cs : Option Addr) (cn cc : Nat) (Ks : Option Addr) (kn kc : Nat) (HVG : Hid (validG P Q G = false)) (hQ : Q < 9223372036854775808) (w : World) (hv : Hid (Vars w)) :
    Calls Tryz.prog 14 #[gv P Q G, trV need Cs cn cc Ks kn kc] w fun e' w' => e' = .returned (.bool false) ∧ Below w.heap.size w w' := by
  obtain ⟨w0, HW, HBw, kC⟩ := stz1 P Q G need Cs cn cc Ks kn kc w
  have kV := Lib.hid (show ∀ u : World, Hid (Below w0.heap.size w0 u) → Hid (Vars u) from fun u h => Lib.hid ((hv.out.below) (below_ext HBw.out h.out)))
  have HB_0 : Hid (Below w0.heap.size w0 w0) := Lib.hid (Below.refl _ _)
  clear hv
  go_enter Tryz.func14, Tryz.ntmps14
  go_wp2_with fail
  rw [HW.out]
  obtain ⟨zc0, zc1, zc2, zc3, zc4, zc5⟩ := kC.out _ HB_0
  go_wp2_with fail
  refine (valid_any P Q G false HVG hQ _ (kV.out _ HB_0)).mono ?_
  rintro e w1 ⟨rfl, hb0⟩
  have HB_1 := Lib.hid (below_ext HB_0.out hb0)
  clear zc0 zc1 zc2 zc3 zc4 zc5
  clear hb0
  obtain ⟨zc0, zc1, zc2, zc3, zc4, zc5⟩ := kC.out _ HB_1
  have hbF := below_ext HBw.out HB_1.out
  go_wp2
  go_ret
  exact ⟨rfl, hbF⟩
set_option maxHeartbeats 3200000 in
theorem trv_2 (P Q G need : Int) (Cs : Option Addr) (cn cc : Nat) (Ks : Option Addr) (kn kc : Nat) (HVG : Hid (validG P Q G = true)) (HN : Hid (numB Q need kn = false)) (hQ : Q < 9223372036854775808) (w : World) (hv : Hid (Vars w)) :
    Calls Tryz.prog 14 #[gv P Q G, trV need Cs cn cc Ks kn kc] w fun e' w' => e' = .returned (.bool false) ∧ Below w.heap.size w w' := by
  obtain ⟨w0, HW, HBw, kC⟩ := stz1 P Q G need Cs cn cc Ks kn kc w
  have kV := Lib.hid (show ∀ u : World, Hid (Below w0.heap.size w0 u) → Hid (Vars u) from fun u h => Lib.hid ((hv.out.below) (below_ext HBw.out h.out)))
  have HB_0 : Hid (Below w0.heap.size w0 w0) := Lib.hid (Below.refl _ _)
  clear hv
  go_enter Tryz.func14, Tryz.ntmps14
  go_wp2_with fail
  rw [HW.out]
  obtain ⟨zc0, zc1, zc2, zc3, zc4, zc5⟩ := kC.out _ HB_0
  go_wp2_with fail
  refine (valid_any P Q G true HVG hQ _ (kV.out _ HB_0)).mono ?_
  rintro e w1 ⟨rfl, hb0⟩
  have HB_1 := Lib.hid (below_ext HB_0.out hb0)
  clear zc0 zc1 zc2 zc3 zc4 zc5
  clear hb0
  obtain ⟨zc0, zc1, zc2, zc3, zc4, zc5⟩ := kC.out _ HB_1
  go_wp2_with fail
  refine (numbers_any P Q G need kn false HN _).mono ?_
  rintro e w2 ⟨rfl, hb0⟩
  have HB_2 := Lib.hid (below_ext HB_1.out hb0)
  clear zc0 zc1 zc2 zc3 zc4 zc5
  clear hb0
  obtain ⟨zc0, zc1, zc2, zc3, zc4, zc5⟩ := kC.out _ HB_2
  have hbF := below_ext HBw.out HB_2.out
  go_wp2
  go_ret
  exact ⟨rfl, hbF⟩
set_option maxHeartbeats 3200000 in
theorem trv_3 (P Q G need : Int) (Cs : Option Addr) (cn cc : Nat) (Ks : Option Addr) (kn kc : Nat) (HVG : Hid (validG P Q G = true)) (HN : Hid (numB Q need kn = true)) (hne : ¬ ((cn : Int) = need)) (hQ : Q < 9223372036854775808) (w : World) (hv : Hid (Vars w)) :
    Calls Tryz.prog 14 #[gv P Q G, trV need Cs cn cc Ks kn kc] w fun e' w' => e' = .returned (.bool false) ∧ Below w.heap.size w w' := by
  have dn : ((cn : Int) != need) = true := by simpa using hne
  obtain ⟨w0, HW, HBw, kC⟩ := stz1 P Q G need Cs cn cc Ks kn kc w
  have kV := Lib.hid (show ∀ u : World, Hid (Below w0.heap.size w0 u) → Hid (Vars u) from fun u h => Lib.hid ((hv.out.below) (below_ext HBw.out h.out)))
  have HB_0 : Hid (Below w0.heap.size w0 w0) := Lib.hid (Below.refl _ _)
  clear hv
  go_enter Tryz.func14, Tryz.ntmps14
  go_wp2_with fail
  rw [HW.out]
  obtain ⟨zc0, zc1, zc2, zc3, zc4, zc5⟩ := kC.out _ HB_0
  go_wp2_with fail
  refine (valid_any P Q G true HVG hQ _ (kV.out _ HB_0)).mono ?_
  rintro e w1 ⟨rfl, hb0⟩
  have HB_1 := Lib.hid (below_ext HB_0.out hb0)
  clear zc0 zc1 zc2 zc3 zc4 zc5
  clear hb0
  obtain ⟨zc0, zc1, zc2, zc3, zc4, zc5⟩ := kC.out _ HB_1
  go_wp2_with fail
  refine (numbers_any P Q G need kn true HN _).mono ?_
  rintro e w2 ⟨rfl, hb0⟩
  have HB_2 := Lib.hid (below_ext HB_1.out hb0)
  clear zc0 zc1 zc2 zc3 zc4 zc5
  clear hb0
  obtain ⟨zc0, zc1, zc2, zc3, zc4, zc5⟩ := kC.out _ HB_2
  have hbF := below_ext HBw.out HB_2.out
  go_wp2
  go_ret
  exact ⟨rfl, hbF⟩
set_option maxRecDepth 100000 in
theorem stz2 (P : Int) (Q : Int) (G : Int) (need : Int) (bC : Nat) (oC : Nat) (cn : Nat) (cc : Nat) (bK : Nat) (oK : Nat) (kn : Nat) (kc : Nat) (w : World) : ∃ w0, Hid (((w.alloc (gObj P Q G)).alloc (trO need (some ⟨bC, oC, none⟩) cn cc (some ⟨bK, oK, none⟩) kn kc)) = w0) ∧ Hid (Below w.heap.size w w0) ∧ Hid (∀ u : World, Hid (Below w0.heap.size w0 u) → u.cell? ⟨w.heap.size, 0, none⟩ = some (.int .i64 P) ∧ u.cell? ⟨w.heap.size, 1, none⟩ = some (.int .i64 Q) ∧ u.cell? ⟨w.heap.size, 2, none⟩ = some (.int .i64 G) ∧ u.cell? ⟨w.heap.size + 1, 0, none⟩ = some (.int .i64 need) ∧ u.cell? ⟨w.heap.size + 1, 1, none⟩ = some (.slice (some ⟨bC, oC, none⟩) cn cc) ∧ u.cell? ⟨w.heap.size + 1, 2, none⟩ = some (.slice (some ⟨bK, oK, none⟩) kn kc)) := by
  obtain ⟨w0, hW⟩ : ∃ W, ((w.alloc (gObj P Q G)).alloc (trO need (some ⟨bC, oC, none⟩) cn cc (some ⟨bK, oK, none⟩) kn kc)) = W := ⟨_, rfl⟩
  have HBw : Hid (Below w.heap.size w w0) := Lib.hid (by rw [← hW]; exact below_two (Below.refl _ _))
  have hc : w0.cell? ⟨w.heap.size, 0, none⟩ = some (.int .i64 P) ∧ w0.cell? ⟨w.heap.size, 1, none⟩ = some (.int .i64 Q) ∧ w0.cell? ⟨w.heap.size, 2, none⟩ = some (.int .i64 G) ∧ w0.cell? ⟨w.heap.size + 1, 0, none⟩ = some (.int .i64 need) ∧ w0.cell? ⟨w.heap.size + 1, 1, none⟩ = some (.slice (some ⟨bC, oC, none⟩) cn cc) ∧ w0.cell? ⟨w.heap.size + 1, 2, none⟩ = some (.slice (some ⟨bK, oK, none⟩) kn kc) := by rw [← hW]; exact ⟨cell_below (allocs_cell (by simp) (by rfl)) (below_box0 _ _), cell_below (allocs_cell (by simp) (by rfl)) (below_box0 _ _), cell_below (allocs_cell (by simp) (by rfl)) (below_box0 _ _), allocs_cell (by simp) (by rfl), allocs_cell (by simp) (by rfl), allocs_cell (by simp) (by rfl)⟩
  have kC := Lib.hid (show ∀ u : World, Hid (Below w0.heap.size w0 u) → u.cell? ⟨w.heap.size, 0, none⟩ = some (.int .i64 P) ∧ u.cell? ⟨w.heap.size, 1, none⟩ = some (.int .i64 Q) ∧ u.cell? ⟨w.heap.size, 2, none⟩ = some (.int .i64 G) ∧ u.cell? ⟨w.heap.size + 1, 0, none⟩ = some (.int .i64 need) ∧ u.cell? ⟨w.heap.size + 1, 1, none⟩ = some (.slice (some ⟨bC, oC, none⟩) cn cc) ∧ u.cell? ⟨w.heap.size + 1, 2, none⟩ = some (.slice (some ⟨bK, oK, none⟩) kn kc) from fun u h => ⟨cell_below hc.1 h.out, cell_below hc.2.1 h.out, cell_below hc.2.2.1 h.out, cell_below hc.2.2.2.1 h.out, cell_below hc.2.2.2.2.1 h.out, cell_below hc.2.2.2.2.2 h.out⟩)
  exact ⟨w0, Lib.hid hW, HBw, kC⟩
set_option maxHeartbeats 6400000 in
theorem trv_4 (P Q G need : Int) (bC oC : Nat) (cs : List Int) (cn cc : Nat) (bK oK : Nat) (ks : List Int) (kn kc : Nat) (hcn : Hid (cs.length = cn)) (hkn : Hid (ks.length = kn)) (HVG : Hid (validG P Q G = true)) (HN : Hid (numB Q need kn = true)) (hne : Hid ((cn : Int) = need)) (hpos : 0 < cn) (c0v : Int) (HC0 : Hid (cs.getD 0 0 = c0v)) (h1 : (c0v == 1) = true) (hQ : Q < 9223372036854775808) (w : World) (hv : Hid (Vars w)) (hC : Hid (Sl w (some ⟨bC, oC, none⟩) cs)) (hK : Hid (Sl w (some ⟨bK, oK, none⟩) ks)) :
    Calls Tryz.prog 14 #[gv P Q G, trV need (some ⟨bC, oC, none⟩) cn cc (some ⟨bK, oK, none⟩) kn kc] w fun e' w' => e' = .returned (.bool false) ∧ Below w.heap.size w w' := by
  have dn : ((cn : Int) != need) = false := by simpa using hne.out
  obtain ⟨w0, HW, HBw, kC⟩ := stz2 P Q G need bC oC cn cc bK oK kn kc w
  have kV := Lib.hid (show ∀ u : World, Hid (Below w0.heap.size w0 u) → Hid (Vars u) from fun u h => Lib.hid ((hv.out.below) (below_ext HBw.out h.out)))
  have kCs := Lib.hid (show ∀ u : World, Hid (Below w0.heap.size w0 u) → Hid (Sl u (some ⟨bC, oC, none⟩) cs) from fun u h => Lib.hid ((hC.out.below) (below_ext HBw.out h.out)))
  have kKs := Lib.hid (show ∀ u : World, Hid (Below w0.heap.size w0 u) → Hid (Sl u (some ⟨bK, oK, none⟩) ks) from fun u h => Lib.hid ((hK.out.below) (below_ext HBw.out h.out)))
  have HB_0 : Hid (Below w0.heap.size w0 w0) := Lib.hid (Below.refl _ _)
  clear hv hC hK
  go_enter Tryz.func14, Tryz.ntmps14
  go_wp2_with fail
  rw [HW.out]
  obtain ⟨zc0, zc1, zc2, zc3, zc4, zc5⟩ := kC.out _ HB_0
  go_wp2_with fail
  refine (valid_any P Q G true HVG hQ _ (kV.out _ HB_0)).mono ?_
  rintro e w1 ⟨rfl, hb0⟩
  have HB_1 := Lib.hid (below_ext HB_0.out hb0)
  clear zc0 zc1 zc2 zc3 zc4 zc5
  clear hb0
  obtain ⟨zc0, zc1, zc2, zc3, zc4, zc5⟩ := kC.out _ HB_1
  obtain ⟨b9, o9, hA9, hi9⟩ := (kCs.out _ HB_1).out 0 (by rw [hcn.out]; exact hpos)
  cases hA9
  rw [HC0.out, Nat.add_zero] at hi9
  have HI9 := Lib.hid hi9
  clear hi9
  go_wp2_with fail
  refine (numbers_any P Q G need kn true HN _).mono ?_
  rintro e w2 ⟨rfl, hb0⟩
  have HB_2 := Lib.hid (below_ext HB_1.out hb0)
  clear zc0 zc1 zc2 zc3 zc4 zc5
  clear hb0
  obtain ⟨zc0, zc1, zc2, zc3, zc4, zc5⟩ := kC.out _ HB_2
  obtain ⟨b9, o9, hA9, hi9⟩ := (kCs.out _ HB_2).out 0 (by rw [hcn.out]; exact hpos)
  cases hA9
  rw [HC0.out, Nat.add_zero] at hi9
  clear HI9
  have hbF := below_ext HBw.out HB_2.out
  go_wp2
  go_ret
  exact ⟨rfl, hbF⟩
set_option maxHeartbeats 12800000 in
theorem trv_5 (P Q G need : Int) (bC oC : Nat) (cs : List Int) (cn cc : Nat) (bK oK : Nat) (ks : List Int) (kn kc : Nat) (hcn : Hid (cs.length = cn)) (hkn : Hid (ks.length = kn)) (HVG : Hid (validG P Q G = true)) (HN : Hid (numB Q need kn = true)) (hne : Hid ((cn : Int) = need)) (hpos : 0 < cn) (c0v : Int) (HC0 : Hid (cs.getD 0 0 = c0v)) (h1 : (c0v == 1) = false) (r : Bool) (hr : Hid ((cs.all (memG P Q) && kyB P Q cs 0 ks) = r)) (hQ : Q < 9223372036854775808) (w : World) (hv : Hid (Vars w)) (hC : Hid (Sl w (some ⟨bC, oC, none⟩) cs)) (hK : Hid (Sl w (some ⟨bK, oK, none⟩) ks)) :
    Calls Tryz.prog 14 #[gv P Q G, trV need (some ⟨bC, oC, none⟩) cn cc (some ⟨bK, oK, none⟩) kn kc] w fun e' w' => e' = .returned (.bool r) ∧ Below w.heap.size w w' := by
  have dn : ((cn : Int) != need) = false := by simpa using hne.out
  obtain ⟨n1, n2, n3, n4, n5⟩ := numB_parts HN.out
  have hcnb : cn < 1000000 := by have := hne.out; omega
  obtain ⟨w0, HW, HBw, kC⟩ := stz2 P Q G need bC oC cn cc bK oK kn kc w
  have kV := Lib.hid (show ∀ u : World, Hid (Below w0.heap.size w0 u) → Hid (Vars u) from fun u h => Lib.hid ((hv.out.below) (below_ext HBw.out h.out)))
  have kCs := Lib.hid (show ∀ u : World, Hid (Below w0.heap.size w0 u) → Hid (Sl u (some ⟨bC, oC, none⟩) cs) from fun u h => Lib.hid ((hC.out.below) (below_ext HBw.out h.out)))
  have kKs := Lib.hid (show ∀ u : World, Hid (Below w0.heap.size w0 u) → Hid (Sl u (some ⟨bK, oK, none⟩) ks) from fun u h => Lib.hid ((hK.out.below) (below_ext HBw.out h.out)))
  have HB_0 : Hid (Below w0.heap.size w0 w0) := Lib.hid (Below.refl _ _)
  clear hv hC hK
  go_enter Tryz.func14, Tryz.ntmps14
  go_wp2_with fail
  rw [HW.out]
  obtain ⟨zc0, zc1, zc2, zc3, zc4, zc5⟩ := kC.out _ HB_0
  go_wp2_with fail
  refine (valid_any P Q G true HVG hQ _ (kV.out _ HB_0)).mono ?_
  rintro e w1 ⟨rfl, hb0⟩
  have HB_1 := Lib.hid (below_ext HB_0.out hb0)
  clear zc0 zc1 zc2 zc3 zc4 zc5
  clear hb0
  obtain ⟨zc0, zc1, zc2, zc3, zc4, zc5⟩ := kC.out _ HB_1
  obtain ⟨b9, o9, hA9, hi9⟩ := (kCs.out _ HB_1).out 0 (by rw [hcn.out]; exact hpos)
  cases hA9
  rw [HC0.out, Nat.add_zero] at hi9
  have HI9 := Lib.hid hi9
  clear hi9
  go_wp2_with fail
  refine (numbers_any P Q G need kn true HN _).mono ?_
  rintro e w2 ⟨rfl, hb0⟩
  have HB_2 := Lib.hid (below_ext HB_1.out hb0)
  clear zc0 zc1 zc2 zc3 zc4 zc5
  clear hb0
  obtain ⟨zc0, zc1, zc2, zc3, zc4, zc5⟩ := kC.out _ HB_2
  obtain ⟨b9, o9, hA9, hi9⟩ := (kCs.out _ HB_2).out 0 (by rw [hcn.out]; exact hpos)
  cases hA9
  rw [HC0.out, Nat.add_zero] at hi9
  clear HI9
  go_wp2
  clear zc0 zc1 zc2 zc3 zc4 zc5
  clear hi9
  go_loopw [40] (fun i wr => ∃ k : Nat, k ≤ cn ∧ i = .int .i64 k ∧ Hid (cs.all (memG P Q) = (cs.drop k).all (memG P Q)) ∧ Hid (Below w0.heap.size w0 wr)) (fun i _ => cn - (intOf i).toNat)
  case atStart => exact ⟨0, by omega, rfl, Lib.hid rfl, HB_2⟩
  case round =>
    obtain ⟨k, hk, rfl, HR, HBr⟩ := hrel
    by_cases hlt : k < cn
    · skip
      have hkl : k < cs.length := by rw [hcn.out]; exact hlt
      obtain ⟨b, o, hA, hi⟩ := (kCs.out _ HBr).out k hkl
      cases hA
      cases hm9 : memG P Q (cs.getD k 0) with
      | true =>
        have HS : Hid (cs.all (memG P Q) = (cs.drop (k + 1)).all (memG P Q)) := Lib.hid (HR.out.trans (all_drop_step hkl hm9))
        obtain ⟨x, hx⟩ : ∃ x, cs.getD k 0 = x := ⟨_, rfl⟩
        rw [hx] at hi hm9
        have HM := Lib.hid hm9
        clear hx hm9 HR hkl
        obtain ⟨zc0, zc1, zc2, zc3, zc4, zc5⟩ := kC.out _ HBr
        go_wp2_with fail
        refine (contains_any P Q G x true (Lib.hid (by rw [conG, HVG.out, HM.out]; rfl)) hQ _ (kV.out _ HBr)).mono ?_
        rintro e w3 ⟨rfl, hb0⟩
        have HB_3 := Lib.hid (below_ext HBr.out hb0)
        clear zc0 zc1 zc2 zc3 zc4 zc5
        clear hb0
        obtain ⟨zc0, zc1, zc2, zc3, zc4, zc5⟩ := kC.out _ HB_3
        go_wp2
        go_roundw
        case rel => exact ⟨k + 1, by omega, by go_num, HS, HB_3⟩
        case measure => simp [intOf]; omega
      | false =>
        obtain rfl : r = false := by rw [← hr.out, HR.out, all_drop_hit hkl hm9]; rfl
        obtain ⟨x, hx⟩ : ∃ x, cs.getD k 0 = x := ⟨_, rfl⟩
        rw [hx] at hi hm9
        have HM := Lib.hid hm9
        clear hx hm9 HR hkl
        obtain ⟨zc0, zc1, zc2, zc3, zc4, zc5⟩ := kC.out _ HBr
        go_wp2_with fail
        refine (contains_any P Q G x false (Lib.hid (by rw [conG, HVG.out, HM.out]; rfl)) hQ _ (kV.out _ HBr)).mono ?_
        rintro e w3 ⟨rfl, hb0⟩
        have HB_3 := Lib.hid (below_ext HBr.out hb0)
        clear zc0 zc1 zc2 zc3 zc4 zc5
        clear hb0
        obtain ⟨zc0, zc1, zc2, zc3, zc4, zc5⟩ := kC.out _ HB_3
        have hbF := below_ext HBw.out HB_3.out
        go_wp2
        go_ret
        exact ⟨rfl, hbF⟩
    · skip
      obtain rfl : k = cn := by omega
      have HALL : Hid (cs.all (memG P Q) = true) := Lib.hid (by rw [HR.out, ← hcn.out]; simp)
      have HR2 : Hid (kyB P Q cs 0 ks = r) := Lib.hid (by rw [← hr.out, HALL.out]; rfl)
      clear HR
      obtain ⟨zc0, zc1, zc2, zc3, zc4, zc5⟩ := kC.out _ HBr
      go_wp2
      clear zc0 zc1 zc2 zc3 zc4 zc5
      go_loopw [52] (fun i wr => ∃ j : Nat, j ≤ kn ∧ i = .int .i64 j ∧ Hid (kyB P Q cs j (ks.drop j) = r) ∧ Hid (Below w0.heap.size w0 wr)) (fun i _ => kn - (intOf i).toNat)
      case atStart => exact ⟨0, by omega, rfl, HR2, HBr⟩
      case round =>
        obtain ⟨j, hj, rfl, HRj, HBj⟩ := hrel
        by_cases hltj : j < kn
        · skip
          have hjl : j < ks.length := by rw [hkn.out]; exact hltj
          obtain ⟨b, o, hA, hi⟩ := (kKs.out _ HBj).out j hjl
          cases hA
          have hst := kyB_drop (P := P) (Q := Q) (cs := cs) hjl
          obtain ⟨y, hy⟩ : ∃ x, ks.getD j 0 = x := ⟨_, rfl⟩
          obtain ⟨K, hK9⟩ : ∃ x, keM P Q cs ((j : Int) + 1) cs.length = x := ⟨_, rfl⟩
          rw [hy] at hi hst
          rw [hK9] at hst
          have HKE := Lib.hid hK9
          have dw : IntKind.i64.wrap ((j : Int) + 1) = (j : Int) + 1 := IntWalk.i64_in _ (by omega)
          have dw2 : wrap64 ((j : Int) + 1) = (j : Int) + 1 := IntWalk.wrap64_in _ (by omega)
          clear hy hK9
          cases hyk : (y == K) with
          | true =>
            have HRn : Hid (kyB P Q cs (j + 1) (ks.drop (j + 1)) = r) := Lib.hid (by rw [← HRj.out, hst, hyk]; rfl)
            have dne : (y != K) = false := by simpa using hyk
            clear hst HRj hjl hyk
            obtain ⟨zc0, zc1, zc2, zc3, zc4, zc5⟩ := kC.out _ HBj
            go_wp2_with fail
            refine (key_any P Q G bC oC cs k cc hcnb ((j : Int) + 1) K HVG hcn HALL (by omega) (by omega) HKE _ (kV.out _ HBj) (kCs.out _ HBj)).mono ?_
            rintro e w3 ⟨rfl, hb0⟩
            have HB_3 := Lib.hid (below_ext HBj.out hb0)
            clear zc0 zc1 zc2 zc3 zc4 zc5
            clear hb0
            obtain ⟨zc0, zc1, zc2, zc3, zc4, zc5⟩ := kC.out _ HB_3
            go_wp2
            go_roundw
            case rel => exact ⟨j + 1, by omega, by go_num, HRn, HB_3⟩
            case measure => simp [intOf]; omega
          | false =>
            obtain rfl : r = false := by rw [← HRj.out, hst, hyk]; rfl
            have dne : (y != K) = true := by simpa using hyk
            clear hst HRj hjl hyk
            obtain ⟨zc0, zc1, zc2, zc3, zc4, zc5⟩ := kC.out _ HBj
            go_wp2_with fail
            refine (key_any P Q G bC oC cs k cc hcnb ((j : Int) + 1) K HVG hcn HALL (by omega) (by omega) HKE _ (kV.out _ HBj) (kCs.out _ HBj)).mono ?_
            rintro e w3 ⟨rfl, hb0⟩
            have HB_3 := Lib.hid (below_ext HBj.out hb0)
            clear zc0 zc1 zc2 zc3 zc4 zc5
            clear hb0
            obtain ⟨zc0, zc1, zc2, zc3, zc4, zc5⟩ := kC.out _ HB_3
            have hbF := below_ext HBw.out HB_3.out
            go_wp2
            go_ret
            exact ⟨rfl, hbF⟩
        · skip
          obtain rfl : j = kn := by omega
          obtain rfl : r = true := by rw [← HRj.out, ← hkn.out, List.drop_length]; rfl
          clear HRj
          obtain ⟨zc0, zc1, zc2, zc3, zc4, zc5⟩ := kC.out _ HBj
          have hbF := below_ext HBw.out HBj.out
          go_wp2
          go_ret
          exact ⟨rfl, hbF⟩
theorem trv_any (P Q G need : Int) (Cs : Option Addr) (cs : List Int) (cn cc : Nat) (Ks : Option Addr) (ks : List Int) (kn kc : Nat) (hcn : Hid (cs.length = cn)) (hkn : Hid (ks.length = kn)) (r : Bool) (hr : Hid (trB P Q G need cs ks = r)) (hQ : Q < 9223372036854775808) (w : World) (hv : Hid (Vars w)) (hC : Hid (Sl w Cs cs)) (hK : Hid (Sl w Ks ks)) :
    Calls Tryz.prog 14 #[gv P Q G, trV need Cs cn cc Ks kn kc] w fun e' w' => e' = .returned (.bool r) ∧ Below w.heap.size w w' := by
  have hr1 := hr.out
  unfold trB at hr1
  rw [hkn.out, hcn.out] at hr1
  cases h1 : validG P Q G with
  | false =>
    obtain rfl : r = false := by rw [← hr1, h1]; rfl
    exact trv_1 P Q G need Cs cn cc Ks kn kc (Lib.hid h1) hQ w hv
  | true =>
    cases h2 : numB Q need kn with
    | false =>
      obtain rfl : r = false := by rw [← hr1, h1, h2]; rfl
      exact trv_2 P Q G need Cs cn cc Ks kn kc (Lib.hid h1) (Lib.hid h2) hQ w hv
    | true =>
      by_cases h3 : (cn : Int) = need
      · obtain ⟨n1, n2, n3, n4, n5⟩ := numB_parts h2
        have hpos : 0 < cn := by omega
        obtain ⟨bC, oC, rfl⟩ := sl_some hC.out (by rw [hcn.out]; exact hpos)
        obtain ⟨bK, oK, rfl⟩ := sl_some hK.out (by rw [hkn.out]; exact n1)
        cases h4 : (cs.getD 0 0 == 1) with
        | true =>
          obtain rfl : r = false := by rw [← hr1, h1, h2, decide_eq_true h3, h4]; rfl
          exact trv_4 P Q G need bC oC cs cn cc bK oK ks kn kc hcn hkn (Lib.hid h1) (Lib.hid h2) (Lib.hid h3) hpos _ (Lib.hid rfl) h4 hQ w hv hC hK
        | false => exact trv_5 P Q G need bC oC cs cn cc bK oK ks kn kc hcn hkn (Lib.hid h1) (Lib.hid h2) (Lib.hid h3) hpos _ (Lib.hid rfl) h4 r (Lib.hid (by rw [← hr1, h1, h2, decide_eq_true h3, h4]; rfl)) hQ w hv hC hK
      · obtain rfl : r = false := by rw [← hr1, h1, h2, decide_eq_false h3]; rfl
        exact trv_3 P Q G need Cs cn cc Ks kn kc (Lib.hid h1) (Lib.hid h2) h3 hQ w hv
set_option maxHeartbeats 3200000 in
theorem size_any (P Q G need : Int) (n : Nat) (r : Bool) (hr : Hid (numB Q need n = r)) (w : World) :
    Calls Tryz.prog 58 #[gv P Q G, .int .i64 need, .int .i64 n] w fun e' w' => e' = .returned (.bool r) ∧ Below w.heap.size w w' := by
  have HX := Lib.hid (gbox_alloc w P Q G)
  obtain ⟨c0, c1, c2⟩ := HX.out
  have hb := below_box0 w (gObj P Q G)
  have hr1 := hr.out
  unfold numB at hr1
  by_cases h0 : 1 ≤ n
  · have d0 : decide ((1 : Int) ≤ (n : Int)) = true := by simp; omega
    by_cases h1 : n ≤ 8
    · have d1 : decide ((n : Int) ≤ 8) = true := by simp; omega
      by_cases h2 : (n : Int) < Q
      · have d2 : decide ((n : Int) < Q) = true := by simp; omega
        by_cases h3 : 1 ≤ need
        · have d3 : decide ((1 : Int) ≤ need) = true := by simp; omega
          by_cases h4 : need ≤ n
          · have d4 : decide (need ≤ (n : Int)) = true := by simp; omega
            obtain rfl : r = true := by rw [← hr1]; simp; omega
            go_enter Tryz.func58, Tryz.ntmps58
            go_wp2
            go_ret
            exact ⟨rfl, hb⟩
          · have d4 : decide (need ≤ (n : Int)) = false := by simp; omega
            obtain rfl : r = false := by rw [← hr1]; simp; omega
            go_enter Tryz.func58, Tryz.ntmps58
            go_wp2
            go_ret
            exact ⟨rfl, hb⟩
        · have d3 : decide ((1 : Int) ≤ need) = false := by simp; omega
          obtain rfl : r = false := by rw [← hr1]; simp; omega
          go_enter Tryz.func58, Tryz.ntmps58
          go_wp2
          go_ret
          exact ⟨rfl, hb⟩
      · have d2 : decide ((n : Int) < Q) = false := by simp; omega
        obtain rfl : r = false := by rw [← hr1]; simp; omega
        go_enter Tryz.func58, Tryz.ntmps58
        go_wp2
        go_ret
        exact ⟨rfl, hb⟩
    · have d1 : decide ((n : Int) ≤ 8) = false := by simp; omega
      obtain rfl : r = false := by rw [← hr1]; simp; omega
      go_enter Tryz.func58, Tryz.ntmps58
      go_wp2
      go_ret
      exact ⟨rfl, hb⟩
  · have d0 : decide ((1 : Int) ≤ (n : Int)) = false := by simp; omega
    obtain rfl : r = false := by rw [← hr1]; simp; omega
    go_enter Tryz.func58, Tryz.ntmps58
    go_wp2
    go_ret
    exact ⟨rfl, hb⟩
theorem kyB_mem {P Q : Int} {cs : List Int} (hP : 2 ≤ P) (hQ : 1 ≤ Q) (h : cs.all (memG P Q) = true) : ∀ (ks : List Int) (i : Nat), kyB P Q cs i ks = true → ks.all (memG P Q) = true
  | [], _, _ => rfl
  | y :: t, i, hk => by
    rw [kyB] at hk
    simp only [Bool.and_eq_true, beq_iff_eq] at hk
    rw [List.all_cons, kyB_mem hP hQ h t (i + 1) hk.2, hk.1, keM_mem hP hQ h _ (Nat.le_refl _)]; rfl
set_option maxHeartbeats 6400000 in
theorem relements_any (P Q G : Int) (A : Option Addr) (xs : List Int) (n c : Nat) (r : Bool) (hr : Hid (xs.all (memG P Q) = r)) (hn : Hid (xs.length = n)) (hbig : n < 1000000) (h1 : P < 2305843009213693952) (hQ0 : 0 ≤ Q) (hQ : Q < 9223372036854775808) (w : World) (hA0 : Hid (Sl w A xs)) :
    Calls Tryz.prog 59 #[gv P Q G, .slice A n c] w fun e' w' => e' = .returned (.bool r) ∧ Below w.heap.size w w' := by
  obtain ⟨w0, HW, HBw, kC⟩ := stz0 P Q G w
  have kCs := Lib.hid (show ∀ u : World, Hid (Below w0.heap.size w0 u) → Hid (Sl u A xs) from fun u h => Lib.hid ((hA0.out.below) (below_ext HBw.out h.out)))
  have HB_0 : Hid (Below w0.heap.size w0 w0) := Lib.hid (Below.refl _ _)
  clear hA0
  go_enter Tryz.func59, Tryz.ntmps59
  go_wp2_with fail
  rw [HW.out]
  obtain ⟨zc0, zc1, zc2⟩ := kC.out _ HB_0
  go_wp2
  clear zc0 zc1 zc2
  go_loopw [5] (fun i wr => ∃ k : Nat, k ≤ n ∧ i = .int .i64 k ∧ Hid (xs.all (memG P Q) = (xs.drop k).all (memG P Q)) ∧ Hid (Below w0.heap.size w0 wr)) (fun i _ => n - (intOf i).toNat)
  case atStart => exact ⟨0, by omega, rfl, Lib.hid rfl, HB_0⟩
  case round =>
    obtain ⟨k, hk, rfl, HR, HBr⟩ := hrel
    by_cases hlt : k < n
    · skip
      have hkl : k < xs.length := by rw [hn.out]; exact hlt
      obtain ⟨b, o, hA, hi⟩ := (kCs.out _ HBr).out k hkl
      subst hA
      cases hm9 : memG P Q (xs.getD k 0) with
      | true =>
        have HS : Hid (xs.all (memG P Q) = (xs.drop (k + 1)).all (memG P Q)) := Lib.hid (HR.out.trans (all_drop_step hkl hm9))
        obtain ⟨x, hx⟩ : ∃ x, xs.getD k 0 = x := ⟨_, rfl⟩
        rw [hx] at hi hm9
        have kI := Lib.hid (show ∀ u : World, Hid (Below wr.heap.size wr u) → u.cell? ⟨b, o + k, none⟩ = some (.int .i64 x) from fun u h => cell_below hi h.out)
        have HM := Lib.hid hm9
        clear hx hm9 HR hkl hi
        have HB_wr_0 : Hid (Below wr.heap.size wr wr) := Lib.hid (Below.refl _ _)
        obtain ⟨zc0, zc1, zc2⟩ := kC.out _ HBr
        have kI_0 := kI.out _ HB_wr_0
        go_wp2_with fail
        clear zc0 zc1 zc2 kI_0
        have hS1 := Lib.hid (show ∀ u1 u2 : World, (Hid (Below w0.heap.size w0 u1) ∧ Hid (Below wr.heap.size wr u1)) → Below u1.heap.size u1 u2 → (u2.cell? ⟨w.heap.size, 0, none⟩ = some (.int .i64 P) ∧ u2.cell? ⟨w.heap.size, 1, none⟩ = some (.int .i64 Q) ∧ u2.cell? ⟨w.heap.size, 2, none⟩ = some (.int .i64 G) ∧ u2.cell? ⟨b, o + k, none⟩ = some (.int .i64 x) ∧ Hid (Below w0.heap.size w0 u2) ∧ Hid (Below wr.heap.size wr u2)) from fun u1 u2 h1 h2 => by
          obtain ⟨q0, q1⟩ := h1
          have r0 := Lib.hid (below_ext q0.out h2)
          have r1 := Lib.hid (below_ext q1.out h2)
          obtain ⟨y0, y1, y2⟩ := kC.out _ r0
          have kI_0 := kI.out _ r1
          exact ⟨y0, y1, y2, kI_0, r0, r1⟩)
        have HR1 := Lib.hid (show Hid (Below w0.heap.size w0 wr) ∧ Hid (Below wr.heap.size wr wr) from ⟨HBr, HB_wr_0⟩)
        go_region_held3 (fun w' => w'.cell? ⟨w.heap.size, 0, none⟩ = some (.int .i64 P) ∧ w'.cell? ⟨w.heap.size, 1, none⟩ = some (.int .i64 Q) ∧ w'.cell? ⟨w.heap.size, 2, none⟩ = some (.int .i64 G) ∧ w'.cell? ⟨b, o + k, none⟩ = some (.int .i64 x) ∧ Hid (Below w0.heap.size w0 w') ∧ Hid (Below wr.heap.size wr w'))
          (first | exact hS1.out _ _ HR1.out ((Below.refl _ _).drew) | (exact hS1.out _ _ (by go_split_ands; exact ⟨(by assumption), (by assumption)⟩) hbA) | go_keep)
          ((first
            | (go_at_call 45; (with_reducible refine (rmember_any P Q G x true HM h1 hQ0 hQ _).mono ?_); rintro e wA ⟨rfl, hbA⟩)))
        rename_i hHeld
        obtain ⟨x0, x1, x2, x3, HN1_0, HN1_1⟩ := hHeld
        clear hS1 HR1 x0 x1 x2 x3
        obtain ⟨zc0, zc1, zc2⟩ := kC.out _ HN1_0
        have kI_0 := kI.out _ HN1_1
        go_wp2
        go_roundw
        case rel => exact ⟨k + 1, by omega, by go_num, HS, HN1_0⟩
        case measure => simp only [intOf]; omega
      | false =>
        obtain rfl : r = false := by rw [← hr.out, HR.out]; exact all_drop_hit hkl hm9
        obtain ⟨x, hx⟩ : ∃ x, xs.getD k 0 = x := ⟨_, rfl⟩
        rw [hx] at hi hm9
        have kI := Lib.hid (show ∀ u : World, Hid (Below wr.heap.size wr u) → u.cell? ⟨b, o + k, none⟩ = some (.int .i64 x) from fun u h => cell_below hi h.out)
        have HM := Lib.hid hm9
        clear hx hm9 HR hkl hi
        have HB_wr_0 : Hid (Below wr.heap.size wr wr) := Lib.hid (Below.refl _ _)
        obtain ⟨zc0, zc1, zc2⟩ := kC.out _ HBr
        have kI_0 := kI.out _ HB_wr_0
        go_wp2_with fail
        clear zc0 zc1 zc2 kI_0
        have hS1 := Lib.hid (show ∀ u1 u2 : World, (Hid (Below w0.heap.size w0 u1) ∧ Hid (Below wr.heap.size wr u1)) → Below u1.heap.size u1 u2 → (u2.cell? ⟨w.heap.size, 0, none⟩ = some (.int .i64 P) ∧ u2.cell? ⟨w.heap.size, 1, none⟩ = some (.int .i64 Q) ∧ u2.cell? ⟨w.heap.size, 2, none⟩ = some (.int .i64 G) ∧ u2.cell? ⟨b, o + k, none⟩ = some (.int .i64 x) ∧ Hid (Below w0.heap.size w0 u2) ∧ Hid (Below wr.heap.size wr u2)) from fun u1 u2 h1 h2 => by
          obtain ⟨q0, q1⟩ := h1
          have r0 := Lib.hid (below_ext q0.out h2)
          have r1 := Lib.hid (below_ext q1.out h2)
          obtain ⟨y0, y1, y2⟩ := kC.out _ r0
          have kI_0 := kI.out _ r1
          exact ⟨y0, y1, y2, kI_0, r0, r1⟩)
        have HR1 := Lib.hid (show Hid (Below w0.heap.size w0 wr) ∧ Hid (Below wr.heap.size wr wr) from ⟨HBr, HB_wr_0⟩)
        go_region_held3 (fun w' => w'.cell? ⟨w.heap.size, 0, none⟩ = some (.int .i64 P) ∧ w'.cell? ⟨w.heap.size, 1, none⟩ = some (.int .i64 Q) ∧ w'.cell? ⟨w.heap.size, 2, none⟩ = some (.int .i64 G) ∧ w'.cell? ⟨b, o + k, none⟩ = some (.int .i64 x) ∧ Hid (Below w0.heap.size w0 w') ∧ Hid (Below wr.heap.size wr w'))
          (first | exact hS1.out _ _ HR1.out ((Below.refl _ _).drew) | (exact hS1.out _ _ (by go_split_ands; exact ⟨(by assumption), (by assumption)⟩) hbA) | go_keep)
          ((first
            | (go_at_call 45; (with_reducible refine (rmember_any P Q G x false HM h1 hQ0 hQ _).mono ?_); rintro e wA ⟨rfl, hbA⟩)))
        rename_i hHeld
        obtain ⟨x0, x1, x2, x3, HN1_0, HN1_1⟩ := hHeld
        clear hS1 HR1 x0 x1 x2 x3
        obtain ⟨zc0, zc1, zc2⟩ := kC.out _ HN1_0
        have kI_0 := kI.out _ HN1_1
        have hbF := below_ext HBw.out HN1_0.out
        go_wp2
        go_ret
        exact ⟨rfl, hbF⟩
    · skip
      obtain rfl : k = n := by omega
      obtain rfl : r = true := by rw [← hr.out, HR.out, ← hn.out]; simp
      clear HR
      obtain ⟨zc0, zc1, zc2⟩ := kC.out _ HBr
      have hbF := below_ext HBw.out HBr.out
      go_wp2
      go_ret
      exact ⟨rfl, hbF⟩
set_option maxHeartbeats 3200000 in
theorem rtrv_1 (P Q G need : Int) (Cs : Option Addr) (cn cc : Nat) (Ks : Option Addr) (kn kc : Nat) (HVG : Hid (validG P Q G = false)) (hQ : Q < 9223372036854775808) (w : World) :
    Calls Tryz.prog 13 #[gv P Q G, trV need Cs cn cc Ks kn kc] w fun e' w' => e' = .returned (.bool false) ∧ Below w.heap.size w w' := by
  obtain ⟨w0, HW, HBw, kC⟩ := stz1 P Q G need Cs cn cc Ks kn kc w
  have HB_0 : Hid (Below w0.heap.size w0 w0) := Lib.hid (Below.refl _ _)
  go_enter Tryz.func13, Tryz.ntmps13
  go_wp2_with fail
  rw [HW.out]
  obtain ⟨zc0, zc1, zc2, zc3, zc4, zc5⟩ := kC.out _ HB_0
  go_wp2_with fail
  refine (rvalid_any P Q G false HVG hQ _).mono ?_
  rintro e w1 ⟨rfl, hb0⟩
  have HB_1 := Lib.hid (below_ext HB_0.out hb0)
  clear zc0 zc1 zc2 zc3 zc4 zc5
  clear hb0
  obtain ⟨zc0, zc1, zc2, zc3, zc4, zc5⟩ := kC.out _ HB_1
  have hbF := below_ext HBw.out HB_1.out
  go_wp2
  go_ret
  exact ⟨rfl, hbF⟩
set_option maxHeartbeats 3200000 in
theorem rtrv_2 (P Q G need : Int) (Cs : Option Addr) (cn cc : Nat) (Ks : Option Addr) (kn kc : Nat) (HVG : Hid (validG P Q G = true)) (HN : Hid (numB Q need kn = false)) (hQ : Q < 9223372036854775808) (w : World) :
    Calls Tryz.prog 13 #[gv P Q G, trV need Cs cn cc Ks kn kc] w fun e' w' => e' = .returned (.bool false) ∧ Below w.heap.size w w' := by
  obtain ⟨w0, HW, HBw, kC⟩ := stz1 P Q G need Cs cn cc Ks kn kc w
  have HB_0 : Hid (Below w0.heap.size w0 w0) := Lib.hid (Below.refl _ _)
  go_enter Tryz.func13, Tryz.ntmps13
  go_wp2_with fail
  rw [HW.out]
  obtain ⟨zc0, zc1, zc2, zc3, zc4, zc5⟩ := kC.out _ HB_0
  go_wp2_with fail
  refine (rvalid_any P Q G true HVG hQ _).mono ?_
  rintro e w1 ⟨rfl, hb0⟩
  have HB_1 := Lib.hid (below_ext HB_0.out hb0)
  clear zc0 zc1 zc2 zc3 zc4 zc5
  clear hb0
  obtain ⟨zc0, zc1, zc2, zc3, zc4, zc5⟩ := kC.out _ HB_1
  go_wp2_with fail
  refine (size_any P Q G need kn false HN _).mono ?_
  rintro e w2 ⟨rfl, hb0⟩
  have HB_2 := Lib.hid (below_ext HB_1.out hb0)
  clear zc0 zc1 zc2 zc3 zc4 zc5
  clear hb0
  obtain ⟨zc0, zc1, zc2, zc3, zc4, zc5⟩ := kC.out _ HB_2
  have hbF := below_ext HBw.out HB_2.out
  go_wp2
  go_ret
  exact ⟨rfl, hbF⟩
set_option maxHeartbeats 3200000 in
theorem rtrv_3 (P Q G need : Int) (Cs : Option Addr) (cn cc : Nat) (Ks : Option Addr) (kn kc : Nat) (HVG : Hid (validG P Q G = true)) (HN : Hid (numB Q need kn = true)) (hne : ¬ ((cn : Int) = need)) (hQ : Q < 9223372036854775808) (w : World) :
    Calls Tryz.prog 13 #[gv P Q G, trV need Cs cn cc Ks kn kc] w fun e' w' => e' = .returned (.bool false) ∧ Below w.heap.size w w' := by
  have dn : ((cn : Int) != need) = true := by simpa using hne
  obtain ⟨w0, HW, HBw, kC⟩ := stz1 P Q G need Cs cn cc Ks kn kc w
  have HB_0 : Hid (Below w0.heap.size w0 w0) := Lib.hid (Below.refl _ _)
  go_enter Tryz.func13, Tryz.ntmps13
  go_wp2_with fail
  rw [HW.out]
  obtain ⟨zc0, zc1, zc2, zc3, zc4, zc5⟩ := kC.out _ HB_0
  go_wp2_with fail
  refine (rvalid_any P Q G true HVG hQ _).mono ?_
  rintro e w1 ⟨rfl, hb0⟩
  have HB_1 := Lib.hid (below_ext HB_0.out hb0)
  clear zc0 zc1 zc2 zc3 zc4 zc5
  clear hb0
  obtain ⟨zc0, zc1, zc2, zc3, zc4, zc5⟩ := kC.out _ HB_1
  go_wp2_with fail
  refine (size_any P Q G need kn true HN _).mono ?_
  rintro e w2 ⟨rfl, hb0⟩
  have HB_2 := Lib.hid (below_ext HB_1.out hb0)
  clear zc0 zc1 zc2 zc3 zc4 zc5
  clear hb0
  obtain ⟨zc0, zc1, zc2, zc3, zc4, zc5⟩ := kC.out _ HB_2
  have hbF := below_ext HBw.out HB_2.out
  go_wp2
  go_ret
  exact ⟨rfl, hbF⟩
set_option maxHeartbeats 6400000 in
theorem rtrv_4 (P Q G need : Int) (bC oC : Nat) (cs : List Int) (cn cc : Nat) (bK oK : Nat) (ks : List Int) (kn kc : Nat) (hcn : Hid (cs.length = cn)) (hkn : Hid (ks.length = kn)) (HVG : Hid (validG P Q G = true)) (HN : Hid (numB Q need kn = true)) (hne : Hid ((cn : Int) = need)) (hpos : 0 < cn) (hall : Hid (cs.all (memG P Q) = false)) (hQ : Q < 9223372036854775808) (w : World) (hC : Hid (Sl w (some ⟨bC, oC, none⟩) cs)) (hK : Hid (Sl w (some ⟨bK, oK, none⟩) ks)) :
    Calls Tryz.prog 13 #[gv P Q G, trV need (some ⟨bC, oC, none⟩) cn cc (some ⟨bK, oK, none⟩) kn kc] w fun e' w' => e' = .returned (.bool false) ∧ Below w.heap.size w w' := by
  have dn : ((cn : Int) != need) = false := by simpa using hne.out
  obtain ⟨hp2, hp, hq3, hqp⟩ := validG_P HVG.out
  obtain ⟨n1, n2, n3, n4, n5⟩ := numB_parts HN.out
  have hcnb : cn < 1000000 := by have := hne.out; omega
  obtain ⟨w0, HW, HBw, kC⟩ := stz2 P Q G need bC oC cn cc bK oK kn kc w
  have kCs := Lib.hid (show ∀ u : World, Hid (Below w0.heap.size w0 u) → Hid (Sl u (some ⟨bC, oC, none⟩) cs) from fun u h => Lib.hid ((hC.out.below) (below_ext HBw.out h.out)))
  have kKs := Lib.hid (show ∀ u : World, Hid (Below w0.heap.size w0 u) → Hid (Sl u (some ⟨bK, oK, none⟩) ks) from fun u h => Lib.hid ((hK.out.below) (below_ext HBw.out h.out)))
  have HB_0 : Hid (Below w0.heap.size w0 w0) := Lib.hid (Below.refl _ _)
  clear hC hK
  go_enter Tryz.func13, Tryz.ntmps13
  go_wp2_with fail
  rw [HW.out]
  obtain ⟨zc0, zc1, zc2, zc3, zc4, zc5⟩ := kC.out _ HB_0
  go_wp2_with fail
  refine (rvalid_any P Q G true HVG hQ _).mono ?_
  rintro e w1 ⟨rfl, hb0⟩
  have HB_1 := Lib.hid (below_ext HB_0.out hb0)
  clear zc0 zc1 zc2 zc3 zc4 zc5
  clear hb0
  obtain ⟨zc0, zc1, zc2, zc3, zc4, zc5⟩ := kC.out _ HB_1
  go_wp2_with fail
  refine (size_any P Q G need kn true HN _).mono ?_
  rintro e w2 ⟨rfl, hb0⟩
  have HB_2 := Lib.hid (below_ext HB_1.out hb0)
  clear zc0 zc1 zc2 zc3 zc4 zc5
  clear hb0
  obtain ⟨zc0, zc1, zc2, zc3, zc4, zc5⟩ := kC.out _ HB_2
  go_wp2_with fail
  refine (relements_any P Q G (some ⟨bC, oC, none⟩) cs cn cc false hall hcn hcnb hp (by omega) hQ _ (kCs.out _ HB_2)).mono ?_
  rintro e w3 ⟨rfl, hb0⟩
  have HB_3 := Lib.hid (below_ext HB_2.out hb0)
  clear zc0 zc1 zc2 zc3 zc4 zc5
  clear hb0
  obtain ⟨zc0, zc1, zc2, zc3, zc4, zc5⟩ := kC.out _ HB_3
  have hbF := below_ext HBw.out HB_3.out
  go_wp2
  go_ret
  exact ⟨rfl, hbF⟩
set_option maxHeartbeats 6400000 in
theorem rtrv_5 (P Q G need : Int) (bC oC : Nat) (cs : List Int) (cn cc : Nat) (bK oK : Nat) (ks : List Int) (kn kc : Nat) (hcn : Hid (cs.length = cn)) (hkn : Hid (ks.length = kn)) (HVG : Hid (validG P Q G = true)) (HN : Hid (numB Q need kn = true)) (hne : Hid ((cn : Int) = need)) (hpos : 0 < cn) (hall : Hid (cs.all (memG P Q) = true)) (hkal : Hid (ks.all (memG P Q) = false)) (hQ : Q < 9223372036854775808) (w : World) (hC : Hid (Sl w (some ⟨bC, oC, none⟩) cs)) (hK : Hid (Sl w (some ⟨bK, oK, none⟩) ks)) :
    Calls Tryz.prog 13 #[gv P Q G, trV need (some ⟨bC, oC, none⟩) cn cc (some ⟨bK, oK, none⟩) kn kc] w fun e' w' => e' = .returned (.bool false) ∧ Below w.heap.size w w' := by
  have dn : ((cn : Int) != need) = false := by simpa using hne.out
  obtain ⟨hp2, hp, hq3, hqp⟩ := validG_P HVG.out
  obtain ⟨n1, n2, n3, n4, n5⟩ := numB_parts HN.out
  have hcnb : cn < 1000000 := by have := hne.out; omega
  obtain ⟨w0, HW, HBw, kC⟩ := stz2 P Q G need bC oC cn cc bK oK kn kc w
  have kCs := Lib.hid (show ∀ u : World, Hid (Below w0.heap.size w0 u) → Hid (Sl u (some ⟨bC, oC, none⟩) cs) from fun u h => Lib.hid ((hC.out.below) (below_ext HBw.out h.out)))
  have kKs := Lib.hid (show ∀ u : World, Hid (Below w0.heap.size w0 u) → Hid (Sl u (some ⟨bK, oK, none⟩) ks) from fun u h => Lib.hid ((hK.out.below) (below_ext HBw.out h.out)))
  have HB_0 : Hid (Below w0.heap.size w0 w0) := Lib.hid (Below.refl _ _)
  clear hC hK
  go_enter Tryz.func13, Tryz.ntmps13
  go_wp2_with fail
  rw [HW.out]
  obtain ⟨zc0, zc1, zc2, zc3, zc4, zc5⟩ := kC.out _ HB_0
  go_wp2_with fail
  refine (rvalid_any P Q G true HVG hQ _).mono ?_
  rintro e w1 ⟨rfl, hb0⟩
  have HB_1 := Lib.hid (below_ext HB_0.out hb0)
  clear zc0 zc1 zc2 zc3 zc4 zc5
  clear hb0
  obtain ⟨zc0, zc1, zc2, zc3, zc4, zc5⟩ := kC.out _ HB_1
  go_wp2_with fail
  refine (size_any P Q G need kn true HN _).mono ?_
  rintro e w2 ⟨rfl, hb0⟩
  have HB_2 := Lib.hid (below_ext HB_1.out hb0)
  clear zc0 zc1 zc2 zc3 zc4 zc5
  clear hb0
  obtain ⟨zc0, zc1, zc2, zc3, zc4, zc5⟩ := kC.out _ HB_2
  go_wp2_with fail
  refine (relements_any P Q G (some ⟨bC, oC, none⟩) cs cn cc true hall hcn hcnb hp (by omega) hQ _ (kCs.out _ HB_2)).mono ?_
  rintro e w3 ⟨rfl, hb0⟩
  have HB_3 := Lib.hid (below_ext HB_2.out hb0)
  clear zc0 zc1 zc2 zc3 zc4 zc5
  clear hb0
  obtain ⟨zc0, zc1, zc2, zc3, zc4, zc5⟩ := kC.out _ HB_3
  go_wp2_with fail
  refine (relements_any P Q G (some ⟨bK, oK, none⟩) ks kn kc false hkal hkn (by omega) hp (by omega) hQ _ (kKs.out _ HB_3)).mono ?_
  rintro e w4 ⟨rfl, hb0⟩
  have HB_4 := Lib.hid (below_ext HB_3.out hb0)
  clear zc0 zc1 zc2 zc3 zc4 zc5
  clear hb0
  obtain ⟨zc0, zc1, zc2, zc3, zc4, zc5⟩ := kC.out _ HB_4
  have hbF := below_ext HBw.out HB_4.out
  go_wp2
  go_ret
  exact ⟨rfl, hbF⟩
set_option maxHeartbeats 6400000 in
theorem rtrv_6 (P Q G need : Int) (bC oC : Nat) (cs : List Int) (cn cc : Nat) (bK oK : Nat) (ks : List Int) (kn kc : Nat) (hcn : Hid (cs.length = cn)) (hkn : Hid (ks.length = kn)) (HVG : Hid (validG P Q G = true)) (HN : Hid (numB Q need kn = true)) (hne : Hid ((cn : Int) = need)) (hpos : 0 < cn) (hall : Hid (cs.all (memG P Q) = true)) (hkal : Hid (ks.all (memG P Q) = true)) (c0v : Int) (HC0 : Hid (cs.getD 0 0 = c0v)) (h1 : (c0v == 1) = true) (hQ : Q < 9223372036854775808) (w : World) (hC : Hid (Sl w (some ⟨bC, oC, none⟩) cs)) (hK : Hid (Sl w (some ⟨bK, oK, none⟩) ks)) :
    Calls Tryz.prog 13 #[gv P Q G, trV need (some ⟨bC, oC, none⟩) cn cc (some ⟨bK, oK, none⟩) kn kc] w fun e' w' => e' = .returned (.bool false) ∧ Below w.heap.size w w' := by
  have dn : ((cn : Int) != need) = false := by simpa using hne.out
  obtain ⟨hp2, hp, hq3, hqp⟩ := validG_P HVG.out
  obtain ⟨n1, n2, n3, n4, n5⟩ := numB_parts HN.out
  have hcnb : cn < 1000000 := by have := hne.out; omega
  obtain ⟨w0, HW, HBw, kC⟩ := stz2 P Q G need bC oC cn cc bK oK kn kc w
  have kCs := Lib.hid (show ∀ u : World, Hid (Below w0.heap.size w0 u) → Hid (Sl u (some ⟨bC, oC, none⟩) cs) from fun u h => Lib.hid ((hC.out.below) (below_ext HBw.out h.out)))
  have kKs := Lib.hid (show ∀ u : World, Hid (Below w0.heap.size w0 u) → Hid (Sl u (some ⟨bK, oK, none⟩) ks) from fun u h => Lib.hid ((hK.out.below) (below_ext HBw.out h.out)))
  have HB_0 : Hid (Below w0.heap.size w0 w0) := Lib.hid (Below.refl _ _)
  clear hC hK
  go_enter Tryz.func13, Tryz.ntmps13
  go_wp2_with fail
  rw [HW.out]
  obtain ⟨zc0, zc1, zc2, zc3, zc4, zc5⟩ := kC.out _ HB_0
  go_wp2_with fail
  refine (rvalid_any P Q G true HVG hQ _).mono ?_
  rintro e w1 ⟨rfl, hb0⟩
  have HB_1 := Lib.hid (below_ext HB_0.out hb0)
  clear zc0 zc1 zc2 zc3 zc4 zc5
  clear hb0
  obtain ⟨zc0, zc1, zc2, zc3, zc4, zc5⟩ := kC.out _ HB_1
  go_wp2_with fail
  refine (size_any P Q G need kn true HN _).mono ?_
  rintro e w2 ⟨rfl, hb0⟩
  have HB_2 := Lib.hid (below_ext HB_1.out hb0)
  clear zc0 zc1 zc2 zc3 zc4 zc5
  clear hb0
  obtain ⟨zc0, zc1, zc2, zc3, zc4, zc5⟩ := kC.out _ HB_2
  go_wp2_with fail
  refine (relements_any P Q G (some ⟨bC, oC, none⟩) cs cn cc true hall hcn hcnb hp (by omega) hQ _ (kCs.out _ HB_2)).mono ?_
  rintro e w3 ⟨rfl, hb0⟩
  have HB_3 := Lib.hid (below_ext HB_2.out hb0)
  clear zc0 zc1 zc2 zc3 zc4 zc5
  clear hb0
  obtain ⟨zc0, zc1, zc2, zc3, zc4, zc5⟩ := kC.out _ HB_3
  go_wp2_with fail
  refine (relements_any P Q G (some ⟨bK, oK, none⟩) ks kn kc true hkal hkn (by omega) hp (by omega) hQ _ (kKs.out _ HB_3)).mono ?_
  rintro e w4 ⟨rfl, hb0⟩
  have HB_4 := Lib.hid (below_ext HB_3.out hb0)
  clear zc0 zc1 zc2 zc3 zc4 zc5
  clear hb0
  obtain ⟨zc0, zc1, zc2, zc3, zc4, zc5⟩ := kC.out _ HB_4
  obtain ⟨b9, o9, hA9, hi9⟩ := (kCs.out _ HB_4).out 0 (by rw [hcn.out]; exact hpos)
  cases hA9
  rw [HC0.out, Nat.add_zero] at hi9
  have hbF := below_ext HBw.out HB_4.out
  go_wp2
  go_ret
  exact ⟨rfl, hbF⟩
theorem dj_facts {j n : Nat} (h : j < n) (h8 : n ≤ 8) : IntKind.i64.wrap ((j : Int) + 1 - 1) = (j : Int) ∧ IntKind.i64.wrap (j : Int) = (j : Int) ∧ IntKind.i64.wrap ((j : Int) + 1 + 1) = (j : Int) + 1 + 1 ∧ wrap64 ((j : Int) + 1 - 1) = (j : Int) ∧ wrap64 ((j : Int) + 1 + 1) = (j : Int) + 1 + 1 :=
  ⟨by rw [Int.add_sub_cancel]; exact IntWalk.i64_in _ (by omega), IntWalk.i64_in _ (by omega), IntWalk.i64_in _ (by omega), by rw [Int.add_sub_cancel]; exact IntWalk.wrap64_in _ (by omega), IntWalk.wrap64_in _ (by omega)⟩
theorem cast_succ1 (j : Nat) : ((j : Int) + 1 + 1) = ((j + 1 : Nat) : Int) + 1 := by omega
theorem meas_j {j n : Nat} (h : j < n) : n + 1 - ((j : Int) + 1 + 1).toNat < n + 1 - ((j : Int) + 1).toNat := by omega
theorem bne_comm_ky {a b : Int} : (a != b) = (b != a) := by rw [bne, bne, BEq.comm]
set_option maxHeartbeats 12800000 in
theorem rtrv_7 (P Q G need : Int) (bC oC : Nat) (cs : List Int) (cn cc : Nat) (bK oK : Nat) (ks : List Int) (kn kc : Nat) (hcn : Hid (cs.length = cn)) (hkn : Hid (ks.length = kn)) (HVG : Hid (validG P Q G = true)) (HN : Hid (numB Q need kn = true)) (hne : Hid ((cn : Int) = need)) (hpos : 0 < cn) (hall : Hid (cs.all (memG P Q) = true)) (hkal : Hid (ks.all (memG P Q) = true)) (c0v : Int) (HC0 : Hid (cs.getD 0 0 = c0v)) (h1 : (c0v == 1) = false) (r : Bool) (hr : Hid (kyB P Q cs 0 (ks.drop 0) = r)) (hQ : Q < 9223372036854775808) (w : World) (hC : Hid (Sl w (some ⟨bC, oC, none⟩) cs)) (hK : Hid (Sl w (some ⟨bK, oK, none⟩) ks)) :
    Calls Tryz.prog 13 #[gv P Q G, trV need (some ⟨bC, oC, none⟩) cn cc (some ⟨bK, oK, none⟩) kn kc] w fun e' w' => e' = .returned (.bool r) ∧ Below w.heap.size w w' := by
  have dn : ((cn : Int) != need) = false := by simpa using hne.out
  obtain ⟨hp2, hp, hq3, hqp⟩ := validG_P HVG.out
  obtain ⟨n1, n2, n3, n4, n5⟩ := numB_parts HN.out
  have hcnb : cn < 1000000 := by have := hne.out; omega
  obtain ⟨w0, HW, HBw, kC⟩ := stz2 P Q G need bC oC cn cc bK oK kn kc w
  have kCs := Lib.hid (show ∀ u : World, Hid (Below w0.heap.size w0 u) → Hid (Sl u (some ⟨bC, oC, none⟩) cs) from fun u h => Lib.hid ((hC.out.below) (below_ext HBw.out h.out)))
  have kKs := Lib.hid (show ∀ u : World, Hid (Below w0.heap.size w0 u) → Hid (Sl u (some ⟨bK, oK, none⟩) ks) from fun u h => Lib.hid ((hK.out.below) (below_ext HBw.out h.out)))
  have HB_0 : Hid (Below w0.heap.size w0 w0) := Lib.hid (Below.refl _ _)
  clear hC hK
  go_enter Tryz.func13, Tryz.ntmps13
  go_wp2_with fail
  rw [HW.out]
  obtain ⟨zc0, zc1, zc2, zc3, zc4, zc5⟩ := kC.out _ HB_0
  go_wp2_with fail
  refine (rvalid_any P Q G true HVG hQ _).mono ?_
  rintro e w1 ⟨rfl, hb0⟩
  have HB_1 := Lib.hid (below_ext HB_0.out hb0)
  clear zc0 zc1 zc2 zc3 zc4 zc5
  clear hb0
  obtain ⟨zc0, zc1, zc2, zc3, zc4, zc5⟩ := kC.out _ HB_1
  go_wp2_with fail
  refine (size_any P Q G need kn true HN _).mono ?_
  rintro e w2 ⟨rfl, hb0⟩
  have HB_2 := Lib.hid (below_ext HB_1.out hb0)
  clear zc0 zc1 zc2 zc3 zc4 zc5
  clear hb0
  obtain ⟨zc0, zc1, zc2, zc3, zc4, zc5⟩ := kC.out _ HB_2
  go_wp2_with fail
  refine (relements_any P Q G (some ⟨bC, oC, none⟩) cs cn cc true hall hcn hcnb hp (by omega) hQ _ (kCs.out _ HB_2)).mono ?_
  rintro e w3 ⟨rfl, hb0⟩
  have HB_3 := Lib.hid (below_ext HB_2.out hb0)
  clear zc0 zc1 zc2 zc3 zc4 zc5
  clear hb0
  obtain ⟨zc0, zc1, zc2, zc3, zc4, zc5⟩ := kC.out _ HB_3
  go_wp2_with fail
  refine (relements_any P Q G (some ⟨bK, oK, none⟩) ks kn kc true hkal hkn (by omega) hp (by omega) hQ _ (kKs.out _ HB_3)).mono ?_
  rintro e w4 ⟨rfl, hb0⟩
  have HB_4 := Lib.hid (below_ext HB_3.out hb0)
  clear zc0 zc1 zc2 zc3 zc4 zc5
  clear hb0
  obtain ⟨zc0, zc1, zc2, zc3, zc4, zc5⟩ := kC.out _ HB_4
  obtain ⟨b9, o9, hA9, hi9⟩ := (kCs.out _ HB_4).out 0 (by rw [hcn.out]; exact hpos)
  cases hA9
  rw [HC0.out, Nat.add_zero] at hi9
  go_wp2
  clear zc0 zc1 zc2 zc3 zc4 zc5
  clear hi9
  go_loopw [5] (fun i wr => ∃ j : Nat, j ≤ kn ∧ i = .int .i64 ((j : Int) + 1) ∧ Hid (kyB P Q cs j (ks.drop j) = r) ∧ Hid (Below w0.heap.size w0 wr)) (fun i _ => kn + 1 - (intOf i).toNat)
  case atStart => exact ⟨0, by omega, rfl, hr, HB_4⟩
  case round =>
    obtain ⟨j, hj, rfl, HRj, HBj⟩ := hrel
    by_cases hltj : j < kn
    · skip
      have hjl : j < ks.length := by rw [hkn.out]; exact hltj
      have hst := kyB_drop (P := P) (Q := Q) (cs := cs) hjl
      obtain ⟨y, hy⟩ : ∃ x, ks.getD j 0 = x := ⟨_, rfl⟩
      obtain ⟨K, hK9⟩ : ∃ x, keM P Q cs ((j : Int) + 1) cs.length = x := ⟨_, rfl⟩
      rw [hy, hK9] at hst
      have HKE := Lib.hid hK9
      have HY := Lib.hid hy
      have HST := Lib.hid hst
      have dle : decide ((j : Int) + 1 ≤ (kn : Int)) = true := by simp; omega
      have i1 : (j : Int) + 1 < Q := by omega
      clear hy hK9 hst
      obtain ⟨zc0, zc1, zc2, zc3, zc4, zc5⟩ := kC.out _ HBj
      go_wp2
      clear zc0 zc1 zc2 zc3 zc4 zc5
      go_loopw [6, 7, 8] (fun a e i wz => ∃ k : Nat, k ≤ cn ∧ i = .int .i64 k ∧ a = .int .i64 (keM P Q cs ((j : Int) + 1) k) ∧ e = .int .i64 (exM Q ((j : Int) + 1) k) ∧ Hid (Below w0.heap.size w0 wz)) (fun _ _ i _ => cn - (intOf i).toNat)
      case atStart => exact ⟨0, by omega, rfl, rfl, rfl, HBj⟩
      case round =>
        obtain ⟨k, hk, rfl, rfl, rfl, HBr⟩ := hrel
        have hkm := keM_mem (i := (j : Int) + 1) hp2 (by omega) hall.out k (by rw [hcn.out]; exact hk)
        obtain ⟨e0, e1⟩ := exM_bounds (i := (j : Int) + 1) (show 2 ≤ Q by omega) k
        by_cases hlt : k < cn
        · skip
          have hkl : k < cs.length := by rw [hcn.out]; exact hlt
          obtain ⟨b, o, hA, hi⟩ := (kCs.out _ HBr).out k hkl
          cases hA
          have hcm := all_get hall.out hkl
          have sk : keM P Q cs ((j : Int) + 1) (k + 1) = keM P Q cs ((j : Int) + 1) k * pw (cs.getD k 0) (exM Q ((j : Int) + 1) k % Q) P % P := rfl
          have se : exM Q ((j : Int) + 1) (k + 1) = exM Q ((j : Int) + 1) k * ((j : Int) + 1) % Q := rfl
          obtain ⟨x, hx⟩ : ∃ x, cs.getD k 0 = x := ⟨_, rfl⟩
          obtain ⟨a, ha⟩ : ∃ x, keM P Q cs ((j : Int) + 1) k = x := ⟨_, rfl⟩
          obtain ⟨e, he⟩ : ∃ x, exM Q ((j : Int) + 1) k = x := ⟨_, rfl⟩
          obtain ⟨v, hv9⟩ : ∃ x', pw x (e % Q) P = x' := ⟨_, rfl⟩
          obtain ⟨u, hu⟩ : ∃ x', a * v % P = x' := ⟨_, rfl⟩
          obtain ⟨f, hf⟩ : ∃ x', e * ((j : Int) + 1) % Q = x' := ⟨_, rfl⟩
          rw [hx] at hi hcm sk
          rw [ha] at hkm sk ⊢
          rw [he] at e0 e1 sk se ⊢
          rw [hv9, hu] at sk
          rw [hf] at se
          have x0 := memG_lo hcm
          have x1 := memG_hi hcm
          have a0 := memG_lo hkm
          have a1 := memG_hi hkm
          obtain ⟨v0, v1⟩ : 0 ≤ v ∧ v < P := by rw [← hv9]; exact pw_lt _ _ _ (by omega)
          have HV9 := Lib.hid hv9
          have HU := Lib.hid hu
          have HF := Lib.hid hf
          have SK := Lib.hid sk
          have SE := Lib.hid se
          have kI := Lib.hid (show ∀ u : World, Hid (Below wr.heap.size wr u) → u.cell? ⟨bC, oC + k, none⟩ = some (.int .i64 x) from fun u h => cell_below hi h.out)
          clear hx ha he hv9 hu hf sk se hcm hkm hkl hi
          have HB_wr_4 : Hid (Below wr.heap.size wr wr) := Lib.hid (Below.refl _ _)
          obtain ⟨zc0, zc1, zc2, zc3, zc4, zc5⟩ := kC.out _ HBr
          have kI_0 := kI.out _ HB_wr_4
          go_wp2_with fail
          clear zc0 zc1 zc2 zc3 zc4 zc5 kI_0
          have hS5 := Lib.hid (show ∀ u1 u2 : World, (Hid (Below w0.heap.size w0 u1) ∧ Hid (Below wr.heap.size wr u1)) → Below u1.heap.size u1 u2 → (u2.cell? ⟨w.heap.size, 0, none⟩ = some (.int .i64 P) ∧ u2.cell? ⟨w.heap.size, 1, none⟩ = some (.int .i64 Q) ∧ u2.cell? ⟨w.heap.size, 2, none⟩ = some (.int .i64 G) ∧ u2.cell? ⟨w.heap.size + 1, 0, none⟩ = some (.int .i64 need) ∧ u2.cell? ⟨w.heap.size + 1, 1, none⟩ = some (.slice (some ⟨bC, oC, none⟩) cn cc) ∧ u2.cell? ⟨w.heap.size + 1, 2, none⟩ = some (.slice (some ⟨bK, oK, none⟩) kn kc) ∧ u2.cell? ⟨bC, oC + k, none⟩ = some (.int .i64 x) ∧ Hid (Below w0.heap.size w0 u2) ∧ Hid (Below wr.heap.size wr u2)) from fun u1 u2 h1 h2 => by
            obtain ⟨q0, q1⟩ := h1
            have r0 := Lib.hid (below_ext q0.out h2)
            have r1 := Lib.hid (below_ext q1.out h2)
            obtain ⟨y0, y1, y2, y3, y4, y5⟩ := kC.out _ r0
            have kI_0 := kI.out _ r1
            exact ⟨y0, y1, y2, y3, y4, y5, kI_0, r0, r1⟩)
          have HR5 := Lib.hid (show Hid (Below w0.heap.size w0 wr) ∧ Hid (Below wr.heap.size wr wr) from ⟨HBr, HB_wr_4⟩)
          go_region_held3 (fun w' => w'.cell? ⟨w.heap.size, 0, none⟩ = some (.int .i64 P) ∧ w'.cell? ⟨w.heap.size, 1, none⟩ = some (.int .i64 Q) ∧ w'.cell? ⟨w.heap.size, 2, none⟩ = some (.int .i64 G) ∧ w'.cell? ⟨w.heap.size + 1, 0, none⟩ = some (.int .i64 need) ∧ w'.cell? ⟨w.heap.size + 1, 1, none⟩ = some (.slice (some ⟨bC, oC, none⟩) cn cc) ∧ w'.cell? ⟨w.heap.size + 1, 2, none⟩ = some (.slice (some ⟨bK, oK, none⟩) kn kc) ∧ w'.cell? ⟨bC, oC + k, none⟩ = some (.int .i64 x) ∧ Hid (Below w0.heap.size w0 w') ∧ Hid (Below wr.heap.size wr w'))
            (first | exact hS5.out _ _ HR5.out ((Below.refl _ _).drew) | (exact hS5.out _ _ (by go_split_ands; exact ⟨(by assumption), (by assumption)⟩) hbA) | go_keep)
            ((first
              | (go_at_call 61; (with_reducible refine (rpower_any P Q G x e v HV9 (by omega) hp (by omega) (by omega) (by omega) x1 (by omega) (by omega) _).mono ?_); rintro e wA ⟨rfl, hbA⟩)
              | (go_at_call 60; (with_reducible refine (rgmul_any P Q G a v u HU hp (by omega) a1 v0 v1 _).mono ?_); rintro e wA ⟨rfl, hbA⟩)))
          rename_i hHeld
          obtain ⟨x0, x1, x2, x3, x4, x5, x6, HN5_0, HN5_1⟩ := hHeld
          clear hS5 HR5 x0 x1 x2 x3 x4 x5 x6
          obtain ⟨zc0, zc1, zc2, zc3, zc4, zc5⟩ := kC.out _ HN5_0
          have kI_0 := kI.out _ HN5_1
          go_wp2_with fail
          refine (rmul_any e ((j : Int) + 1) Q f HF (by omega) e0 e1 (by omega) i1 _).mono ?_
          rintro e9 w9 ⟨rfl, hw9⟩
          subst hw9
          go_wp2
          go_roundw
          case rel => exact ⟨k + 1, by omega, by go_num, by rw [SK.out], by rw [SE.out], HN5_0⟩
          case measure => simp [intOf]; omega
        · skip
          obtain rfl : k = cn := by omega
          have hkv := HKE.out
          rw [hcn.out] at hkv
          rw [hkv]
          clear hkv hkm e0 e1
          obtain ⟨b, o, hA, hi⟩ := (kKs.out _ HBr).out j hjl
          cases hA
          rw [HY.out] at hi
          obtain ⟨dj, dj1, dj2, dj3, dj4⟩ := dj_facts hltj n2
          cases hyk : (y == K) with
          | true =>
            have HRn : Hid (kyB P Q cs (j + 1) (ks.drop (j + 1)) = r) := Lib.hid (by rw [← HRj.out, HST.out, hyk]; rfl)
            have dne : (K != y) = false := by rw [bne_comm_ky]; simpa using hyk
            clear hyk
            obtain ⟨zc0, zc1, zc2, zc3, zc4, zc5⟩ := kC.out _ HBr
            go_wp2
            go_roundw
            case rel => exact ⟨j + 1, hltj, by rw [cast_succ1], HRn, HBr⟩
            case measure => simp only [intOf]; exact meas_j hltj
          | false =>
            obtain rfl : r = false := by rw [← HRj.out, HST.out, hyk]; rfl
            have dne : (K != y) = true := by rw [bne_comm_ky]; simpa using hyk
            clear hyk
            obtain ⟨zc0, zc1, zc2, zc3, zc4, zc5⟩ := kC.out _ HBr
            have hbF := below_ext HBw.out HBr.out
            go_wp2
            go_ret
            exact ⟨rfl, hbF⟩
    · skip
      obtain rfl : j = kn := by omega
      obtain rfl : r = true := by rw [← HRj.out, ← hkn.out, List.drop_length]; rfl
      have dle : decide ((j : Int) + 1 ≤ (j : Int)) = false := by simp; omega
      clear HRj
      obtain ⟨zc0, zc1, zc2, zc3, zc4, zc5⟩ := kC.out _ HBj
      have hbF := below_ext HBw.out HBj.out
      go_wp2
      go_ret
      exact ⟨rfl, hbF⟩
theorem rtrv_any (P Q G need : Int) (Cs : Option Addr) (cs : List Int) (cn cc : Nat) (Ks : Option Addr) (ks : List Int) (kn kc : Nat) (hcn : Hid (cs.length = cn)) (hkn : Hid (ks.length = kn)) (r : Bool) (hr : Hid (trB P Q G need cs ks = r)) (hQ : Q < 9223372036854775808) (w : World) (hC : Hid (Sl w Cs cs)) (hK : Hid (Sl w Ks ks)) :
    Calls Tryz.prog 13 #[gv P Q G, trV need Cs cn cc Ks kn kc] w fun e' w' => e' = .returned (.bool r) ∧ Below w.heap.size w w' := by
  have hr1 := hr.out
  unfold trB at hr1
  rw [hkn.out, hcn.out] at hr1
  cases h1 : validG P Q G with
  | false =>
    obtain rfl : r = false := by rw [← hr1, h1]; rfl
    exact rtrv_1 P Q G need Cs cn cc Ks kn kc (Lib.hid h1) hQ w
  | true =>
    cases h2 : numB Q need kn with
    | false =>
      obtain rfl : r = false := by rw [← hr1, h1, h2]; rfl
      exact rtrv_2 P Q G need Cs cn cc Ks kn kc (Lib.hid h1) (Lib.hid h2) hQ w
    | true =>
      by_cases h3 : (cn : Int) = need
      · obtain ⟨n1, n2, n3, n4, n5⟩ := numB_parts h2
        obtain ⟨p1, p2, p3, p4⟩ := validG_P h1
        have hpos : 0 < cn := by omega
        obtain ⟨bC, oC, rfl⟩ := sl_some hC.out (by rw [hcn.out]; exact hpos)
        obtain ⟨bK, oK, rfl⟩ := sl_some hK.out (by rw [hkn.out]; exact n1)
        cases h4 : cs.all (memG P Q) with
        | false =>
          obtain rfl : r = false := by rw [← hr1, h1, h2, decide_eq_true h3, h4]; simp
          exact rtrv_4 P Q G need bC oC cs cn cc bK oK ks kn kc hcn hkn (Lib.hid h1) (Lib.hid h2) (Lib.hid h3) hpos (Lib.hid h4) hQ w hC hK
        | true =>
          cases h5 : ks.all (memG P Q) with
          | false =>
            have h6 : kyB P Q cs 0 ks = false := by
              cases h7 : kyB P Q cs 0 ks with
              | false => rfl
              | true => rw [kyB_mem p1 (by omega) h4 ks 0 h7] at h5; cases h5
            obtain rfl : r = false := by rw [← hr1, h1, h2, decide_eq_true h3, h4, h6]; simp
            exact rtrv_5 P Q G need bC oC cs cn cc bK oK ks kn kc hcn hkn (Lib.hid h1) (Lib.hid h2) (Lib.hid h3) hpos (Lib.hid h4) (Lib.hid h5) hQ w hC hK
          | true =>
            cases h6 : (cs.getD 0 0 == 1) with
            | true =>
              obtain rfl : r = false := by rw [← hr1, h1, h2, decide_eq_true h3, h6]; rfl
              exact rtrv_6 P Q G need bC oC cs cn cc bK oK ks kn kc hcn hkn (Lib.hid h1) (Lib.hid h2) (Lib.hid h3) hpos (Lib.hid h4) (Lib.hid h5) _ (Lib.hid rfl) h6 hQ w hC hK
            | false => exact rtrv_7 P Q G need bC oC cs cn cc bK oK ks kn kc hcn hkn (Lib.hid h1) (Lib.hid h2) (Lib.hid h3) hpos (Lib.hid h4) (Lib.hid h5) _ (Lib.hid rfl) h6 r (Lib.hid (by rw [← hr1, h1, h2, decide_eq_true h3, h4, h6, List.drop_zero]; rfl)) hQ w hC hK
      · obtain rfl : r = false := by rw [← hr1, h1, h2, decide_eq_false h3]; rfl
        exact rtrv_3 P Q G need Cs cn cc Ks kn kc (Lib.hid h1) (Lib.hid h2) h3 hQ w
end Go.Proofs.YtjnoaejikapmdaaGreatDoor
namespace Go.Proofs.YtjnoaejikapmdaaGreatDoor
open Go
section
variable {P : Program} {ops : Array Oper} {Q : Exit → Act → World → Prop} {md : Region.Mode} {S : World → Prop} {E : List Nat}
def wpT (P : Program) (md : Region.Mode) (ops : Array Oper) (Q : Exit → Act → World → Prop) (S : World → Prop) (E : List Nat) : Nat → Array Bool → Act → World → Prop
  | 0, listed, a, w => Region.ready md ops listed = [] ∧ Q .normal a w
  | fuel + 1, listed, a, w =>
    (Region.ready md ops listed = [] → Q .normal a w) ∧
    ∀ i ∈ Region.ready md ops listed, wpOp P ops Q i (fun a' w' => (i ∉ E → S w') ∧ wpT P md ops Q S E fuel (listed.setIfInBounds i true) a' w') a w
theorem wpAny_of_T : ∀ (fuel : Nat) (listed : Array Bool) (a : Act) (w : World), wpT P md ops Q S E fuel listed a w → wpAny P md ops Q fuel listed a w
  | 0, _, _, _, h => h
  | fuel + 1, _, _, _, h => ⟨h.1, fun i hi => wpOp_mono (fun a' w' h' => wpAny_of_T fuel _ a' w' h'.2) (h.2 i hi)⟩
def depsOf (md : Region.Mode) (ops : Array Oper) (i : Nat) : List Nat :=
  (List.range ops.size).foldl (fun C x => if ((ops[x]?).map (·.after.any fun e => Region.binds md e && (e.on == i || C.contains e.on))).getD false then x :: C else C) []
def lateB (md : Region.Mode) (ops : Array Oper) (listed : Array Bool) (i : Nat) (E : List Nat) : Bool :=
  (E.all fun s => (depsOf md ops i).contains s) && (depsOf md ops i).all fun x => !listed.getD x true && ((ops[x]?).map (·.after.any fun e => Region.binds md e && (e.on == i || (depsOf md ops i).contains e.on))).getD false
def Late (md : Region.Mode) (ops : Array Oper) (C : List Nat) (listed : Array Bool) (i : Nat) : Prop :=
  ∀ x ∈ C, listed.getD x true = false ∧ ∃ o, ops[x]? = some o ∧ ∃ e ∈ o.after, Region.binds md e = true ∧ (e.on = i ∨ e.on ∈ C)
theorem lateB_spec {listed : Array Bool} {i : Nat} (h : lateB md ops listed i E = true) : (∀ s ∈ E, s ∈ depsOf md ops i) ∧ Late md ops (depsOf md ops i) listed i := by
  unfold lateB at h
  rw [Bool.and_eq_true] at h
  refine ⟨fun s hs => by simpa using List.all_eq_true.1 h.1 s hs, fun x hx => ?_⟩
  have h2 := List.all_eq_true.1 h.2 x hx
  rw [Bool.and_eq_true] at h2
  refine ⟨by simpa using h2.1, ?_⟩
  have h3 := h2.2
  cases ho : ops[x]? with
  | none => rw [ho] at h3; simp at h3
  | some o =>
    rw [ho] at h3
    simp only [Option.map_some, Option.getD_some] at h3
    obtain ⟨e, he, hb⟩ := Array.any_eq_true'.1 h3
    simp only [Bool.and_eq_true, Bool.or_eq_true, beq_iff_eq] at hb
    exact ⟨o, rfl, e, he, hb.1, hb.2.imp id (by simp)⟩
theorem Late.not_ready {C : List Nat} {listed : Array Bool} {i j : Nat} (h : Late md ops C listed i) (hi : listed.getD i true = false) (hj : j ∈ Region.ready md ops listed) : j ∉ C := fun hc => by
  obtain ⟨_, o, ho, e, he, hb, h4⟩ := h j hc
  obtain ⟨_, o', ho', hall⟩ := mem_ready.1 hj
  rw [ho] at ho'
  cases ho'
  have h5 := hall e he hb
  have h6 : listed.getD e.on true = false := by
    rcases h4 with h4 | h4
    · rw [h4]; exact hi
    · exact (h _ h4).1
  rcases Nat.lt_or_ge e.on listed.size with h' | h'
  · simp [h'] at h5 h6; rw [h6] at h5; cases h5
  · simp [Array.getElem?_eq_none h'] at h5
theorem Late.step {C : List Nat} {listed : Array Bool} {i j : Nat} (h : Late md ops C listed i) (hj : j ∉ C) : Late md ops C (listed.setIfInBounds j true) i := fun x hx => by
  obtain ⟨h1, h2⟩ := h x hx
  have hne : j ≠ x := fun e => hj (by rw [e]; exact hx)
  exact ⟨by rw [getD_set_ne true hne]; exact h1, h2⟩
theorem wpT_first {i : Nat} {oi : Oper} {v : Value} {C : List Nat} (hs : ∀ s ∈ E, s ∈ C) (hi : ops[i]? = some oi) (hsel : ∀ (j : Nat) (o : Oper) cs b, ops[j]? = some o → o.op ≠ .select cs b)
    (hQ : ∀ c a w, Q (.panic c) (a.put oi.dst v) w → Q (.panic c) a w) :
    ∀ (fuel : Nat) (listed : Array Bool) (a : Act) (w : World),
      (∀ j oj, ops[j]? = some oj → j ≠ i → listed.getD j true = false → (∀ e ∈ oj.after, Region.binds md e = true → e.on ≠ i) → oi.apart ops oj = true) →
      Late md ops C listed i → i ∈ Region.ready md ops listed → YieldsIf P ops S oi v a → S w →
      wpT P md ops Q S E fuel (listed.setIfInBounds i true) (a.put oi.dst v) w → wpT P md ops Q S E (fuel + 1) listed a w := by
  intro fuel
  induction fuel with
  | zero =>
    intro listed a w _ _ hr hy hS H
    refine ⟨fun h => (by rw [h] at hr; cases hr), fun j hj => ?_⟩
    by_cases hji : j = i
    · subst hji; exact hy.wpOp hi hS ⟨fun _ => hS, H⟩
    · have := ready_mono hj hji
      rw [H.1] at this
      cases this
  | succ fuel ih =>
    intro listed a w hfree hlate hr hy hS H
    refine ⟨fun h => (by rw [h] at hr; cases hr), fun j hj => ?_⟩
    by_cases hji : j = i
    · subst hji; exact hy.wpOp hi hS ⟨fun _ => hS, H⟩
    · have h1 := H.2 j (ready_mono hj hji)
      have hiun := (mem_ready.1 hr).1
      have hjC := hlate.not_ready hiun hj
      have hjs : j ∉ E := fun e => hjC (hs j e)
      obtain ⟨hjun, oj, hoj, hall⟩ := mem_ready.1 hj
      have hnot : ∀ e ∈ oj.after, Region.binds md e = true → e.on ≠ i := fun e he hb heq => by
        have h1 := hall e he hb
        have h0 := (mem_ready.1 hr).1
        rw [heq] at h1
        rcases Nat.lt_or_ge i listed.size with h' | h'
        · simp [h'] at h0 h1; rw [h0] at h1; cases h1
        · simp [Array.getElem?_eq_none h'] at h1
      have h2 := wpOp_putIf hoj (hfree j oj hoj hji hjun hnot) (fun cs b => hsel i oi cs b hi) (fun cs b => hsel j oj cs b hoj) hQ hy h1
      have hfree' : ∀ k ok, ops[k]? = some ok → k ≠ i → (listed.setIfInBounds j true).getD k true = false →
          (∀ e ∈ ok.after, Region.binds md e = true → e.on ≠ i) → oi.apart ops ok = true := fun k ok hk hki hun hno => by
        refine hfree k ok hk hki ?_ hno
        by_cases hjk : j = k
        · subst hjk; exact hjun
        · rw [getD_set_ne true hjk] at hun; exact hun
      refine wpOp_mono (fun a' w' h3 => ⟨fun _ => h3.2.1 hjs, ih (listed.setIfInBounds j true) a' w' hfree' (hlate.step hjC) (ready_mono hr (Ne.symm hji)) h3.1 (h3.2.1 hjs) ?_⟩) h2
      rw [Array.setIfInBounds_comm _ _ hji]
      exact h3.2.2
theorem wpT_take {i : Nat} {oi : Oper} {v : Value} {fuel : Nat} {listed : Array Bool} {a : Act} {w : World} (hi : ops[i]? = some oi)
    (hs : Region.noSelect ops = true) (hf : Region.free md ops listed i = true) (hr : (Region.ready md ops listed).contains i = true) (hl : lateB md ops listed i E = true)
    (hQ : ∀ c a w, Q (.panic c) (a.put oi.dst v) w → Q (.panic c) a w) (hy : YieldsIf P ops S oi v a) (hS : S w)
    (h : wpT P md ops Q S E fuel (listed.setIfInBounds i true) (a.put oi.dst v) w) : wpT P md ops Q S E (fuel + 1) listed a w :=
  wpT_first (lateB_spec hl).1 hi (Region.noSelect_spec hs) hQ fuel listed a w (Region.free_spec hi hf) (lateB_spec hl).2 (by simpa using hr) hy hS h
theorem wpT_one {i : Nat} {o : Oper} {fuel : Nat} {listed : Array Bool} {a : Act} {w : World} (hr : Region.ready md ops listed = [i]) (ho : ops[i]? = some o)
    (h : ∀ K' : Act → World → Prop, Shut (∀ a w, S w → (S w → wpT P md ops Q S E fuel (listed.setIfInBounds i true) a w) → K' a w) → if Region.wanted o (yielded ops a.tmps) = true then Oper.wp P o a w K' Q else K' (a.put o.dst undef) w) :
    wpT P md ops Q S E (fuel + 1) listed a w :=
  ⟨fun h0 => absurd (hr ▸ h0) (by simp), fun j hj => by
    rw [hr] at hj
    obtain rfl : j = i := by simpa using hj
    exact wpOp_step ho (fun K' hK => h K' (fun a w hS hW => hK a w ⟨fun _ => hS, hW hS⟩))⟩
theorem qq1 {α : Type _} {xs : List α} {i : Nat} (h : i < xs.toArray.size) : xs.toArray[i] = xs[i]'(by simpa using h) := rfl
theorem qq2 {α : Type _} (a : α) (l : List α) (h : 0 < (a :: l).length) : getElem (a :: l) 0 h = a := rfl
theorem qq3 {α : Type _} (a : α) (l : List α) (i : Nat) (h : i + 1 < (a :: l).length) : getElem (a :: l) (i+1) h = getElem l i (Nat.lt_of_succ_lt_succ h) := rfl
theorem qq4 {α : Type _} (l : List α) (i : Nat) (a : α) : l.toArray.setIfInBounds i a = (l.set i a).toArray := List.setIfInBounds_toArray l i a
theorem qq5 {α : Type _} {x : α} {xs : List α} {a : α} : (x :: xs).set 0 a = a :: xs := rfl
theorem qq6 {α : Type _} {x : α} {xs : List α} {i : Nat} {a : α} : (x :: xs).set (i + 1) a = x :: xs.set i a := rfl
theorem tkV (i : Nat) {oi : Oper} {v : Value} {fuel : Nat} {listed : Array Bool} {a : Act} {w : World} (h : wpT P md ops Q S E fuel (listed.setIfInBounds i true) (a.put oi.dst v) w) (hi : ops[i]? = some oi := by rfl)
    (hs : Region.noSelect ops = true := by kernel_rfl) (hf : Region.free md ops listed i = true := by kernel_rfl) (hr : (Region.ready md ops listed).contains i = true := by kernel_rfl) (hl : lateB md ops listed i E = true := by kernel_rfl)
    (hQ : ∀ c a w, Q (.panic c) (a.put oi.dst v) w → Q (.panic c) a w := by exact fun _ _ _ h => h) (hw : Region.wanted oi (yielded ops a.tmps) = true := by rfl)
    (hy : ∀ w, S w → (execOp a.eval oi).run P w = .ok (.value v) w := by intro wS hSw; (try dsimp only at hSw); go_simp <;> with_reducible rfl) (hS : S w := by assumption) : wpT P md ops Q S E (fuel + 1) listed a w :=
  wpT_take hi hs hf hr hl hQ (Or.inl ⟨hw, hy⟩) hS h
theorem tkU (i : Nat) {oi : Oper} {fuel : Nat} {listed : Array Bool} {a : Act} {w : World} (h : wpT P md ops Q S E fuel (listed.setIfInBounds i true) (a.put oi.dst undef) w) (hi : ops[i]? = some oi := by rfl)
    (hs : Region.noSelect ops = true := by kernel_rfl) (hf : Region.free md ops listed i = true := by kernel_rfl) (hr : (Region.ready md ops listed).contains i = true := by kernel_rfl) (hl : lateB md ops listed i E = true := by kernel_rfl)
    (hQ : ∀ c a w, Q (.panic c) (a.put oi.dst undef) w → Q (.panic c) a w := by exact fun _ _ _ h => h) (hw : Region.wanted oi (yielded ops a.tmps) = false := by rfl) (hS : S w := by assumption) : wpT P md ops Q S E (fuel + 1) listed a w :=
  wpT_take hi hs hf hr hl hQ (Or.inr ⟨hw, rfl⟩) hS h
theorem wpT_two {i1 i2 : Nat} {o1 o2 : Oper} {fuel : Nat} {listed : Array Bool} {a : Act} {w : World} (hr : Region.ready md ops listed = [i1, i2]) (ho1 : ops[i1]? = some o1) (ho2 : ops[i2]? = some o2)
    (h1 : ∀ K' : Act → World → Prop, Shut (∀ a w, S w → (S w → wpT P md ops Q S E fuel (listed.setIfInBounds i1 true) a w) → K' a w) → if Region.wanted o1 (yielded ops a.tmps) = true then Oper.wp P o1 a w K' Q else K' (a.put o1.dst undef) w)
    (h2 : ∀ K' : Act → World → Prop, Shut (∀ a w, S w → (S w → wpT P md ops Q S E fuel (listed.setIfInBounds i2 true) a w) → K' a w) → if Region.wanted o2 (yielded ops a.tmps) = true then Oper.wp P o2 a w K' Q else K' (a.put o2.dst undef) w) :
    wpT P md ops Q S E (fuel + 1) listed a w :=
  ⟨fun h0 => absurd (hr ▸ h0) (by simp), fun j hj => by
    rw [hr] at hj
    rcases (by simpa using hj : j = i1 ∨ j = i2) with rfl | rfl
    · exact wpOp_step ho1 (fun K' hK => h1 K' (fun a w hS hW => hK a w ⟨fun _ => hS, hW hS⟩))
    · exact wpOp_step ho2 (fun K' hK => h2 K' (fun a w hS hW => hK a w ⟨fun _ => hS, hW hS⟩))⟩
theorem wpT_pass {i : Nat} {o : Oper} {fuel : Nat} {listed : Array Bool} {a : Act} {w : World} (hr : Region.ready md ops listed = [i]) (hE : i ∈ E) (ho : ops[i]? = some o)
    (h : ∀ K' : Act → World → Prop, Shut (∀ a w, wpT P md ops Q S E fuel (listed.setIfInBounds i true) a w → K' a w) → if Region.wanted o (yielded ops a.tmps) = true then Oper.wp P o a w K' Q else K' (a.put o.dst undef) w) :
    wpT P md ops Q S E (fuel + 1) listed a w :=
  ⟨fun h0 => absurd (hr ▸ h0) (by simp), fun j hj => by
    rw [hr] at hj
    obtain rfl : j = i := by simpa using hj
    exact wpOp_step ho (fun K' hK => h K' (fun a w hW => hK a w ⟨fun h => absurd hE h, hW⟩))⟩
theorem wpT_twoE {i1 i2 : Nat} {o1 o2 : Oper} {fuel : Nat} {listed : Array Bool} {a : Act} {w : World} (hr : Region.ready md ops listed = [i1, i2]) (hE1 : i1 ∈ E) (hE2 : i2 ∈ E) (ho1 : ops[i1]? = some o1) (ho2 : ops[i2]? = some o2)
    (h1 : ∀ K' : Act → World → Prop, Shut (∀ a w, wpT P md ops Q S E fuel (listed.setIfInBounds i1 true) a w → K' a w) → if Region.wanted o1 (yielded ops a.tmps) = true then Oper.wp P o1 a w K' Q else K' (a.put o1.dst undef) w)
    (h2 : ∀ K' : Act → World → Prop, Shut (∀ a w, wpT P md ops Q S E fuel (listed.setIfInBounds i2 true) a w → K' a w) → if Region.wanted o2 (yielded ops a.tmps) = true then Oper.wp P o2 a w K' Q else K' (a.put o2.dst undef) w) :
    wpT P md ops Q S E (fuel + 1) listed a w :=
  ⟨fun h0 => absurd (hr ▸ h0) (by simp), fun j hj => by
    rw [hr] at hj
    rcases (by simpa using hj : j = i1 ∨ j = i2) with rfl | rfl
    · exact wpOp_step ho1 (fun K' hK => h1 K' (fun a w hW => hK a w ⟨fun h => absurd hE1 h, hW⟩))
    · exact wpOp_step ho2 (fun K' hK => h2 K' (fun a w hW => hK a w ⟨fun h => absurd hE2 h, hW⟩))⟩
theorem wpT_done {listed : Array Bool} {a : Act} {w : World} (hr : Region.ready md ops listed = []) (h : Q .normal a w) : ∀ fuel, wpT P md ops Q S E fuel listed a w
  | 0 => ⟨hr, h⟩
  | _ + 1 => ⟨fun _ => h, by rw [hr]; simp⟩
theorem wp_region_T {id : Nat} {a : Act} {w : World} (hm : P.follows .mixedOrders = true) (hS : S w.drew)
    (h : S w.drew → wpT P .any ops Q S E ops.size (Array.replicate ops.size false) a w.drew) : (Code.region id ops true).wp P Q a w :=
  wp_region_any hm (wpAny_of_T _ _ _ _ (h hS))
end
end Go.Proofs.YtjnoaejikapmdaaGreatDoor
namespace Go.Proofs.YtjnoaejikapmdaaGreatDoor
open Go.RowKit SpM Go.Maps
set_option linter.unusedVariables false
set_option linter.unusedSimpArgs false
set_option maxRecDepth 100000
theorem lawT : Keyed Tryz.prog 3 := int_keyed Tryz.underlying3
theorem zeroT (w : World) : (zeroValue 4).run Tryz.prog w = .ok (.bool false) w := by kernel_rfl
theorem int_neT {a b : Int} (h : a ≠ b) : (Lit.int .i64 a) ≠ Lit.int .i64 b := fun e => h (by injection e)
theorem plainElem_bool_inv {P : Program} {e : TypeId} (he : P.underlying e = some .bool) {v : Value} {z : DataW Unit × List MemPlace} (h : plainElem P e v = some z) : ∃ x, v = .bool x ∧ z.1 = .lit (.bool x) := by
  unfold plainElem at h
  rw [he] at h
  cases v <;> simp at h
  exact ⟨_, rfl, by rw [← h]⟩
theorem lit_injB {a b : Bool} (h : (DataW.lit (.bool a) : DataW Unit) = .lit (.bool b)) : a = b := by
  injection h with h1
  injection h1
def TwR (xs : List Int) (wr : World) (B k : Nat) : Prop :=
  ∃ D : DataW Unit, wr.ownsMap Tryz.prog 3 (plainElem Tryz.prog 4) B k D ∧ (∀ a : Int, has D (.int .i64 a) = true → D.atKey (.int .i64 a) (.lit (.bool false)) = .lit (.bool true) ∧ ∃ j, j < k ∧ a = xs.getD j 0) ∧ (∀ j, j < k → has D (.int .i64 (xs.getD j 0)) = true)
theorem twR_made (xs : List Int) (w : World) : TwR xs (w.alloc (.map #[] 0)) w.heap.size 0 :=
  ⟨.map [], World.ownsMap_made _ _ _ _, fun a h => by simp [has] at h, fun j h => absurd h (by omega)⟩
theorem twR_put {xs : List Int} {w' : World} {B k : Nat} {x : Int} {D : DataW Unit} (hx : xs.getD k 0 = x) (ht : Tidy D)
    (h1 : w'.ownsMap Tryz.prog 3 (plainElem Tryz.prog 4) B (k + 1) (D.put (.int .i64 x) (.lit (.bool true))))
    (hA : ∀ a : Int, has D (.int .i64 a) = true → D.atKey (.int .i64 a) (.lit (.bool false)) = .lit (.bool true) ∧ ∃ j, j < k ∧ a = xs.getD j 0) (hB : ∀ j, j < k → has D (.int .i64 (xs.getD j 0)) = true) : TwR xs w' B (k + 1) := by
  refine ⟨_, h1, fun a ha => ?_, fun j hj => ?_⟩
  · by_cases hax : a = x
    · subst hax
      exact ⟨atKey_put_same ht.isMap (by simp [WideAt.IsKeyLit]) _ _, k, by omega, hx.symm⟩
    · rw [has_put_other (int_neT hax)] at ha
      rw [atKey_put_other (int_neT hax)]
      obtain ⟨e1, j, hj, e2⟩ := hA a ha
      exact ⟨e1, j, by omega, e2⟩
  · by_cases hjx : xs.getD j 0 = x
    · rw [hjx]; exact has_put_same ht.isMap (by simp [WideAt.IsKeyLit]) _
    · rw [has_put_other (int_neT hjx)]
      have hjk : j ≠ k := fun e => hjx (by rw [e]; exact hx)
      exact hB j (by omega)
def NoTw (xs : List Int) (k : Nat) : Prop := ∀ i j, i < k → j < i → xs.getD i 0 ≠ xs.getD j 0
set_option maxHeartbeats 6400000 in
theorem twice_any (A : Option Addr) (xs : List Int) (n c : Nat) (r : Bool) (hr : Hid (r = false ↔ NoTwice xs)) (hn : Hid (xs.length = n)) (hbig : n < 1000000) (hw : Hid (∀ k, k < n → -9223372036854775808 ≤ xs.getD k 0 ∧ xs.getD k 0 < 9223372036854775808)) (w : World) (hs : Hid (Sl w A xs)) :
    Calls Tryz.prog 50 #[.slice A n c] w fun e' w' => e' = .returned (.bool r) ∧ Below w.heap.size w w' := by
  have hmm := fun t w => run_makeMap (P := Tryz.prog) t w
  have HM0 := Lib.hid (twR_made xs w)
  have HBl : Hid (Below w.heap.size w (w.alloc (.map #[] 0))) := Lib.hid (below_box0 _ _)
  obtain ⟨B, hBe⟩ : ∃ B, w.heap.size = B := ⟨_, rfl⟩
  obtain ⟨W, hWe⟩ : ∃ W, w.alloc (.map #[] 0) = W := ⟨_, rfl⟩
  rw [hBe, hWe] at HM0 HBl
  have HBe := Lib.hid hBe
  have HWe := Lib.hid hWe
  have HBW : Hid (B ≤ W.heap.size) := Lib.hid (by rw [← hBe, ← hWe]; simp)
  clear hBe hWe
  go_enter Tryz.func50, Tryz.ntmps50
  go_wp2
  rw [HWe.out, HBe.out]
  go_loopw [9] (fun i wr => ∃ k : Nat, k ≤ n ∧ i = .int .i64 k ∧ Hid (NoTw xs k) ∧ Hid (TwR xs wr B k) ∧ Hid (Below B w wr)) (fun i _ => n - (intOf i).toNat)
  case atStart => exact ⟨0, by omega, rfl, Lib.hid (fun i j h _ => absurd h (by omega)), HM0, HBl⟩
  case round =>
    obtain ⟨k, hk, rfl, HNT, HMr, HBr⟩ := hrel
    by_cases hlt : k < n
    · have hkl : k < xs.length := by rw [hn.out]; exact hlt
      obtain ⟨b, o, hA, hi0⟩ := (hs.out.below (show Below w.heap.size w wr by rw [HBe.out]; exact HBr.out)) k hkl
      subst hA
      obtain ⟨w1, w2⟩ := hw.out k hlt
      obtain ⟨x, hx⟩ : ∃ x, xs.getD k 0 = x := ⟨_, rfl⟩
      rw [hx] at hi0 w1 w2
      obtain ⟨D, hown, hA, hB⟩ := HMr.out
      have HX := Lib.hid hx
      have HA9 := Lib.hid hA
      have HB9 := Lib.hid hB
      have HT := Lib.hid (hown.tidy lawT)
      have wf1 : (Lit.int .i64 x).wf = true := WalkArith.wf_i64 (by omega)
      have hkey : keyOf Tryz.prog 3 (.int .i64 x) = some (.int .i64 x) := keyOf_int_mk Tryz.underlying3 wf1
      obtain ⟨v9, ps9, hrun, hv9⟩ := hown.lookup lawT Tryz.underlying167 (zeroT wr) (plainElem_bool Tryz.underlying4 false) hkey
      obtain ⟨bv, rfl, hbv⟩ := plainElem_bool_inv Tryz.underlying4 hv9
      clear hv9 hA hB hx
      cases hh : has D (.int .i64 x) with
      | true =>
        obtain ⟨e1, j, hj, e2⟩ := HA9.out x hh
        have hbt : bv = true := by
          rw [e1] at hbv
          exact (lit_injB hbv).symm
        subst hbt
        obtain rfl : r = true := by
          cases hrr : r with
          | true => rfl
          | false => exact absurd (HX.out.trans e2) ((hr.out.1 hrr) k j hkl hj)
        clear e1 e2 hbv hh
        go_wp2
        go_ret
        exact ⟨rfl, by rw [HBe.out]; exact HBr.out⟩
      | false =>
        have hbf : bv = false := by
          rw [atKey_of_not_has hh] at hbv
          exact (lit_injB hbv).symm
        subst hbf
        have HNO : Hid (NoTw xs (k + 1)) := Lib.hid (fun i j hi hj => by
          by_cases e : i = k
          · subst e
            intro h
            have := HB9.out j hj
            rw [← h, HX.out, hh] at this
            cases this
          · exact HNT.out i j (by omega) hj)
        clear hbv hh
        go_wp2_with (at_mapUpdate; refine wpList_mapUpdate_own _ rfl _ _ _ 167 rfl 3 4 lawT Tryz.underlying167 _ B k _ rfl hown (by unfold maxLen; omega) _ _ _ rfl rfl hkey _ [] (plainElem_bool Tryz.underlying4 true) ?_; intro w10 hown1 hgrow1)
        have HM10 : Hid (TwR xs w10 B (k + 1)) := Lib.hid (twR_put HX.out HT.out hown1 HA9.out HB9.out)
        have hltB := hown.lt
        have HB10 : Hid (Below B w w10) := Lib.hid (HBr.out.grown hgrow1 (by omega) (fun j hj => by cases hj; exact Nat.le_refl _))
        clear hown hown1 hgrow1
        go_roundw
        case rel => exact ⟨k + 1, by omega, by go_num, HNO, HM10, HB10⟩
        case measure => simp [intOf]; omega
    · obtain rfl : k = n := by omega
      obtain rfl : r = false := hr.out.2 (fun i j hi hj => HNT.out i j (by rw [← hn.out]; exact hi) hj)
      go_wp2
      go_ret
      exact ⟨rfl, by rw [HBe.out]; exact HBr.out⟩
set_option maxHeartbeats 6400000 in
theorem rtwice_any (A : Option Addr) (xs : List Int) (n c : Nat) (r : Bool) (hr : Hid (r = false ↔ NoTwice xs)) (hn : Hid (xs.length = n)) (hbig : n < 1000000) (w : World) (hs : Hid (Sl w A xs)) :
    Calls Tryz.prog 69 #[.slice A n c] w fun e' w' => e' = .returned (.bool r) ∧ Below w.heap.size w w' := by
  go_enter Tryz.func69, Tryz.ntmps69
  go_wp2
  go_loopw [3] (fun i wr => ∃ k : Nat, k ≤ n ∧ i = .int .i64 k ∧ Hid (NoTw xs k) ∧ Hid (Below w.heap.size w wr)) (fun i _ => n - (intOf i).toNat)
  case atStart => exact ⟨0, by omega, rfl, Lib.hid (fun i j h _ => absurd h (by omega)), Lib.hid (Below.refl _ _)⟩
  case round =>
    obtain ⟨k, hk, rfl, HNT, HBr⟩ := hrel
    by_cases hlt : k < n
    · have hkl : k < xs.length := by rw [hn.out]; exact hlt
      go_wp2
      go_loopw [4] (fun i wz => ∃ j : Nat, j ≤ k ∧ i = .int .i64 j ∧ Hid (∀ m, m < j → xs.getD k 0 ≠ xs.getD m 0) ∧ Hid (Below w.heap.size w wz)) (fun i _ => k - (intOf i).toNat)
      case atStart => exact ⟨0, by omega, rfl, Lib.hid (fun m h => absurd h (by omega)), HBr⟩
      case round =>
        obtain ⟨j, hj, rfl, HNJ, HBz⟩ := hrel
        by_cases hlj : j < k
        · have hjl : j < xs.length := by omega
          have HSz := Lib.hid (hs.out.below HBz.out)
          obtain ⟨b, o, hA, hi0⟩ := HSz.out k hkl
          obtain ⟨b2, o2, hA2, hi1⟩ := HSz.out j hjl
          subst hA
          cases hA2
          obtain ⟨x, hx⟩ : ∃ x, xs.getD k 0 = x := ⟨_, rfl⟩
          obtain ⟨y, hy⟩ : ∃ x, xs.getD j 0 = x := ⟨_, rfl⟩
          rw [hx] at hi0
          rw [hy] at hi1
          cases hxy : (x == y) with
          | true =>
            obtain rfl : r = true := by
              cases hrr : r with
              | true => rfl
              | false => exact absurd (hx.trans ((eq_of_beq hxy).trans hy.symm)) ((hr.out.1 hrr) k j hkl hlj)
            clear hx hy hjl hkl
            go_wp2
            go_quiet (fail)
            have HB2 := Lib.hid (below_drawN HBz.out nq)
            go_wp2
            go_ret
            exact ⟨rfl, HB2.out⟩
          | false =>
            have HN2 : Hid (∀ m, m < j + 1 → xs.getD k 0 ≠ xs.getD m 0) := Lib.hid (fun m hm => by
              by_cases e : m = j
              · subst e
                rw [hx, hy]
                simpa using hxy
              · exact HNJ.out m (by omega))
            clear hx hy hjl hkl
            go_wp2
            go_quiet (fail)
            have HB2 := Lib.hid (below_drawN HBz.out nq)
            go_wp2
            go_roundw
            case rel => exact ⟨j + 1, by omega, by go_num, HN2, HB2⟩
            case measure => simp [intOf]; omega
        · obtain rfl : j = k := by omega
          have HNO : Hid (NoTw xs (j + 1)) := Lib.hid (fun i m hi hm => by
            by_cases e : i = j
            · subst e; exact HNJ.out m hm
            · exact HNT.out i m (by omega) hm)
          go_wp2
          go_roundw
          case rel => exact ⟨j + 1, by omega, by go_num, HNO, HBz⟩
          case measure => simp [intOf]; omega
    · obtain rfl : k = n := by omega
      obtain rfl : r = false := hr.out.2 (fun i j hi hj => HNT.out i j (by rw [← hn.out]; exact hi) hj)
      go_wp2
      go_ret
      exact ⟨rfl, HBr.out⟩
theorem gen_mem50 {P Q G : Int} (h : validG P Q G = true) : memG P Q G = true := by
  obtain ⟨h1, h2, h3, h4⟩ := validG_P h
  simp [validG] at h
  simp [memG]
  omega
abbrev shV (ix v : Int) : Value := .agg #[.int .i64 ix, .int .i64 v]
abbrev shO (ix v : Int) : Obj := .cells #[.int .i64 ix, .int .i64 v] 35
def memB (n : Nat) (i : Int) : Bool := decide (1 ≤ i) && decide (i ≤ n)
def rgtB (P Q G : Int) (ks : List Int) (ix v : Int) : Bool := memB ks.length ix && (scB Q v && (pw G (v % Q) P == ks.getD (ix - 1).toNat 0))
theorem memB_parts {n : Nat} {i : Int} (h : memB n i = true) : ∃ m : Nat, m < n ∧ i = (m : Int) + 1 := by
  unfold memB at h
  simp only [Bool.and_eq_true, decide_eq_true_eq] at h
  exact ⟨(i - 1).toNat, by omega, by omega⟩
set_option maxHeartbeats 1600000 in
theorem member_any (need : Int) (Cs : Option Addr) (cn cc : Nat) (Ks : Option Addr) (kn kc : Nat) (i : Int) (r : Bool) (hr : Hid (memB kn i = r)) (w : World) :
    Calls Tryz.prog 54 #[trV need Cs cn cc Ks kn kc, .int .i64 i] w fun e' w' => e' = .returned (.bool r) ∧ Below w.heap.size w w' := by
  have HX := below_box0 w (trO need Cs cn cc Ks kn kc)
  have hc : (w.alloc (trO need Cs cn cc Ks kn kc)).cell? ⟨w.heap.size, 0, none⟩ = some (.int .i64 need) ∧ (w.alloc (trO need Cs cn cc Ks kn kc)).cell? ⟨w.heap.size, 1, none⟩ = some (.slice Cs cn cc) ∧ (w.alloc (trO need Cs cn cc Ks kn kc)).cell? ⟨w.heap.size, 2, none⟩ = some (.slice Ks kn kc) := ⟨cell_blk (heap_alloc_new _ _) 0, cell_blk (heap_alloc_new _ _) 1, cell_blk (heap_alloc_new _ _) 2⟩
  obtain ⟨c0, c1, c2⟩ := hc
  have hr1 := hr.out
  unfold memB at hr1
  by_cases h0 : (1 : Int) ≤ i
  · have d0 : decide ((1 : Int) ≤ i) = true := by simp; omega
    by_cases h1 : i ≤ (kn : Int)
    · have d1 : decide (i ≤ (kn : Int)) = true := by simp; omega
      obtain rfl : r = true := by rw [← hr1]; simp; omega
      go_enter Tryz.func54, Tryz.ntmps54
      go_wp2
      go_ret
      exact ⟨rfl, HX⟩
    · have d1 : decide (i ≤ (kn : Int)) = false := by simp; omega
      obtain rfl : r = false := by rw [← hr1]; simp; omega
      go_enter Tryz.func54, Tryz.ntmps54
      go_wp2
      go_ret
      exact ⟨rfl, HX⟩
  · have d0 : decide ((1 : Int) ≤ i) = false := by simp; omega
    obtain rfl : r = false := by rw [← hr1]; simp; omega
    go_enter Tryz.func54, Tryz.ntmps54
    go_wp2
    go_ret
    exact ⟨rfl, HX⟩
set_option maxHeartbeats 1600000 in
theorem index50_any (need : Int) (Cs : Option Addr) (cn cc : Nat) (Ks : Option Addr) (kn kc : Nat) (i : Int) (r : Bool) (hr : Hid (memB kn i = r)) (w : World) :
    Calls Tryz.prog 67 #[trV need Cs cn cc Ks kn kc, .int .i64 i] w fun e' w' => e' = .returned (.bool r) ∧ Below w.heap.size w w' := by
  have HX := below_box0 w (trO need Cs cn cc Ks kn kc)
  have hc : (w.alloc (trO need Cs cn cc Ks kn kc)).cell? ⟨w.heap.size, 0, none⟩ = some (.int .i64 need) ∧ (w.alloc (trO need Cs cn cc Ks kn kc)).cell? ⟨w.heap.size, 1, none⟩ = some (.slice Cs cn cc) ∧ (w.alloc (trO need Cs cn cc Ks kn kc)).cell? ⟨w.heap.size, 2, none⟩ = some (.slice Ks kn kc) := ⟨cell_blk (heap_alloc_new _ _) 0, cell_blk (heap_alloc_new _ _) 1, cell_blk (heap_alloc_new _ _) 2⟩
  obtain ⟨c0, c1, c2⟩ := hc
  have hr1 := hr.out
  unfold memB at hr1
  by_cases h0 : (1 : Int) ≤ i
  · have d0 : decide ((1 : Int) ≤ i) = true := by simp; omega
    by_cases h1 : i ≤ (kn : Int)
    · have d1 : decide (i ≤ (kn : Int)) = true := by simp; omega
      obtain rfl : r = true := by rw [← hr1]; simp; omega
      go_enter Tryz.func67, Tryz.ntmps67
      go_wp2
      go_ret
      exact ⟨rfl, HX⟩
    · have d1 : decide (i ≤ (kn : Int)) = false := by simp; omega
      obtain rfl : r = false := by rw [← hr1]; simp; omega
      go_enter Tryz.func67, Tryz.ntmps67
      go_wp2
      go_ret
      exact ⟨rfl, HX⟩
  · have d0 : decide ((1 : Int) ≤ i) = false := by simp; omega
    obtain rfl : r = false := by rw [← hr1]; simp; omega
    go_enter Tryz.func67, Tryz.ntmps67
    go_wp2
    go_ret
    exact ⟨rfl, HX⟩
set_option maxHeartbeats 1600000 in
theorem scalar_any (P Q G x : Int) (r : Bool) (hr : Hid (scB Q x = r)) (w : World) :
    Calls Tryz.prog 55 #[gv P Q G, .int .i64 x] w fun e' w' => e' = .returned (.bool r) ∧ Below w.heap.size w w' := by
  have HX := below_box0 w (gObj P Q G)
  have hc : (w.alloc (gObj P Q G)).cell? ⟨w.heap.size, 0, none⟩ = some (.int .i64 P) ∧ (w.alloc (gObj P Q G)).cell? ⟨w.heap.size, 1, none⟩ = some (.int .i64 Q) ∧ (w.alloc (gObj P Q G)).cell? ⟨w.heap.size, 2, none⟩ = some (.int .i64 G) := ⟨cell_blk (heap_alloc_new _ _) 0, cell_blk (heap_alloc_new _ _) 1, cell_blk (heap_alloc_new _ _) 2⟩
  obtain ⟨c0, c1, c2⟩ := hc
  have hr1 := hr.out
  unfold scB at hr1
  by_cases h0 : (0 : Int) ≤ x
  · have d0 : decide ((0 : Int) ≤ x) = true := by simp; omega
    by_cases h1 : x < Q
    · have d1 : decide (x < Q) = true := by simp; omega
      obtain rfl : r = true := by rw [← hr1]; simp; omega
      go_enter Tryz.func55, Tryz.ntmps55
      go_wp2
      go_ret
      exact ⟨rfl, HX⟩
    · have d1 : decide (x < Q) = false := by simp; omega
      obtain rfl : r = false := by rw [← hr1]; simp; omega
      go_enter Tryz.func55, Tryz.ntmps55
      go_wp2
      go_ret
      exact ⟨rfl, HX⟩
  · have d0 : decide ((0 : Int) ≤ x) = false := by simp; omega
    obtain rfl : r = false := by rw [← hr1]; simp; omega
    go_enter Tryz.func55, Tryz.ntmps55
    go_wp2
    go_ret
    exact ⟨rfl, HX⟩
set_option maxRecDepth 100000 in
theorem stz3 (P : Int) (Q : Int) (G : Int) (need : Int) (Cs : Option Addr) (cn : Nat) (cc : Nat) (Ks : Option Addr) (kn : Nat) (kc : Nat) (ix : Int) (v : Int) (w : World) : ∃ w0, Hid ((((w.alloc (gObj P Q G)).alloc (trO need Cs cn cc Ks kn kc)).alloc (shO ix v)) = w0) ∧ Hid (Below w.heap.size w w0) ∧ Hid (∀ u : World, Hid (Below w0.heap.size w0 u) → u.cell? ⟨w.heap.size, 0, none⟩ = some (.int .i64 P) ∧ u.cell? ⟨w.heap.size, 1, none⟩ = some (.int .i64 Q) ∧ u.cell? ⟨w.heap.size, 2, none⟩ = some (.int .i64 G) ∧ u.cell? ⟨w.heap.size + 1, 0, none⟩ = some (.int .i64 need) ∧ u.cell? ⟨w.heap.size + 1, 1, none⟩ = some (.slice Cs cn cc) ∧ u.cell? ⟨w.heap.size + 1, 2, none⟩ = some (.slice Ks kn kc) ∧ u.cell? ⟨w.heap.size + 2, 0, none⟩ = some (.int .i64 ix) ∧ u.cell? ⟨w.heap.size + 2, 1, none⟩ = some (.int .i64 v)) := by
  obtain ⟨w0, hW⟩ : ∃ W, (((w.alloc (gObj P Q G)).alloc (trO need Cs cn cc Ks kn kc)).alloc (shO ix v)) = W := ⟨_, rfl⟩
  have HBw : Hid (Below w.heap.size w w0) := Lib.hid (by rw [← hW]; exact (((Below.refl _ _).alloc (Nat.le_refl _) _).alloc (by simp) _).alloc (by simp; omega) _)
  have hc : w0.cell? ⟨w.heap.size, 0, none⟩ = some (.int .i64 P) ∧ w0.cell? ⟨w.heap.size, 1, none⟩ = some (.int .i64 Q) ∧ w0.cell? ⟨w.heap.size, 2, none⟩ = some (.int .i64 G) ∧ w0.cell? ⟨w.heap.size + 1, 0, none⟩ = some (.int .i64 need) ∧ w0.cell? ⟨w.heap.size + 1, 1, none⟩ = some (.slice Cs cn cc) ∧ w0.cell? ⟨w.heap.size + 1, 2, none⟩ = some (.slice Ks kn kc) ∧ w0.cell? ⟨w.heap.size + 2, 0, none⟩ = some (.int .i64 ix) ∧ w0.cell? ⟨w.heap.size + 2, 1, none⟩ = some (.int .i64 v) := by rw [← hW]; exact ⟨cell_below (cell_below (allocs_cell (by simp) (by rfl)) (below_box0 _ _)) (below_box0 _ _), cell_below (cell_below (allocs_cell (by simp) (by rfl)) (below_box0 _ _)) (below_box0 _ _), cell_below (cell_below (allocs_cell (by simp) (by rfl)) (below_box0 _ _)) (below_box0 _ _), cell_below (allocs_cell (by simp) (by rfl)) (below_box0 _ _), cell_below (allocs_cell (by simp) (by rfl)) (below_box0 _ _), cell_below (allocs_cell (by simp) (by rfl)) (below_box0 _ _), allocs_cell (by simp) (by rfl), allocs_cell (by simp) (by rfl)⟩
  have kC := Lib.hid (show ∀ u : World, Hid (Below w0.heap.size w0 u) → u.cell? ⟨w.heap.size, 0, none⟩ = some (.int .i64 P) ∧ u.cell? ⟨w.heap.size, 1, none⟩ = some (.int .i64 Q) ∧ u.cell? ⟨w.heap.size, 2, none⟩ = some (.int .i64 G) ∧ u.cell? ⟨w.heap.size + 1, 0, none⟩ = some (.int .i64 need) ∧ u.cell? ⟨w.heap.size + 1, 1, none⟩ = some (.slice Cs cn cc) ∧ u.cell? ⟨w.heap.size + 1, 2, none⟩ = some (.slice Ks kn kc) ∧ u.cell? ⟨w.heap.size + 2, 0, none⟩ = some (.int .i64 ix) ∧ u.cell? ⟨w.heap.size + 2, 1, none⟩ = some (.int .i64 v) from fun u h => ⟨cell_below hc.1 h.out, cell_below hc.2.1 h.out, cell_below hc.2.2.1 h.out, cell_below hc.2.2.2.1 h.out, cell_below hc.2.2.2.2.1 h.out, cell_below hc.2.2.2.2.2.1 h.out, cell_below hc.2.2.2.2.2.2.1 h.out, cell_below hc.2.2.2.2.2.2.2 h.out⟩)
  exact ⟨w0, Lib.hid hW, HBw, kC⟩
set_option maxHeartbeats 3200000 in
theorem right_1 (P Q G need : Int) (Cs : Option Addr) (cn cc : Nat) (Ks : Option Addr) (kn kc : Nat) (ix v : Int) (hm : Hid (memB kn ix = false)) (w : World) :
    Calls Tryz.prog 49 #[gv P Q G, trV need Cs cn cc Ks kn kc, shV ix v] w fun e' w' => e' = .returned (.bool false) ∧ Below w.heap.size w w' := by
  obtain ⟨w0, HW, HBw, kC⟩ := stz3 P Q G need Cs cn cc Ks kn kc ix v w
  have HB_0 : Hid (Below w0.heap.size w0 w0) := Lib.hid (Below.refl _ _)
  go_enter Tryz.func49, Tryz.ntmps49
  go_wp2_with fail
  rw [HW.out]
  obtain ⟨zc0, zc1, zc2, zc3, zc4, zc5, zc6, zc7⟩ := kC.out _ HB_0
  go_wp2_with fail
  refine (member_any need Cs cn cc Ks kn kc ix false hm _).mono ?_
  rintro e w1 ⟨rfl, hb0⟩
  have HB_1 := Lib.hid (below_ext HB_0.out hb0)
  clear zc0 zc1 zc2 zc3 zc4 zc5 zc6 zc7
  clear hb0
  obtain ⟨zc0, zc1, zc2, zc3, zc4, zc5, zc6, zc7⟩ := kC.out _ HB_1
  have hbF := below_ext HBw.out HB_1.out
  go_wp2
  go_ret
  exact ⟨rfl, hbF⟩
set_option maxHeartbeats 3200000 in
theorem right_2 (P Q G need : Int) (Cs : Option Addr) (cn cc : Nat) (Ks : Option Addr) (kn kc : Nat) (ix v : Int) (hm : Hid (memB kn ix = true)) (hsc : Hid (scB Q v = false)) (w : World) :
    Calls Tryz.prog 49 #[gv P Q G, trV need Cs cn cc Ks kn kc, shV ix v] w fun e' w' => e' = .returned (.bool false) ∧ Below w.heap.size w w' := by
  obtain ⟨w0, HW, HBw, kC⟩ := stz3 P Q G need Cs cn cc Ks kn kc ix v w
  have HB_0 : Hid (Below w0.heap.size w0 w0) := Lib.hid (Below.refl _ _)
  go_enter Tryz.func49, Tryz.ntmps49
  go_wp2_with fail
  rw [HW.out]
  obtain ⟨zc0, zc1, zc2, zc3, zc4, zc5, zc6, zc7⟩ := kC.out _ HB_0
  go_wp2_with fail
  refine (member_any need Cs cn cc Ks kn kc ix true hm _).mono ?_
  rintro e w1 ⟨rfl, hb0⟩
  have HB_1 := Lib.hid (below_ext HB_0.out hb0)
  clear zc0 zc1 zc2 zc3 zc4 zc5 zc6 zc7
  clear hb0
  obtain ⟨zc0, zc1, zc2, zc3, zc4, zc5, zc6, zc7⟩ := kC.out _ HB_1
  go_wp2_with fail
  refine (scalar_any P Q G v false hsc _).mono ?_
  rintro e w2 ⟨rfl, hb0⟩
  have HB_2 := Lib.hid (below_ext HB_1.out hb0)
  clear zc0 zc1 zc2 zc3 zc4 zc5 zc6 zc7
  clear hb0
  obtain ⟨zc0, zc1, zc2, zc3, zc4, zc5, zc6, zc7⟩ := kC.out _ HB_2
  have hbF := below_ext HBw.out HB_2.out
  go_wp2
  go_ret
  exact ⟨rfl, hbF⟩
set_option maxHeartbeats 6400000 in
theorem right_3 (P Q G need : Int) (Cs : Option Addr) (cn cc : Nat) (bK oK : Nat) (ks : List Int) (kn kc : Nat) (m : Nat) (hmk : m < kn) (v : Int) (hkn : Hid (ks.length = kn)) (hkb : kn ≤ 8) (hm : Hid (memB kn ((m : Int) + 1) = true)) (hsc : Hid (scB Q v = true)) (HVG : Hid (validG P Q G = true)) (a y : Int) (ha : Hid (pw G (v % Q) P = a)) (hy : Hid (ks.getD m 0 = y)) (b : Bool) (hb : (a == y) = b) (w : World) (hv : Hid (Vars w)) (hK : Hid (Sl w (some ⟨bK, oK, none⟩) ks)) :
    Calls Tryz.prog 49 #[gv P Q G, trV need Cs cn cc (some ⟨bK, oK, none⟩) kn kc, shV ((m : Int) + 1) v] w fun e' w' => e' = .returned (.bool b) ∧ Below w.heap.size w w' := by
  obtain ⟨p1, p2, p3, p4⟩ := validG_P HVG.out
  have v0 := scB_lo hsc.out
  have v1 := scB_hi hsc.out
  obtain ⟨dj, dj1, dj2, dj3, dj4⟩ := dj_facts hmk hkb
  have hml : m < ks.length := by rw [hkn.out]; exact hmk
  have ck : Hid (chkG P Q G [G] = 0) := Lib.hid (chkG_ok HVG.out (by simp [gen_mem50 HVG.out]))
  obtain ⟨w0, hW⟩ : ∃ W, (((w.alloc (gObj P Q G)).alloc (trO need Cs cn cc (some ⟨bK, oK, none⟩) kn kc)).alloc (shO ((m : Int) + 1) v)) = W := ⟨_, rfl⟩
  have HBw : Hid (Below w.heap.size w w0) := Lib.hid (by rw [← hW]; exact (((Below.refl _ _).alloc (Nat.le_refl _) _).alloc (by simp) _).alloc (by simp; omega) _)
  have hc : w0.cell? ⟨w.heap.size, 0, none⟩ = some (.int .i64 P) ∧ w0.cell? ⟨w.heap.size, 1, none⟩ = some (.int .i64 Q) ∧ w0.cell? ⟨w.heap.size, 2, none⟩ = some (.int .i64 G) ∧ w0.cell? ⟨w.heap.size + 1, 0, none⟩ = some (.int .i64 need) ∧ w0.cell? ⟨w.heap.size + 1, 1, none⟩ = some (.slice Cs cn cc) ∧ w0.cell? ⟨w.heap.size + 1, 2, none⟩ = some (.slice (some ⟨bK, oK, none⟩) kn kc) ∧ w0.cell? ⟨w.heap.size + 2, 0, none⟩ = some (.int .i64 ((m : Int) + 1)) ∧ w0.cell? ⟨w.heap.size + 2, 1, none⟩ = some (.int .i64 v) := by rw [← hW]; exact ⟨cell_below (cell_below (allocs_cell (by simp) (by rfl)) (below_box0 _ _)) (below_box0 _ _), cell_below (cell_below (allocs_cell (by simp) (by rfl)) (below_box0 _ _)) (below_box0 _ _), cell_below (cell_below (allocs_cell (by simp) (by rfl)) (below_box0 _ _)) (below_box0 _ _), cell_below (allocs_cell (by simp) (by rfl)) (below_box0 _ _), cell_below (allocs_cell (by simp) (by rfl)) (below_box0 _ _), cell_below (allocs_cell (by simp) (by rfl)) (below_box0 _ _), allocs_cell (by simp) (by rfl), allocs_cell (by simp) (by rfl)⟩
  have kC := Lib.hid (show ∀ u : World, Hid (Below w0.heap.size w0 u) → u.cell? ⟨w.heap.size, 0, none⟩ = some (.int .i64 P) ∧ u.cell? ⟨w.heap.size, 1, none⟩ = some (.int .i64 Q) ∧ u.cell? ⟨w.heap.size, 2, none⟩ = some (.int .i64 G) ∧ u.cell? ⟨w.heap.size + 1, 0, none⟩ = some (.int .i64 need) ∧ u.cell? ⟨w.heap.size + 1, 1, none⟩ = some (.slice Cs cn cc) ∧ u.cell? ⟨w.heap.size + 1, 2, none⟩ = some (.slice (some ⟨bK, oK, none⟩) kn kc) ∧ u.cell? ⟨w.heap.size + 2, 0, none⟩ = some (.int .i64 ((m : Int) + 1)) ∧ u.cell? ⟨w.heap.size + 2, 1, none⟩ = some (.int .i64 v) from fun u h => ⟨cell_below hc.1 h.out, cell_below hc.2.1 h.out, cell_below hc.2.2.1 h.out, cell_below hc.2.2.2.1 h.out, cell_below hc.2.2.2.2.1 h.out, cell_below hc.2.2.2.2.2.1 h.out, cell_below hc.2.2.2.2.2.2.1 h.out, cell_below hc.2.2.2.2.2.2.2 h.out⟩)
  have kV := Lib.hid (show ∀ u : World, Hid (Below w0.heap.size w0 u) → Hid (Vars u) from fun u h => Lib.hid ((hv.out.below) (below_ext HBw.out h.out)))
  have kKs := Lib.hid (show ∀ u : World, Hid (Below w0.heap.size w0 u) → Hid (Sl u (some ⟨bK, oK, none⟩) ks) from fun u h => Lib.hid ((hK.out.below) (below_ext HBw.out h.out)))
  have HB_0 : Hid (Below w0.heap.size w0 w0) := Lib.hid (Below.refl _ _)
  have HW := Lib.hid hW
  clear hW hc hv hK
  have kI := Lib.hid (show ∀ u : World, Hid (Below w0.heap.size w0 u) → u.cell? ⟨bK, oK + m, none⟩ = some (.int .i64 y) from fun u h => by
    obtain ⟨b9, o9, hA, hi⟩ := (kKs.out u h).out m hml
    cases hA
    rwa [hy.out] at hi)
  go_enter Tryz.func49, Tryz.ntmps49
  go_wp2_with fail
  rw [HW.out]
  obtain ⟨zc0, zc1, zc2, zc3, zc4, zc5, zc6, zc7⟩ := kC.out _ HB_0
  have kI_0 := kI.out _ HB_0
  go_wp2_with fail
  refine (member_any need Cs cn cc (some ⟨bK, oK, none⟩) kn kc ((m : Int) + 1) true hm _).mono ?_
  rintro e w1 ⟨rfl, hb0⟩
  have HB_1 := Lib.hid (below_ext HB_0.out hb0)
  clear zc0 zc1 zc2 zc3 zc4 zc5 zc6 zc7 kI_0
  clear hb0
  obtain ⟨zc0, zc1, zc2, zc3, zc4, zc5, zc6, zc7⟩ := kC.out _ HB_1
  have kI_0 := kI.out _ HB_1
  go_wp2_with fail
  refine (scalar_any P Q G v true hsc _).mono ?_
  rintro e w2 ⟨rfl, hb0⟩
  have HB_2 := Lib.hid (below_ext HB_1.out hb0)
  clear zc0 zc1 zc2 zc3 zc4 zc5 zc6 zc7 kI_0
  clear hb0
  obtain ⟨zc0, zc1, zc2, zc3, zc4, zc5, zc6, zc7⟩ := kC.out _ HB_2
  have kI_0 := kI.out _ HB_2
  go_wp2_with fail
  refine (gpow_ok P Q G G v a ck ha (by omega) (by omega) _ (kV.out _ HB_2)).mono ?_
  rintro e w3 ⟨rfl, hb0⟩
  have HB_3 := Lib.hid (below_ext HB_2.out hb0)
  clear zc0 zc1 zc2 zc3 zc4 zc5 zc6 zc7 kI_0
  clear hb0
  obtain ⟨zc0, zc1, zc2, zc3, zc4, zc5, zc6, zc7⟩ := kC.out _ HB_3
  have kI_0 := kI.out _ HB_3
  have hbF := below_ext HBw.out HB_3.out
  go_wp2
  go_ret
  exact ⟨by first | rfl | rw [hb] | simp [hb], hbF⟩
theorem right_any (P Q G need : Int) (Cs : Option Addr) (cn cc : Nat) (Ks : Option Addr) (ks : List Int) (kn kc : Nat) (ix v : Int) (hkn : Hid (ks.length = kn)) (hkb : kn ≤ 8) (HVG : Hid (validG P Q G = true)) (r : Bool) (hr : Hid (rgtB P Q G ks ix v = r)) (w : World) (hv : Hid (Vars w)) (hK : Hid (Sl w Ks ks)) :
    Calls Tryz.prog 49 #[gv P Q G, trV need Cs cn cc Ks kn kc, shV ix v] w fun e' w' => e' = .returned (.bool r) ∧ Below w.heap.size w w' := by
  have hr1 := hr.out
  unfold rgtB at hr1
  rw [hkn.out] at hr1
  cases h1 : memB kn ix with
  | false =>
    obtain rfl : r = false := by rw [← hr1, h1]; rfl
    exact right_1 P Q G need Cs cn cc Ks kn kc ix v (Lib.hid h1) w
  | true =>
    cases h2 : scB Q v with
    | false =>
      obtain rfl : r = false := by rw [← hr1, h1, h2]; rfl
      exact right_2 P Q G need Cs cn cc Ks kn kc ix v (Lib.hid h1) (Lib.hid h2) w
    | true =>
      obtain ⟨m, hmk, rfl⟩ := memB_parts h1
      obtain ⟨bK, oK, rfl⟩ := sl_some hK.out (by rw [hkn.out]; omega)
      exact right_3 P Q G need Cs cn cc bK oK ks kn kc m hmk v hkn hkb (Lib.hid h1) (Lib.hid h2) HVG _ _ (Lib.hid rfl) (Lib.hid rfl) r (by rw [← hr1, h1, h2, show ((m : Int) + 1 - 1).toNat = m by omega]; rfl) w hv hK
end Go.Proofs.YtjnoaejikapmdaaGreatDoor
namespace Go.Proofs.YtjnoaejikapmdaaGreatDoor
open Go
section
variable {P : Program} {ops : Array Oper} {Q : Exit → Act → World → Prop} {md : Region.Mode} {S : World → Prop} {E : List Nat}
theorem wpT_frame {fuel : Nat} {listed : Array Bool} {a : Act} {w : World} (h : ∀ (T : Nat → Array Bool → Act → World → Prop) (a0 : Act), T = wpT P md ops Q S E → a0 = a → T fuel listed a0 w) : wpT P md ops Q S E fuel listed a w := h _ _ rfl rfl
end
end Go.Proofs.YtjnoaejikapmdaaGreatDoor
namespace Go.Proofs.YtjnoaejikapmdaaGreatDoor
open Go.RowKit SpM
set_option linter.unusedVariables false
set_option linter.unusedSimpArgs false
set_option maxRecDepth 100000
def pz (N : Nat) (l : List Int) : List Int := l ++ zer (N - l.length)
theorem pz_len {N : Nat} {l : List Int} (h : l.length ≤ N) : (pz N l).length = N := by simp [pz, zer]; omega
theorem pz_set {N : Nat} {l : List Int} {x : Int} (h : l.length < N) : (pz N l).set l.length x = pz N (l ++ [x]) := by
  obtain ⟨m, hm⟩ : ∃ m, N - l.length = m + 1 := ⟨N - l.length - 1, by omega⟩
  have hm2 : N - (l ++ [x]).length = m := by rw [List.length_append, List.length_singleton]; omega
  rw [pz, pz, hm, hm2, zer, List.replicate_succ, List.set_append_right _ _ (Nat.le_refl _), Nat.sub_self, List.set_cons_zero]
  simp [zer]
theorem pz_full {N : Nat} {l : List Int} (h : l.length = N) : pz N l = l := by simp [pz, zer, h]
theorem pz_step {N k : Nat} {l : List Int} (h : k < l.length) (h2 : k < N) : (pz N (l.take k)).set k (l.getD k 0) = pz N (l.take (k + 1)) := by
  have e := pz_set (N := N) (l := l.take k) (x := l.getD k 0) (by rw [List.length_take]; omega)
  rw [List.length_take, Nat.min_eq_left (by omega)] at e
  rw [e, take_one h]
theorem zarrb : (#[.int .u8 0, .int .u8 0, .int .u8 0, .int .u8 0, .int .u8 0, .int .u8 0, .int .u8 0, .int .u8 0] : Array Value) = arr .u8 (zer 8) := rfl
theorem be8_get (n : Int) : ∀ k : Nat, k < 8 → (be8 n).getD k 0 = n / 2 ^ (56 - 8 * k) % 256
  | 0, _ => rfl
  | 1, _ => rfl
  | 2, _ => rfl
  | 3, _ => rfl
  | 4, _ => rfl
  | 5, _ => rfl
  | 6, _ => rfl
  | 7, _ => by simp [be8]
  | k + 8, h => absurd h (by omega)
set_option maxHeartbeats 1600000 in
theorem count_any (n : Int) (w : World) :
    Calls Tryz.prog 297 #[.int .u64 n] w fun e w' => e = .returned (.slice (some ⟨w.heap.size, 0, none⟩) 8 8) ∧ Blk .u8 5 w' w.heap.size (be8 n) ∧ Below w.heap.size w w' := by
  obtain ⟨W, hW⟩ : ∃ W, w.alloc (.cells #[.int .u8 0, .int .u8 0, .int .u8 0, .int .u8 0, .int .u8 0, .int .u8 0, .int .u8 0, .int .u8 0] 5) = W := ⟨_, rfl⟩
  have HBX : Hid (Below w.heap.size w W) := Lib.hid (by rw [← hW]; exact below_box0 _ _)
  have HB0 : Hid (Blk .u8 5 W w.heap.size (pz 8 ((be8 n).take 0))) := Lib.hid (by
    rw [← hW, zarrb]
    exact Blk.new _ _)
  have hmk : ∀ w, (Instr.makeSlice 145 (.int .i64 8) (.int .i64 8)).run Tryz.prog w = .ok (.slice (some ⟨w.heap.size, 0, none⟩) 8 8) (w.alloc (.cells #[.int .u8 0, .int .u8 0, .int .u8 0, .int .u8 0, .int .u8 0, .int .u8 0, .int .u8 0, .int .u8 0] 5)) := fun _ => by kernel_rfl
  have HW := Lib.hid hW
  clear hW
  go_enter Tryz.func297, Tryz.ntmps297
  go_wp2
  rw [HW.out]
  clear HW hmk
  go_loopw [8] (fun i u => ∃ k : Nat, k ≤ 8 ∧ i = .int .i64 k ∧ Hid (Blk .u8 5 u w.heap.size (pz 8 ((be8 n).take k))) ∧ Hid (Below w.heap.size w u)) (fun i _ => 8 - (intOf i).toNat)
  case atStart => exact ⟨0, by omega, rfl, HB0, HBX⟩
  case round =>
    obtain ⟨k, hk, rfl, HB, HBr⟩ := hrel
    by_cases hlt : k < 8
    · have hc := HB.out.cell (j := k) (by rw [pz_len (by rw [List.length_take, be8_len]; omega)]; exact hlt)
      have hf := HB.out.free k
      have hst := pz_step (N := 8) (k := k) (l := be8 n) hlt hlt
      rw [be8_get n k hlt] at hst
      obtain ⟨q, hq⟩ : ∃ q, n / 2 ^ (56 - 8 * k) = q := ⟨_, rfl⟩
      rw [hq] at hst
      have j0 : (0 : Int) ≤ 56 - 8 * k := by omega
      have j1 : (56 - 8 * (k : Int)).toNat = 56 - 8 * k := by omega
      have HB2 : Hid (Blk .u8 5 (wr.setCell ⟨w.heap.size, k, none⟩ (.int .u8 (q % 256))) w.heap.size (pz 8 ((be8 n).take (k + 1)))) := Lib.hid (by
        rw [← hst]
        exact HB.out.set)
      have HBr2 : Hid (Below w.heap.size w (wr.setCell ⟨w.heap.size, k, none⟩ (.int .u8 (q % 256)))) := Lib.hid (HBr.out.setCell (Nat.le_refl _) _)
      clear hst HB HBr
      go_wp2
      try go_region
      try (rw [hq])
      go_wp2
      go_roundw
      case rel => exact ⟨k + 1, by omega, by go_num, HB2, HBr2⟩
      case measure => simp [intOf]; omega
    · have HBf : Hid (Blk .u8 5 wr w.heap.size (be8 n)) := Lib.hid (by
        have h := HB.out
        rwa [show k = (be8 n).length by rw [be8_len]; omega, List.take_length, pz_full (be8_len n)] at h)
      clear HB
      go_wp2
      go_ret
      exact ⟨rfl, HBf.out, HBr.out⟩
theorem add_off (b o i : Nat) : (⟨b, o, none⟩ : Addr).add i = ⟨b, o + i, none⟩ := by unfold Addr.add; split <;> simp_all
theorem Sk.news {K : IntKind} {w : World} {b o : Nat} {l : List Int} (h : Sk K w (some ⟨b, o, none⟩) l) : ∀ j u, (l.map (Value.int K))[j]? = some u → w.cell? ((⟨b, o, none⟩ : Addr).add j) = some u := fun j u hj => by
  rw [List.getElem?_map] at hj
  by_cases hl : j < l.length
  · rw [List.getElem?_eq_getElem hl] at hj
    rw [add_off, h.cell hl, List.getD_eq_getElem?_getD, List.getElem?_eq_getElem hl]
    exact hj
  · rw [List.getElem?_eq_none (by omega)] at hj; cases hj
theorem Sk.at_add {K : IntKind} {w : World} {b o n : Nat} {l : List Int} (h : Sk K w (some ⟨b, o, none⟩) l) (hn : l.length = n) : ∀ i, i < n → w.cell? ((⟨b, o, none⟩ : Addr).add i) = some (.int K (l.getD i 0)) := fun i hi => by
  rw [add_off]; exact h.cell (by omega)
theorem Sk.setRow_ne {K : IntKind} {w : World} {a : Nat} {A : Option Addr} {l : List Int} {cs : Array Value} (h : Sk K w A l) (hne : ∀ b o, A = some ⟨b, o, none⟩ → b ≠ a) : Sk K (w.setRow a cs) A l := fun j hj => by
  obtain ⟨b, o, e, hc⟩ := h j hj
  exact ⟨b, o, e, by rw [cell_setRow_other _ _ _ _ (hne b o e)]; exact hc⟩
theorem byteInfo : (Tryz.prog.info? 5).map (fun i => (i.zero, i.size, i.bytes)) = some (some (.int .u8 0), 1, 1) := by kernel_rfl
theorem infoH : (Tryz.prog.info? 41).map (·.size) = some 32 := by kernel_rfl
theorem hash_info {l : List Int} (h : l.length = 32) : (Tryz.prog.info? 41).map (·.size) = some (arr .u8 l).size := infoH.trans (congrArg some (by rw [arr_size, h]))
theorem arrs_sz {l m : List Int} (h : l.length = 32) (h2 : m.length = 32) : (arr .u8 l).size = (arr .u8 m).size := by rw [arr_size, arr_size, h, h2]
theorem zarrh : (#[.int .u8 0, .int .u8 0, .int .u8 0, .int .u8 0, .int .u8 0, .int .u8 0, .int .u8 0, .int .u8 0, .int .u8 0, .int .u8 0, .int .u8 0, .int .u8 0, .int .u8 0, .int .u8 0, .int .u8 0, .int .u8 0, .int .u8 0, .int .u8 0, .int .u8 0, .int .u8 0, .int .u8 0, .int .u8 0, .int .u8 0, .int .u8 0, .int .u8 0, .int .u8 0, .int .u8 0, .int .u8 0, .int .u8 0, .int .u8 0, .int .u8 0, .int .u8 0] : Array Value) = arr .u8 (zer 32) := rfl
theorem out_get (s : St) : ∀ k : Nat, k < 8 → ∀ m : Nat, m < 4 → (outL s).getD (4 * k + m) 0 = s.list.getD k 0 / 2 ^ (24 - 8 * m) % 256 := by
  intro k hk m hm
  obtain ⟨a, b, c, d, e, f, g, h⟩ := s
  rcases (show k = 0 ∨ k = 1 ∨ k = 2 ∨ k = 3 ∨ k = 4 ∨ k = 5 ∨ k = 6 ∨ k = 7 by omega) with rfl | rfl | rfl | rfl | rfl | rfl | rfl | rfl <;>
  rcases (show m = 0 ∨ m = 1 ∨ m = 2 ∨ m = 3 by omega) with rfl | rfl | rfl | rfl <;>
  simp [outL, out4, St.list]
theorem outL_len (s : St) : (outL s).length = 32 := rfl
def lenOf : Value → Nat
  | .slice _ n _ => n
  | _ => 0
theorem rep_succ (m : Nat) : List.replicate (m + 1) (0 : Int) = List.replicate m 0 ++ [0] := List.replicate_succ' ..
theorem mix_lit (xa xb xc xd xe xf xg xh : Int) (b o cap : Nat) (blk : List Int) (hlen : Hid (blk.length = 64)) (hby : Hid (bytesB blk = true)) (w : World) (hs : Hid (Sk .u8 w (some ⟨b, o, none⟩) blk)) (hcap : 64 ≤ cap) (hcm : cap ≤ 9223372036854775807) (hv : Hid (VarsD w)) :
    Calls Tryz.prog 298 #[.agg #[.int .u32 xa, .int .u32 xb, .int .u32 xc, .int .u32 xd, .int .u32 xe, .int .u32 xf, .int .u32 xg, .int .u32 xh], .slice (some ⟨b, o, none⟩) 64 cap] w fun e w' => e = .returned (.agg (arr .u32 (mixS ⟨xa, xb, xc, xd, xe, xf, xg, xh⟩ blk).list)) ∧ Below w.heap.size w w' := by
  rw [arr8]
  exact mix_any ⟨xa, xb, xc, xd, xe, xf, xg, xh⟩ b o cap blk hlen hby w hs hcap hcm hv
set_option maxHeartbeats 3200000 in
theorem sum_any (b o c : Nat) (l : List Int) (n : Nat) (hn : Hid (l.length = n)) (hbig : n ≤ 1000000) (hby : Hid (bytesB l = true)) (w : World) (hs : Hid (Sk .u8 w (some ⟨b, o, none⟩) l)) (hv : Hid (VarsD w)) :
    Calls Tryz.prog 265 #[.slice (some ⟨b, o, none⟩) n c] w fun e w' => e = .returned (.agg (arr .u8 (sha l))) ∧ Below w.heap.size w w' := by
  obtain ⟨i0, hi, hz0, hz1, hz2⟩ := info_parts byteInfo
  obtain ⟨W, hW⟩ : ∃ W, w.alloc (.cells #[.int .u8 0, .int .u8 0, .int .u8 0, .int .u8 0, .int .u8 0, .int .u8 0, .int .u8 0, .int .u8 0, .int .u8 0, .int .u8 0, .int .u8 0, .int .u8 0, .int .u8 0, .int .u8 0, .int .u8 0, .int .u8 0, .int .u8 0, .int .u8 0, .int .u8 0, .int .u8 0, .int .u8 0, .int .u8 0, .int .u8 0, .int .u8 0, .int .u8 0, .int .u8 0, .int .u8 0, .int .u8 0, .int .u8 0, .int .u8 0, .int .u8 0, .int .u8 0] 41) = W := ⟨_, rfl⟩
  have HBX : Hid (Below w.heap.size w W) := Lib.hid (by rw [← hW]; exact below_box0 _ _)
  have HR0 : Hid (Blk .u8 41 W w.heap.size (zer 32)) := Lib.hid (by
    rw [← hW, zarrh]
    exact Blk.new _ _)
  have HSZ : Hid (W.heap.size = w.heap.size + 1) := Lib.hid (by rw [← hW]; simp)
  have HS := Lib.hid (hs.out.below HBX.out)
  have HV := Lib.hid (hv.out.below HBX.out)
  have HW := Lib.hid hW
  clear hW hs hv
  go_enter Tryz.func265, Tryz.ntmps265
  go_wp2_with fail
  rw [HW.out]
  refine (Tryz.bytes_Clone_at ⟨b, o, none⟩ n c l _ hn.out (by omega) (HS.out.at_add hn.out)).mono ?_
  rintro e w1 ⟨v1, rfl, ho1, hne1, hb1⟩
  have HO1 : Hid (OwnK .u8 5 w1 W.heap.size v1 l) := Lib.hid (by unfold OwnK; rw [hn.out]; exact ho1)
  have HB1 := hb1
  have HBx1 := Lib.hid hb1
  have hbs := hb1.size
  clear HW hne1 HB1 hb1
  have hown := HO1.out.row hn.out
  clear ho1
  go_wp2_with (at_builtin; refine wpList_append_own _ rfl _ _ 145 rfl W.heap.size 5 i0 (.int .u8 0) 1 1 Tryz.underlying145 hi hz0 hz1 hz2 rfl (by decide) _ _ _ rfl (hown.alloc _) ⟨w1.heap.size, 0, none⟩ 1 1 [.int .u8 128] rfl rfl (cell_one_new _ _ _) (ints_oneCell .u8 [128]) (by unfold maxLen; omega) (by omega) (by simp; omega) ?_; intro v2 w2 hown2 hgrow2 _)
  have HO2 : Hid (OwnK .u8 5 w2 W.heap.size v2 (l ++ [128])) := Lib.hid (OwnK.app hn.out.symm rfl hown2)
  have HBx2 : Hid (Below W.heap.size W w2) := Lib.hid (HO1.out.below HBx1.out hbs hgrow2)
  clear hown hown2 hgrow2 HO1 hbs HBx1
  obtain ⟨A2, c2, e2, _⟩ := HO2.out.sk
  rw [List.length_append, hn.out, List.length_singleton] at e2
  subst e2
  go_loopw [3] (fun p u => ∃ (N : Nat) (A : Option Addr) (cap : Nat), n + 1 ≤ N ∧ N ≤ n + 1 + padZ n ∧ p = .slice A N cap ∧ Hid (OwnK .u8 5 u W.heap.size p (l ++ [128] ++ List.replicate (N - n - 1) 0)) ∧ Hid (Below W.heap.size W u)) (fun p _ => n + 65 - lenOf p)
  case atStart => exact ⟨n + 1, A2, c2, Nat.le_refl _, by omega, rfl, Lib.hid (by rw [show n + 1 - n - 1 = 0 by omega]; simpa using HO2.out), HBx2⟩
  case round =>
    obtain ⟨N, A, cap, hN0, hN1, rfl, HO, HBr⟩ := hrel
    have hpz : padZ n < 64 := by unfold padZ; omega
    have hll : (l ++ [128] ++ List.replicate (N - n - 1) 0).length = N := by simp [hn.out]; omega
    by_cases hend : N % 64 = 56
    · have HN : Hid (N = n + 1 + padZ n) := Lib.hid (by unfold padZ at hN1 hpz ⊢; omega)
      have t1 : ((N : Int) % 64 == 56) = true := by simp; omega
      have t2 : ((N : Int) % 64 != 56) = false := by simp; omega
      clear hend
      go_wp2_with fail
      refine (count_any _ _).mono ?_
      rintro e w3 ⟨rfl, hbl, hb3⟩
      have HO3 := Lib.hid (HO.out.keep hb3)
      have HBx3 := Lib.hid (HBr.out.trans (hb3.mono HBr.out.size))
      have HBL := Lib.hid hbl
      have hbs := HBx3.out.size
      have hown := HO3.out.row hll
      have HLL := Lib.hid hll
      clear hbl hb3 HO HBr hll
      go_upto_region 5 with (at_builtin; refine wpList_append_own _ rfl _ _ 145 rfl W.heap.size 5 i0 (.int .u8 0) 1 1 Tryz.underlying145 hi hz0 hz1 hz2 rfl (by decide) _ _ _ rfl hown ⟨wr.heap.size, 0, none⟩ 8 8 ((be8 (8 * (n : Int))).map (.int .u8)) rfl rfl (HBL.out.sk.news) (ints_oneCell .u8 (be8 (8 * (n : Int)))) (by unfold maxLen padZ at *; omega) (by unfold padZ at *; omega) (by omega) ?_; intro v4 w4 hown2 hgrow2 _)
      have HO4 : Hid (OwnK .u8 5 w4 W.heap.size v4 (padL l)) := Lib.hid (by
        have h := OwnK.app (ys := be8 (8 * (n : Int))) HLL.out.symm rfl hown2
        have e : l ++ [128] ++ List.replicate (N - n - 1) 0 ++ be8 (8 * (n : Int)) = padL l := by
          rw [padL, hn.out, show N - n - 1 = padZ n by have := HN.out; omega]
        rwa [e] at h)
      have HBx4 : Hid (Below W.heap.size W w4) := Lib.hid (HO3.out.below0 HBx3.out hbs hgrow2)
      clear hown hown2 hgrow2 HO3 HBL HBx3 hbs
      obtain ⟨M, hM⟩ : ∃ M, (padL l).length = 64 * M := ⟨(padL l).length / 64, by have := padL_mod l; omega⟩
      have hM1 : 1 ≤ M := by rw [padL_len] at hM; omega
      have hM2 : 64 * M ≤ n + 200 := by rw [padL_len, hn.out, padZ] at hM; omega
      obtain ⟨g4, cap4, e4, hg4, hcap, hcapm, hsk4⟩ := HO4.out.cells (by omega)
      rw [hM] at e4 hcap
      obtain ⟨P, hP⟩ : ∃ P, padL l = P := ⟨_, rfl⟩
      have hPb : bytesB P = true := by rw [← hP]; exact padL_bytes hby.out
      rw [hP] at hsk4 hM HO4
      have HP : Kp (padL l = P) := ⟨hP⟩
      have HM := Lib.hid hM
      have HPB := Lib.hid hPb
      have HSK := Lib.hid hsk4
      have hcm : cap4 ≤ 9223372036854775807 := by simpa [maxLen] using hcapm
      have hg4l : g4 < w4.heap.size := hsk4.lt (by omega)
      subst e4
      clear hP hM hPb hsk4 hcapm HO4 HLL t1 t2
      have HV4 := Lib.hid (HV.out.below HBx4.out)
      obtain ⟨s0, s1, s2, s3, s4, s5, s6, s7⟩ : w4.cell? ⟨4, 0, none⟩ = some (.int .u32 1779033703) ∧ w4.cell? ⟨4, 1, none⟩ = some (.int .u32 3144134277) ∧ w4.cell? ⟨4, 2, none⟩ = some (.int .u32 1013904242) ∧ w4.cell? ⟨4, 3, none⟩ = some (.int .u32 2773480762) ∧ w4.cell? ⟨4, 4, none⟩ = some (.int .u32 1359893119) ∧ w4.cell? ⟨4, 5, none⟩ = some (.int .u32 2600822924) ∧ w4.cell? ⟨4, 6, none⟩ = some (.int .u32 528734635) ∧ w4.cell? ⟨4, 7, none⟩ = some (.int .u32 1541459225) :=
        ⟨HV4.out.2 0 (by decide), HV4.out.2 1 (by decide), HV4.out.2 2 (by decide), HV4.out.2 3 (by decide), HV4.out.2 4 (by decide), HV4.out.2 5 (by decide), HV4.out.2 6 (by decide), HV4.out.2 7 (by decide)⟩
      go_wp2_with ((with_reducible show wpList _ _ _ (⟨none, _, _, _, _, _⟩ :: _) _ _); refine wpList_store_row rfl 306 _ _ rfl w4.heap.size (arr .u32 st0.list) rfl rfl _ _ (heap_alloc_new _ _) (list8_info st0) rfl (arr_one _) ?_)
      clear s0 s1 s2 s3 s4 s5 s6 s7
      rw [World.setRow_alloc_new]
      simp only [Act.put]
      have HBx5 : Hid (Below W.heap.size W (w4.alloc (.cells (arr .u32 st0.list) 306))) := Lib.hid (HBx4.out.alloc HBx4.out.size _)
      have HST5 : Hid (Blk .u32 306 (w4.alloc (.cells (arr .u32 st0.list) 306)) w4.heap.size (shaSt P 0).list) := Lib.hid (Blk.new _ _)
      have HSK5 : Hid (Sk .u8 (w4.alloc (.cells (arr .u32 st0.list) 306)) (some ⟨g4, 0, none⟩) (P.drop (64 * 0))) := Lib.hid (by
        rw [Nat.mul_zero, List.drop_zero]
        exact HSK.out.below (below_box0 _ _))
      have hbs4 := HBx4.out.size
      obtain ⟨W5, hW5⟩ : ∃ u, w4.alloc (.cells (arr .u32 st0.list) 306) = u := ⟨_, rfl⟩
      rw [hW5] at HBx5 HST5 HSK5 ⊢
      clear hW5 HSK HBx4 HV4
      go_loopw [3] (fun p u => ∃ (k R off cp : Nat), k ≤ M ∧ Hid (64 * k + R = 64 * M) ∧ p = .slice (some ⟨g4, off, none⟩) R cp ∧ R ≤ cp ∧ cp ≤ 9223372036854775807 ∧ Hid (Sk .u8 u (some ⟨g4, off, none⟩) (P.drop (64 * k))) ∧ Hid (Blk .u32 306 u w4.heap.size (shaSt P k).list) ∧ Hid (Below W.heap.size W u)) (fun p _ => lenOf p)
      case atStart => exact ⟨0, 64 * M, 0, cap4, by omega, Lib.hid (by omega), rfl, hcap, hcm, HSK5, HST5, HBx5⟩
      case round =>
        obtain ⟨k, R, off, cp, hk, HR, rfl, hRc, hcp, HSr, HSt, HBr⟩ := hrel
        by_cases hR0 : 0 < R
        · have hR64 : 64 ≤ R := by have := HR.out; omega
          have hc64 : (64 : Int) ≤ (cp : Int) := by omega
          have hkM : k < M := by have := HR.out; omega
          have HBLK : Hid ((blockOf P k).length = 64) := Lib.hid (blockOf_len (by have := HM.out; omega))
          have HBB : Hid (bytesB (blockOf P k) = true) := Lib.hid (blockOf_bytes HPB.out k)
          obtain ⟨⟨xa, xb, xc, xd, xe, xf, xg, xh⟩, hS⟩ : ∃ T, shaSt P k = T := ⟨_, rfl⟩
          rw [hS] at HSt
          have HSS : Kp (shaSt P k = ⟨xa, xb, xc, xd, xe, xf, xg, xh⟩) := ⟨hS⟩
          clear hS
          have HSr2 : Hid (Sk .u8 wr (some ⟨g4, off, none⟩) (blockOf P k)) := Lib.hid (HSr.out.take)
          have HVr := Lib.hid (HV.out.below HBr.out)
          have HCS : Hid (wr.cell? ⟨w4.heap.size, 0, none⟩ = some (.int .u32 xa) ∧ wr.cell? ⟨w4.heap.size, 1, none⟩ = some (.int .u32 xb) ∧ wr.cell? ⟨w4.heap.size, 2, none⟩ = some (.int .u32 xc) ∧ wr.cell? ⟨w4.heap.size, 3, none⟩ = some (.int .u32 xd) ∧ wr.cell? ⟨w4.heap.size, 4, none⟩ = some (.int .u32 xe) ∧ wr.cell? ⟨w4.heap.size, 5, none⟩ = some (.int .u32 xf) ∧ wr.cell? ⟨w4.heap.size, 6, none⟩ = some (.int .u32 xg) ∧ wr.cell? ⟨w4.heap.size, 7, none⟩ = some (.int .u32 xh)) := Lib.hid ⟨HSt.out.cell (j := 0) (show 0 < 8 by decide), HSt.out.cell (j := 1) (show 1 < 8 by decide), HSt.out.cell (j := 2) (show 2 < 8 by decide), HSt.out.cell (j := 3) (show 3 < 8 by decide), HSt.out.cell (j := 4) (show 4 < 8 by decide), HSt.out.cell (j := 5) (show 5 < 8 by decide), HSt.out.cell (j := 6) (show 6 < 8 by decide), HSt.out.cell (j := 7) (show 7 < 8 by decide)⟩
          obtain ⟨T, hT⟩ : ∃ T, mixS ⟨xa, xb, xc, xd, xe, xf, xg, xh⟩ (blockOf P k) = T := ⟨_, rfl⟩
          have HT : Kp (mixS ⟨xa, xb, xc, xd, xe, xf, xg, xh⟩ (blockOf P k) = T) := ⟨hT⟩
          have HTN : Kp (shaSt P (k + 1) = T) := ⟨by rw [shaSt, HSS.out, hT]⟩
          clear hT
          go_wp2_with fail
          refine wp_region_T (S := fun w' => w'.cell? ⟨w4.heap.size, 0, none⟩ = some (.int .u32 xa) ∧ w'.cell? ⟨w4.heap.size, 1, none⟩ = some (.int .u32 xb) ∧ w'.cell? ⟨w4.heap.size, 2, none⟩ = some (.int .u32 xc) ∧ w'.cell? ⟨w4.heap.size, 3, none⟩ = some (.int .u32 xd) ∧ w'.cell? ⟨w4.heap.size, 4, none⟩ = some (.int .u32 xe) ∧ w'.cell? ⟨w4.heap.size, 5, none⟩ = some (.int .u32 xf) ∧ w'.cell? ⟨w4.heap.size, 6, none⟩ = some (.int .u32 xg) ∧ w'.cell? ⟨w4.heap.size, 7, none⟩ = some (.int .u32 xh)) (E := [3, 4]) (by kernel_rfl) (by simpa using HCS.out) (fun hHeld => ?_)
          refine tkV 0 ?_
          try simp only [qq1, qq2, qq3, Act.put, qq4, qq5, qq6]
          refine tkV 1 ?_
          try simp only [qq1, qq2, qq3, Act.put, qq4, qq5, qq6]
          refine tkV 2 ?_
          try simp only [qq1, qq2, qq3, Act.put, qq4, qq5, qq6]
          refine wpT_pass (i := 3) (by kernel_rfl) (by simp) rfl (fun K hK => ?_)
          go_simp
          refine (mix_lit xa xb xc xd xe xf xg xh g4 off cp (blockOf P k) HBLK HBB _ (Lib.hid (HSr2.out.below (Below.refl _ _).drew)) (by omega) hcp (Lib.hid (HVr.out.below (Below.refl _ _).drew))).mono ?_
          rintro e w6 ⟨rfl, hb6⟩
          rw [HT.out]
          refine hK.out _ _ ?_
          clear hK K
          try simp only [qq1, qq2, qq3, Act.put, qq4, qq5, qq6]
          refine wpT_pass (i := 4) (by kernel_rfl) (by simp) rfl (fun K hK => ?_)
          refine wp_store_row 306 _ _ rfl w4.heap.size (arr .u32 T.list) rfl rfl 306 _ ((HSt.out.below (Below.refl _ _).drew).below hb6) (list8_info T) rfl (arr_one _) ?_
          refine hK.out _ _ ?_
          clear hK K
          try simp only [qq1, qq2, qq3, Act.put, qq4, qq5, qq6]
          refine wpT_done (by kernel_rfl) ?_ _
          have HSt2 : Hid (Blk .u32 306 (w6.setRow w4.heap.size (arr .u32 T.list)) w4.heap.size (shaSt P (k + 1)).list) := Lib.hid (by
            rw [HTN.out]
            exact ((HSt.out.below (Below.refl _ _).drew).below hb6).setRow)
          have HBr2 : Hid (Below W.heap.size W (w6.setRow w4.heap.size (arr .u32 T.list))) := Lib.hid (below_setRow' (HBr.out.drew.trans (hb6.mono HBr.out.size)) hbs4)
          have HSr3 : Hid (Sk .u8 (w6.setRow w4.heap.size (arr .u32 T.list)) (some ⟨g4, off, none⟩) (P.drop (64 * k))) := Lib.hid (((HSr.out.below (Below.refl _ _).drew).below hb6).setRow_ne (fun b o e => by cases e; omega))
          obtain ⟨w7, hw7⟩ : ∃ u, w6.setRow w4.heap.size (arr .u32 T.list) = u := ⟨_, rfl⟩
          rw [hw7] at HSt2 HBr2 HSr3 ⊢
          clear hw7 hb6 HSr HSr2 HSt HBr HVr HCS HT HTN HSS hHeld
          have h64R : (64 : Int) ≤ (R : Int) := by omega
          by_cases hce : cp = 64
          · subst hce
            obtain rfl : R = 64 := by omega
            have HN0 : Hid (Sk .u8 w7 (some ⟨g4, off, none⟩) (P.drop (64 * (k + 1)))) := Lib.hid (Sk.nil_of (by rw [List.length_drop, HM.out]; have := HR.out; omega))
            have HR2 : Hid (64 * (k + 1) + 0 = 64 * M) := Lib.hid (by have := HR.out; omega)
            go_wp2
            go_roundw
            case rel => exact ⟨k + 1, 0, off, 0, by omega, HR2, rfl, by omega, by omega, HN0, HSt2, HBr2⟩
            case measure => simp [lenOf]
          · have HN0 : Hid (Sk .u8 w7 (some ⟨g4, off + 64, none⟩) (P.drop (64 * (k + 1)))) := Lib.hid (by
              have h := HSr3.out.drop (n := 64)
              rwa [List.drop_drop, show 64 * k + 64 = 64 * (k + 1) by omega] at h)
            have HR2 : Hid (64 * (k + 1) + (R - 64) = 64 * M) := Lib.hid (by have := HR.out; omega)
            go_wp2
            go_roundw
            case rel => exact ⟨k + 1, R - 64, off + 64, cp - 64, by omega, HR2, rfl, by omega, by omega, HN0, HSt2, HBr2⟩
            case measure => simp [lenOf]; omega
        · obtain rfl : R = 0 := by omega
          obtain ⟨⟨xa, xb, xc, xd, xe, xf, xg, xh⟩, hS⟩ : ∃ T, shaSt P M = T := ⟨_, rfl⟩
          have HSHA : Kp (sha l = outL ⟨xa, xb, xc, xd, xe, xf, xg, xh⟩) := ⟨by
            rw [sha, HP.out, HM.out, show 64 * M / 64 = M by omega, hS]⟩
          have HSt3 : Hid (Blk .u32 306 wr w4.heap.size (St.mk xa xb xc xd xe xf xg xh).list) := Lib.hid (by
            rw [← hS, show M = k by have := HR.out; omega]
            exact HSt.out)
          have HW8 : Hid (Blk .u8 41 (wr.alloc (.cells #[.int .u8 0, .int .u8 0, .int .u8 0, .int .u8 0, .int .u8 0, .int .u8 0, .int .u8 0, .int .u8 0, .int .u8 0, .int .u8 0, .int .u8 0, .int .u8 0, .int .u8 0, .int .u8 0, .int .u8 0, .int .u8 0, .int .u8 0, .int .u8 0, .int .u8 0, .int .u8 0, .int .u8 0, .int .u8 0, .int .u8 0, .int .u8 0, .int .u8 0, .int .u8 0, .int .u8 0, .int .u8 0, .int .u8 0, .int .u8 0, .int .u8 0, .int .u8 0] 41)) wr.heap.size (pz 32 ((outL ⟨xa, xb, xc, xd, xe, xf, xg, xh⟩).take (4 * 0)))) := Lib.hid (by
            rw [zarrh]
            exact Blk.new _ _)
          have HB8 : Hid (Below W.heap.size W (wr.alloc (.cells #[.int .u8 0, .int .u8 0, .int .u8 0, .int .u8 0, .int .u8 0, .int .u8 0, .int .u8 0, .int .u8 0, .int .u8 0, .int .u8 0, .int .u8 0, .int .u8 0, .int .u8 0, .int .u8 0, .int .u8 0, .int .u8 0, .int .u8 0, .int .u8 0, .int .u8 0, .int .u8 0, .int .u8 0, .int .u8 0, .int .u8 0, .int .u8 0, .int .u8 0, .int .u8 0, .int .u8 0, .int .u8 0, .int .u8 0, .int .u8 0, .int .u8 0, .int .u8 0] 41))) := Lib.hid (HBr.out.alloc HBr.out.size _)
          clear hS HSt HSr HR
          go_upto_region 11 with ((with_reducible show wpList _ _ _ (⟨some 37, _, _, _, _, _⟩ :: _) _ _); refine wpList_load_row rfl 306 _ rfl w4.heap.size rfl _ _ _ _ (HSt3.out.old _) Tryz.underlying306 rfl (list8_info _) ?_)
          rw [← arr8]
          have hbr := HBr.out.size
          obtain ⟨WN, hWN⟩ : ∃ u, wr.alloc (.cells #[.int .u8 0, .int .u8 0, .int .u8 0, .int .u8 0, .int .u8 0, .int .u8 0, .int .u8 0, .int .u8 0, .int .u8 0, .int .u8 0, .int .u8 0, .int .u8 0, .int .u8 0, .int .u8 0, .int .u8 0, .int .u8 0, .int .u8 0, .int .u8 0, .int .u8 0, .int .u8 0, .int .u8 0, .int .u8 0, .int .u8 0, .int .u8 0, .int .u8 0, .int .u8 0, .int .u8 0, .int .u8 0, .int .u8 0, .int .u8 0, .int .u8 0, .int .u8 0] 41) = u := ⟨_, rfl⟩
          rw [hWN] at HW8 HB8 ⊢
          obtain ⟨B5, hB5⟩ : ∃ x, wr.heap.size = x := ⟨_, rfl⟩
          have HBN : Hid (B5 < WN.heap.size) := Lib.hid (by rw [← hWN, ← hB5]; simp)
          rw [hB5] at HW8 hbr ⊢
          clear hWN hB5
          go_loopw [38] (fun i u => ∃ k : Nat, k ≤ 8 ∧ i = .int .i64 k ∧ Hid (Blk .u8 41 u B5 (pz 32 ((outL ⟨xa, xb, xc, xd, xe, xf, xg, xh⟩).take (4 * k)))) ∧ Hid (Below B5 WN u)) (fun i _ => 8 - (intOf i).toNat)
          case atStart => exact ⟨0, by omega, rfl, HW8, Lib.hid (Below.refl _ _)⟩
          case round =>
            obtain ⟨k4, hk4, rfl, HBk, HBu⟩ := hrel
            by_cases hlk : k4 < 8
            · have hi8 := idx8 xa xb xc xd xe xf xg xh k4 hlk
              obtain ⟨v0, e1⟩ : ∃ x, (St.mk xa xb xc xd xe xf xg xh).list.getD k4 0 = x := ⟨_, rfl⟩
              rw [e1] at hi8
              have E1 := Lib.hid e1

              clear e1
              go_wp2
              go_loopw [42] (fun j u => ∃ m : Nat, m ≤ 4 ∧ j = .int .i64 m ∧ Hid (Blk .u8 41 u B5 (pz 32 ((outL ⟨xa, xb, xc, xd, xe, xf, xg, xh⟩).take (4 * k4 + m)))) ∧ Hid (Below B5 WN u)) (fun j _ => 4 - (intOf j).toNat)
              case atStart => exact ⟨0, by omega, rfl, HBk, HBu⟩
              case round =>
                obtain ⟨m, hm, rfl, HBm, HBv⟩ := hrel
                by_cases hlm : m < 4
                · have hol : (outL ⟨xa, xb, xc, xd, xe, xf, xg, xh⟩).length = 32 := outL_len _
                  have hc := HBm.out.cell (j := 4 * k4 + m) (by rw [pz_len (by rw [List.length_take, hol]; omega)]; omega)
                  have hf := HBm.out.free (4 * k4 + m)
                  have hst := pz_step (N := 32) (k := 4 * k4 + m) (l := outL ⟨xa, xb, xc, xd, xe, xf, xg, xh⟩) (by rw [hol]; omega) (by omega)
                  rw [out_get _ k4 hlk m hlm, E1.out] at hst
                  obtain ⟨q, hq⟩ : ∃ q, v0 / 2 ^ (24 - 8 * m) = q := ⟨_, rfl⟩
                  rw [hq] at hst
                  have HC := hc
                  have j0 : (0 : Int) ≤ 24 - 8 * m := by omega
                  have j1 : (24 - 8 * (m : Int)).toNat = 24 - 8 * m := by omega
                  have j2 : (4 * (k4 : Int) + m).toNat = 4 * k4 + m := by omega
                  obtain ⟨WV, hWV⟩ : ∃ u, wr.setCell ⟨B5, 4 * k4 + m, none⟩ (.int .u8 (q % 256)) = u := ⟨_, rfl⟩
                  have HB2 : Hid (Blk .u8 41 WV B5 (pz 32 ((outL ⟨xa, xb, xc, xd, xe, xf, xg, xh⟩).take (4 * k4 + (m + 1))))) := Lib.hid (by
                    rw [← hWV, show 4 * k4 + (m + 1) = 4 * k4 + m + 1 by omega, ← hst]
                    exact HBm.out.set)
                  have HBv2 : Hid (Below B5 WN WV) := Lib.hid (by rw [← hWV]; exact HBv.out.setCell (Nat.le_refl _) _)
                  clear hst HBm HBv hol HC
                  go_wp2
                  try go_region
                  try (rw [hq])
                  try (rw [hWV])
                  go_wp2
                  go_roundw
                  case rel => exact ⟨m + 1, by omega, by go_num, HB2, HBv2⟩
                  case measure => simp [intOf]; omega
                · have HB2 : Hid (Blk .u8 41 wr B5 (pz 32 ((outL ⟨xa, xb, xc, xd, xe, xf, xg, xh⟩).take (4 * (k4 + 1))))) := Lib.hid (by
                    have h := HBm.out
                    rwa [show 4 * k4 + m = 4 * (k4 + 1) by omega] at h)
                  clear HBm
                  go_wp2
                  go_roundw
                  case rel => exact ⟨k4 + 1, by omega, by go_num, HB2, HBv⟩
                  case measure => simp [intOf]; omega
            · have HBf : Hid (Blk .u8 41 wr B5 (sha l)) := Lib.hid (by
                have h := HBk.out
                rwa [show 4 * k4 = (outL ⟨xa, xb, xc, xd, xe, xf, xg, xh⟩).length by rw [outL_len]; omega, List.take_length, pz_full (outL_len _), ← HSHA.out] at h)
              have HBW := Lib.hid (HB8.out.trans (HBu.out.mono hbr))
              have HRf : Hid (Blk .u8 41 wr w.heap.size (zer 32)) := Lib.hid (HR0.out.keepB (by have := HSZ.out; omega) HBW.out)
              have HBF : Hid (Below w.heap.size w (wr.setRow w.heap.size (arr .u8 (sha l)))) := Lib.hid (below_setRow' (below_ext HBX.out HBW.out) (Nat.le_refl _))
              have HRR : Hid (Blk .u8 41 (wr.setRow w.heap.size (arr .u8 (sha l))) w.heap.size (sha l)) := Lib.hid HRf.out.setRow
              clear HBk HBu
              go_wp2_with (first
                | ((with_reducible show wpList _ _ _ (⟨some 58, _, _, _, _, _⟩ :: _) _ _); refine wpList_load_row rfl 41 _ rfl B5 rfl _ _ _ _ HBf.out Tryz.underlying41 rfl (hash_info (sha_len l)) ?_)
                | ((with_reducible show wpList _ _ _ (⟨none, _, _, _, _, _⟩ :: _) _ _); refine wpList_store_row rfl 41 _ _ rfl w.heap.size (arr .u8 (sha l)) rfl rfl _ _ HRf.out (hash_info (sha_len l)) (arrs_sz rfl (sha_len l)) (arr_one _) ?_))
              exact bodyPost_ret (v := .agg (arr .u8 (sha l))) (results_cell_row (p := 2) (ty := 41) rfl _ _ w.heap.size _ _ _ _ rfl HRR.out Tryz.underlying41 rfl (hash_info (sha_len l))) rfl ⟨rfl, HBF.out⟩
    · have hN : N < n + 1 + padZ n := by unfold padZ at hN1 hpz ⊢; omega
      have t1 : ((N : Int) % 64 == 56) = false := by simp; omega
      have t2 : ((N : Int) % 64 != 56) = true := by simp; omega
      have hown := HO.out.row hll
      have hbs := HBr.out.size
      have HLL := Lib.hid hll
      clear hend hll
      go_wp2_with (at_builtin; refine wpList_append_own _ rfl _ _ 145 rfl W.heap.size 5 i0 (.int .u8 0) 1 1 Tryz.underlying145 hi hz0 hz1 hz2 rfl (by decide) _ _ _ rfl (hown.alloc _) ⟨wr.heap.size, 0, none⟩ 1 1 [.int .u8 0] rfl rfl (cell_one_new _ _ _) (ints_oneCell .u8 [0]) (by unfold maxLen; omega) (by omega) (by simp; omega) ?_; intro v2 w2 hown2 hgrow2 _)
      have HO3 : Hid (OwnK .u8 5 w2 W.heap.size v2 (l ++ [128] ++ List.replicate (N + 1 - n - 1) 0)) := Lib.hid (by
        rw [show N + 1 - n - 1 = (N - n - 1) + 1 by omega, rep_succ, ← List.append_assoc]
        exact OwnK.app HLL.out.symm rfl hown2)
      have HBx3 : Hid (Below W.heap.size W w2) := Lib.hid (HO.out.below HBr.out hbs hgrow2)
      clear hown hown2 hgrow2 HO
      obtain ⟨A3, c3, e3, _⟩ := HO3.out.sk
      have e4 : (l ++ [128] ++ List.replicate (N + 1 - n - 1) 0).length = N + 1 := by simp [hn.out]; omega
      rw [e4] at e3
      subst e3
      clear e4
      go_wp2
      go_roundw
      case rel => exact ⟨N + 1, A3, c3, by omega, by omega, rfl, HO3, HBx3⟩
      case measure => simp [lenOf]; omega
def bys (s : ByteArray) : List Int := s.data.toList.map fun c => (c.toNat : Int)
theorem bys_len (s : ByteArray) : (bys s).length = s.size := by simp [bys]
theorem bys_bytes (s : ByteArray) : bytesB (bys s) = true := by
  refine List.all_eq_true.2 fun x hx => ?_
  obtain ⟨c, _, rfl⟩ := List.mem_map.1 hx
  have := c.toNat_lt
  simp; omega
theorem bys_sk {w : World} {g cap : Nat} {s : ByteArray} {e : TypeId} {fr : Nat × Nat} (h : w.heap[g]? = some (.cells (bytesRow s cap) e fr)) : Sk .u8 w (some ⟨g, 0, none⟩) (bys s) := fun j hj => ⟨g, 0, rfl, by
  rw [bys_len] at hj
  rw [Nat.zero_add, cell_of_row _ _ j _ _ _ h, bytesRow_at s cap j (by simpa using hj)]
  simp [bys, List.getD_eq_getElem?_getD]
  rw [Array.getElem?_eq_getElem (by simpa using hj)]
  rfl⟩
theorem OwnK.skAt {K : IntKind} {T : TypeId} {w : World} {B g n c : Nat} {xs : List Int} (h : OwnK K T w B (.slice (some ⟨g, 0, none⟩) n c) xs) (h0 : 0 < xs.length) : Sk K w (some ⟨g, 0, none⟩) xs := by
  obtain ⟨g', cap', e, _, _, _, hs⟩ := h.cells h0
  simp only [Value.slice.injEq, Option.some.injEq, Addr.mk.injEq] at e
  rw [e.1.1]
  exact hs
theorem results_cell_tmp2 {P : Program} {fn : Func} {p q : Tmp} {ty : TypeId} (h : fn.results = #[.cell p ty, .tmp q]) (tmps : Array Value) (w : World) (a : Addr) (v u : Value)
    (hp : tmps.getD p undef = .pointer (some a)) (hq : tmps.getD q undef = u) (hl : (loadVar ty a).run P w = .ok v w) : (results fn tmps).run P w = .ok (.tuple #[v, u]) w := by
  have hp' : tmps[p]?.getD undef = .pointer (some a) := by simpa using hp
  have hq' : tmps[q]?.getD undef = u := by simpa using hq
  simp [results, h, hp', hq', asAddr, hl]
def HashOk (h : List Int) : Value := .tuple #[.agg (arr .u8 h), .int .i64 0]
set_option maxHeartbeats 3200000 in
theorem tagged_any (s : ByteArray) (hs1 : 1 ≤ s.size) (hs2 : s.size ≤ 100) (b o c : Nat) (l : List Int) (n : Nat) (hn : Hid (l.length = n)) (hn0 : 0 < n) (hbig : n ≤ 900000) (hby : Hid (bytesB l = true)) (w : World) (hs : Hid (Sk .u8 w (some ⟨b, o, none⟩) l)) (hv : Hid (VarsD w)) :
    Calls Tryz.prog 240 #[.string s, .slice (some ⟨b, o, none⟩) n c] w fun e w' => e = .returned (HashOk (tagged (bys s) l)) ∧ Below w.heap.size w w' := by
  obtain ⟨i0, hi, hz0, hz1, hz2⟩ := info_parts byteInfo
  obtain ⟨W, hW⟩ : ∃ W, w.alloc (.cells #[.int .u8 0, .int .u8 0, .int .u8 0, .int .u8 0, .int .u8 0, .int .u8 0, .int .u8 0, .int .u8 0, .int .u8 0, .int .u8 0, .int .u8 0, .int .u8 0, .int .u8 0, .int .u8 0, .int .u8 0, .int .u8 0, .int .u8 0, .int .u8 0, .int .u8 0, .int .u8 0, .int .u8 0, .int .u8 0, .int .u8 0, .int .u8 0, .int .u8 0, .int .u8 0, .int .u8 0, .int .u8 0, .int .u8 0, .int .u8 0, .int .u8 0, .int .u8 0] 41) = W := ⟨_, rfl⟩
  have HBX : Hid (Below w.heap.size w W) := Lib.hid (by rw [← hW]; exact below_box0 _ _)
  have HR0 : Hid (Blk .u8 41 W w.heap.size (zer 32)) := Lib.hid (by
    rw [← hW, zarrh]
    exact Blk.new _ _)
  have HSZ : Hid (W.heap.size = w.heap.size + 1) := Lib.hid (by rw [← hW]; simp)
  have HS := Lib.hid (hs.out.below HBX.out)
  have HV := Lib.hid (hv.out.below HBX.out)
  have HW := Lib.hid hW
  have hcv := fun w => run_bytes_of_string (P := Tryz.prog) w 9 145 5 s Tryz.underlying9 Tryz.underlying145 Tryz.underlying5
  clear hW hs hv
  go_enter Tryz.func240, Tryz.ntmps240
  go_wp2_with fail
  rw [HW.out]
  clear hcv HW
  obtain ⟨Wc, hWc⟩ : ∃ u, (W.alloc (.cells (bytesRow s (grownCap W s.size 0 5)) 5 ((bytesRow s (grownCap W s.size 0 5)).size, (bytesRow s (grownCap W s.size 0 5)).size + 1))).drew = u := ⟨_, rfl⟩
  have HBc : Hid (Below W.heap.size W Wc) := Lib.hid (by rw [← hWc]; exact (below_box0 _ _).drew)
  have HSc : Hid (Sk .u8 Wc (some ⟨w.heap.size + 1, 0, none⟩) (bys s)) := Lib.hid (by
    rw [← hWc, ← HSZ.out]
    exact bys_sk (heap_alloc_new W _))
  obtain ⟨gc, hgc⟩ : ∃ g, grownCap W s.size 0 5 = g := ⟨_, rfl⟩
  rw [hWc, hgc]
  clear hWc hgc
  refine (sum_any (w.heap.size + 1) 0 gc (bys s) s.size (Lib.hid (bys_len s)) (by omega) (Lib.hid (bys_bytes s)) _ HSc (Lib.hid (HV.out.below HBc.out))).mono ?_
  rintro e w1 ⟨rfl, hb1⟩
  have HB1 := Lib.hid (below_ext HBc.out hb1)
  clear hb1 HSc HBc
  obtain ⟨t, ht⟩ : ∃ t, sha (bys s) = t := ⟨_, rfl⟩
  have htl : t.length = 32 := by rw [← ht]; exact sha_len _
  have htb : bytesB t = true := by rw [← ht]; exact sha_bytes _
  have HT : Kp (sha (bys s) = t) := ⟨ht⟩
  have HTL := Lib.hid htl
  have HTB := Lib.hid htb
  rw [ht]
  clear ht htl htb
  go_upto_region 4 with ((with_reducible show wpList _ _ _ (⟨none, _, _, _, _, _⟩ :: _) _ _); refine wpList_store_row rfl 41 _ _ rfl w1.heap.size (arr .u8 t) rfl rfl _ _ (heap_alloc_new _ _) (hash_info HTL.out) (arrs_sz (l := zer 32) rfl HTL.out) (arr_one _) ?_)
  rw [World.setRow_alloc_new]
  simp only [Act.put]
  have HB2 := Lib.hid (below_ext HB1.out (below_box0 w1 (.cells (arr .u8 t) 41)))
  have HT2 : Hid (Blk .u8 41 (w1.alloc (.cells (arr .u8 t) 41)) w1.heap.size t) := Lib.hid (Blk.new _ _)
  obtain ⟨W2, hW2⟩ : ∃ u, w1.alloc (.cells (arr .u8 t) 41) = u := ⟨_, rfl⟩
  have HSN : Hid (w1.heap.size < W2.heap.size) := Lib.hid (by rw [← hW2]; simp)
  rw [hW2] at HB2 HT2 ⊢
  clear hW2 HB1
  obtain ⟨gt, hgt⟩ : ∃ g, w1.heap.size = g := ⟨_, rfl⟩
  rw [hgt] at HT2 HSN ⊢
  clear hgt
  have HBd := Lib.hid ((Below.refl W2.heap.size W2).drew)
  have HTd := Lib.hid (HT2.out.below HBd.out)
  have HB3 := Lib.hid (below_ext HB2.out HBd.out)
  obtain ⟨Wd, hWd⟩ : ∃ u, W2.drew = u := ⟨_, rfl⟩
  refine wp_region_T (S := fun w' => True) (E := []) (by kernel_rfl) (trivial) (fun hHeld => ?_)
  refine tkV 0 ?_
  try simp only [qq1, qq2, qq3, Act.put, qq4, qq5, qq6]
  refine tkV 2 ?_
  try simp only [qq1, qq2, qq3, Act.put, qq4, qq5, qq6]
  refine tkV 4 ?_
  try simp only [qq1, qq2, qq3, Act.put, qq4, qq5, qq6]
  refine wpT_one (i := 1) (by kernel_rfl) rfl (fun K hK => ?_)
  go_simp
  try rw [hWd]
  rw [hWd] at HBd HTd HB3
  refine (Tryz.bytes_Clone_at ⟨gt, 0, none⟩ 32 32 t _ HTL.out (by decide) (HTd.out.sk.at_add HTL.out)).mono ?_
  rintro e w3 ⟨v3, rfl, ho3, hne3, hb3⟩
  refine hK.out _ _ ?_ (fun hHeld => ?_)
  · trivial
  clear hK K
  try simp only [qq1, qq2, qq3, Act.put, qq4, qq5, qq6]
  refine wpT_one (i := 3) (by kernel_rfl) rfl (fun K hK => ?_)
  have HS3 := Lib.hid (HS.out.below (below_ext HB3.out hb3))
  have HT3 := Lib.hid (HTd.out.below hb3)
  have hbz := hb3.size
  refine step_append_lies _ (by rfl) _ _ _ (by rfl) (Wd.heap.size) 5 i0 _ 1 1 Tryz.underlying145 hi hz0 hz1 hz2 rfl (by omega) v3 32 (t.map (.int .u8)) (by rfl) (ho3) ⟨gt, 0, none⟩ 32 32 (t.map (.int .u8)) (by rfl) (by simp [HTL.out, hn.out]) (HT3.out.sk.news) (ints_oneCell .u8 _) (by omega) (by unfold maxLen; omega) (by omega) (by omega) (w3.heap.size) (rfl) ?_
  intro g4 cap4 w4 hown4 hgrow4 hat4 hlt4
  have HB4 := Lib.hid (Below.grown hb3 hgrow4 (by omega) (fun j hj => (World.ownsRow.lt ho3 j hj).1))
  refine hK.out _ _ ?_ (fun hHeld => ?_)
  · trivial
  clear hK K
  try simp only [qq1, qq2, qq3, Act.put, qq4, qq5, qq6]
  refine wpT_one (i := 5) (by kernel_rfl) rfl (fun K hK => ?_)
  have HS4 := Lib.hid ((HS.out.below HB3.out).below HB4.out)
  have hbz4 := HB4.out.size
  refine step_append_lies _ (by rfl) _ _ _ (by rfl) (Wd.heap.size) 5 i0 _ 1 1 Tryz.underlying145 hi hz0 hz1 hz2 rfl (by omega) (.slice (some ⟨g4, 0, none⟩) (32 + 32) cap4) (32 + 32) (t.map (.int .u8) ++ t.map (.int .u8)) (by rfl) (hown4) ⟨b, o, none⟩ n c (l.map (.int .u8)) (by rfl) (by simp [HTL.out, hn.out]) (HS4.out.news) (ints_oneCell .u8 _) (by omega) (by unfold maxLen; omega) (by omega) (by omega) (w4.heap.size) (rfl) ?_
  intro g5 cap5 w5 hown5 hgrow5 hat5 hlt5
  have HB5 := Lib.hid (Below.grown HB4.out hgrow5 (by omega) (fun j hj => (World.ownsRow.lt hown4 j hj).1))
  have HO5 : Hid (OwnK .u8 5 w5 Wd.heap.size (.slice (some ⟨g5, 0, none⟩) (32 + 32 + n) cap5) (t ++ t ++ l)) := Lib.hid (OwnK.app (by rw [List.length_append, HTL.out]) hn.out.symm (by rw [List.map_append]; exact hown5))
  refine hK.out _ _ ?_ (fun hHeld => ?_)
  · trivial
  clear hK K
  try simp only [qq1, qq2, qq3, Act.put, qq4, qq5, qq6]
  refine wpT_one (i := 6) (by kernel_rfl) rfl (fun K hK => ?_)
  go_simp
  have hsk5 := HO5.out.skAt (by simp [hn.out]; omega)
  refine (sum_any g5 0 cap5 (t ++ t ++ l) (32 + 32 + n) (Lib.hid (by simp [hn.out, HTL.out]; omega)) (by omega) (Lib.hid (by rw [bytesB_app, bytesB_app, HTB.out, hby.out]; rfl)) _ (Lib.hid hsk5) (Lib.hid ((HV.out.below HB3.out).below HB5.out))).mono ?_
  rintro e w6 ⟨rfl, hb6⟩
  have HB6 := Lib.hid (HB5.out.trans (hb6.mono HB5.out.size))
  refine hK.out _ _ ?_ (fun hHeld => ?_)
  · trivial
  clear hK K
  try simp only [qq1, qq2, qq3, Act.put, qq4, qq5, qq6]
  refine wpT_one (i := 7) (by kernel_rfl) rfl (fun K hK => ?_)
  rw [show (if Region.wanted _ _ = true then _ else _ : Prop) = _ from if_pos rfl]
  refine wp_store_row 41 _ _ rfl w.heap.size (arr .u8 (sha (t ++ t ++ l))) rfl rfl 41 _ (((HR0.out.below HB3.out)).below HB6.out) (hash_info (sha_len _)) (arrs_sz rfl (sha_len _)) (arr_one _) ?_
  refine hK.out _ _ ?_ (fun hHeld => ?_)
  · trivial
  clear hK K
  try simp only [qq1, qq2, qq3, Act.put, qq4, qq5, qq6]
  refine tkV 8 ?_
  try simp only [qq1, qq2, qq3, Act.put, qq4, qq5, qq6]
  refine wpT_done (by kernel_rfl) ?_ _
  have HRR : Hid (Blk .u8 41 (w6.setRow w.heap.size (arr .u8 (sha (t ++ t ++ l)))) w.heap.size (sha (t ++ t ++ l))) := Lib.hid ((HR0.out.below HB3.out).below HB6.out).setRow
  have HBF : Hid (Below w.heap.size w (w6.setRow w.heap.size (arr .u8 (sha (t ++ t ++ l))))) := Lib.hid (below_setRow' (below_ext HBX.out (below_ext HB3.out HB6.out)) (Nat.le_refl _))
  have HTG : Kp (tagged (bys s) l = sha (t ++ t ++ l)) := ⟨by rw [tagged, HT.out]⟩
  obtain ⟨R, hR⟩ : ∃ R, sha (t ++ t ++ l) = R := ⟨_, rfl⟩
  have hRl : R.length = 32 := by rw [← hR]; exact sha_len _
  rw [hR] at HRR HBF HTG ⊢
  obtain ⟨w8, hw8⟩ : ∃ u, w6.setRow w.heap.size (arr .u8 R) = u := ⟨_, rfl⟩
  rw [hw8] at HRR HBF ⊢
  have HLD : Kp ((loadVar 41 ⟨w.heap.size, 0, none⟩).run Tryz.prog w8 = .ok (.agg (arr .u8 R)) w8) := ⟨run_loadVar_row _ _ _ _ _ _ _ HRR.out Tryz.underlying41 rfl (hash_info hRl)⟩
  clear hR hRl hw8
  go_wp2
  exact bodyPost_ret (v := HashOk R) (results_cell_tmp2 (p := 4) (q := 5) (ty := 41) rfl _ _ ⟨w.heap.size, 0, none⟩ _ _ rfl rfl HLD.out) rfl ⟨by rw [HTG.out], HBF.out⟩
theorem ownK_empty {K : IntKind} {T : TypeId} (w : World) : OwnK K T (w.alloc (.cells #[] T)) w.heap.size (.slice (some ⟨w.heap.size, 0, none⟩) 0 0) [] :=
  ⟨rfl, Or.inr ⟨w.heap.size, 0, #[], rfl, Nat.le_refl _, heap_alloc_new _ _, Nat.le_refl _, by decide, rfl, rfl⟩⟩
set_option maxHeartbeats 1600000 in
theorem rbytes_any (n : Int) (w : World) : Calls Tryz.prog 319 #[.int .i64 n] w (KOut .u8 5 (be8 n) w) := by
  obtain ⟨i0, hi, hz0, hz1, hz2⟩ := info_parts byteInfo
  go_enter Tryz.func319, Tryz.ntmps319
  go_wp2
  go_loopw [3, 4] (fun v i u => ∃ k : Nat, k ≤ 8 ∧ i = .int .i64 (7 - (k : Int)) ∧ Hid (OwnK .u8 5 u w.heap.size v ((be8 n).take k)) ∧ Hid (Below w.heap.size w u)) (fun _ i _ => (intOf i + 1).toNat)
  case atStart => exact ⟨0, by omega, rfl, Lib.hid (ownK_nil _ _), Lib.hid (Below.refl _ _)⟩
  case round =>
    obtain ⟨k, hk, rfl, HO, HBr⟩ := hrel
    by_cases hlt : k < 8
    · obtain ⟨q, hq⟩ : ∃ q, n / 2 ^ (56 - 8 * k) = q := ⟨_, rfl⟩
      have HTK : Hid ((be8 n).take (k + 1) = (be8 n).take k ++ [q % 256]) := Lib.hid (by rw [take_one (by rw [be8_len]; exact hlt), be8_get n k hlt, hq])
      have HLN : Hid (((be8 n).take k).length = k) := Lib.hid (by rw [List.length_take, be8_len]; omega)
      have j0 : (0 : Int) ≤ 8 * (7 - (k : Int)) := by omega
      have j1 : (8 * (7 - (k : Int))).toNat = 56 - 8 * k := by omega
      have hown := HO.out.row HLN.out
      have hbs := HBr.out.size
      have d1 : (0 : Int) ≤ 7 - (k : Int) := by omega
      go_wp2_with (at_builtin; refine wpList_append_own _ rfl _ _ 145 rfl w.heap.size 5 i0 (.int .u8 0) 1 1 Tryz.underlying145 hi hz0 hz1 hz2 rfl (by decide) _ _ _ rfl (hown.alloc _) ⟨wr.heap.size, 0, none⟩ 1 1 [.int .u8 (q % 256)] rfl rfl (cell_one_new _ _ _) (ints_oneCell .u8 [(q % 256)]) (by unfold maxLen; omega) (by omega) (by simp; omega) ?_; intro v2 w2 hown2 hgrow2 _)
      have HO3 : Hid (OwnK .u8 5 w2 w.heap.size v2 ((be8 n).take (k + 1))) := Lib.hid (by
        rw [HTK.out]
        exact OwnK.app HLN.out.symm rfl hown2)
      have HBx3 : Hid (Below w.heap.size w w2) := Lib.hid (HO.out.below HBr.out hbs hgrow2)
      clear hown hown2 hgrow2 HO
      go_roundw
      case rel => exact ⟨k + 1, by omega, by go_num, HO3, HBx3⟩
      case measure => simp [intOf]; omega
    · have HO3 : Hid (OwnK .u8 5 wr w.heap.size u3 (be8 n)) := Lib.hid (by
        have h := HO.out
        rwa [show k = (be8 n).length by rw [be8_len]; omega, List.take_length] at h)
      have d1 : 7 - (k : Int) < 0 := by omega
      clear HO
      go_wp2
      go_ret
      exact ⟨_, rfl, HO3.out, HBr.out⟩
set_option maxHeartbeats 3200000 in
theorem rpadded_any (b o c : Nat) (l : List Int) (n : Nat) (hn : Hid (l.length = n)) (hn0 : 0 < n) (hbig : n ≤ 1000000) (w : World) (hs : Hid (Sk .u8 w (some ⟨b, o, none⟩) l)) :
    Calls Tryz.prog 307 #[.slice (some ⟨b, o, none⟩) n c] w (KOut .u8 5 (padL l) w) := by
  obtain ⟨i0, hi, hz0, hz1, hz2⟩ := info_parts byteInfo
  go_enter Tryz.func307, Tryz.ntmps307
  have HOE := Lib.hid (ownK_empty (K := .u8) (T := 5) w)
  have HBE := Lib.hid (below_box0 w (.cells #[] 5))
  have HSE := Lib.hid (hs.out.below HBE.out)
  clear hs
  have hown : (w.alloc (.cells #[] 5)).ownsRow w.heap.size 5 1 (.slice (some ⟨w.heap.size, 0, none⟩) 0 0) 0 [] := HOE.out
  have HSZ : Hid (w.heap.size < (w.alloc (.cells #[] 5)).heap.size) := Lib.hid (by simp)
  go_wp2_with (first
    | ((at_builtin; refine wpList_append_own _ rfl _ _ 145 rfl w.heap.size 5 i0 (.int .u8 0) 1 1 Tryz.underlying145 hi hz0 hz1 hz2 rfl (by decide) _ _ _ rfl hown ⟨b, o, none⟩ n c (l.map (.int .u8)) rfl (by simp [hn.out, be8_len]) (HSE.out.news) (ints_oneCell .u8 _) (by unfold maxLen; omega) (by omega) (by simp) ?_; intro v1 w1 hown1 hgrow1 _); have HO1 : Hid (OwnK .u8 5 w1 w.heap.size v1 l) := Lib.hid (OwnK.app (xs := []) (ys := l) (m := n) rfl hn.out.symm hown1); have HBx1 : Hid (Below w.heap.size w w1) := Lib.hid (HOE.out.below0 HBE.out (by simp) hgrow1); clear hown hown1 hgrow1 HOE HSE; have hbs := HBx1.out.size; have hown := HO1.out.row hn.out)
    | (at_builtin; refine wpList_append_own _ rfl _ _ 145 rfl w.heap.size 5 i0 (.int .u8 0) 1 1 Tryz.underlying145 hi hz0 hz1 hz2 rfl (by decide) _ _ _ rfl (hown.alloc _) ⟨w1.heap.size, 0, none⟩ 1 1 [.int .u8 128] rfl rfl (cell_one_new _ _ _) (ints_oneCell .u8 [128]) (by unfold maxLen; omega) (by omega) (by simp; omega) ?_; intro v2 w2 hown2 hgrow2 _))
  have HO2 : Hid (OwnK .u8 5 w2 w.heap.size v2 (l ++ [128])) := Lib.hid (OwnK.app hn.out.symm rfl hown2)
  have HBx2 : Hid (Below w.heap.size w w2) := Lib.hid (HO1.out.below HBx1.out hbs hgrow2)
  clear hown hown2 hgrow2 HO1 hbs HBx1
  obtain ⟨A2, c2, e2, _⟩ := HO2.out.sk
  rw [List.length_append, hn.out, List.length_singleton] at e2
  subst e2
  go_loopw [3] (fun p u => ∃ (N : Nat) (A : Option Addr) (cap : Nat), n + 1 ≤ N ∧ N ≤ n + 1 + padZ n ∧ p = .slice A N cap ∧ Hid (OwnK .u8 5 u w.heap.size p (l ++ [128] ++ List.replicate (N - n - 1) 0)) ∧ Hid (Below w.heap.size w u)) (fun p _ => n + 65 - lenOf p)
  case atStart => exact ⟨n + 1, A2, c2, Nat.le_refl _, by omega, rfl, Lib.hid (by rw [show n + 1 - n - 1 = 0 by omega]; simpa using HO2.out), HBx2⟩
  case round =>
    obtain ⟨N, A, cap, hN0, hN1, rfl, HO, HBr⟩ := hrel
    have hpz : padZ n < 64 := by unfold padZ; omega
    have hll : (l ++ [128] ++ List.replicate (N - n - 1) 0).length = N := by simp [hn.out]; omega
    by_cases hend : N % 64 = 56
    · have HN : Hid (N = n + 1 + padZ n) := Lib.hid (by unfold padZ at hN1 hpz ⊢; omega)
      have t1 : ((N : Int) % 64 == 56) = true := by simp; omega
      have t2 : ((N : Int) % 64 != 56) = false := by simp; omega
      clear hend
      go_wp2_with fail
      refine (rbytes_any _ _).mono ?_
      rintro e w3 ⟨vb, rfl, hob, hb3⟩
      obtain ⟨gb, capb, rfl, hgb, hcb, hcmb, hskb⟩ := OwnK.cells hob (show 0 < 8 by decide)
      have HO3 := Lib.hid (HO.out.keep hb3)
      have HBx3 := Lib.hid (HBr.out.trans (hb3.mono HBr.out.size))
      have HBL := Lib.hid hskb
      have hbs := HBx3.out.size
      have hown := HO3.out.row hll
      have HLL := Lib.hid hll
      clear hskb hob hb3 HO HBr hll
      go_wp2_with (at_builtin; refine wpList_append_own _ rfl _ _ 145 rfl w.heap.size 5 i0 (.int .u8 0) 1 1 Tryz.underlying145 hi hz0 hz1 hz2 rfl (by decide) _ _ _ rfl hown ⟨gb, 0, none⟩ 8 capb ((be8 (8 * (n : Int))).map (.int .u8)) rfl (by simp [hn.out, be8_len]) (HBL.out.news) (ints_oneCell .u8 _) (by unfold maxLen padZ at *; omega) (by unfold padZ at *; omega) (by omega) ?_; intro v4 w4 hown2 hgrow2 _)
      have HO4 : Hid (OwnK .u8 5 w4 w.heap.size v4 (padL l)) := Lib.hid (by
        have h := OwnK.app (ys := be8 (8 * (n : Int))) HLL.out.symm rfl hown2
        have e : l ++ [128] ++ List.replicate (N - n - 1) 0 ++ be8 (8 * (n : Int)) = padL l := by
          rw [padL, hn.out, show N - n - 1 = padZ n by have := HN.out; omega]
        rwa [e] at h)
      have HBx4 : Hid (Below w.heap.size w w4) := Lib.hid (HO3.out.below0 HBx3.out hbs hgrow2)
      clear hown hown2 hgrow2 HO3 HBL HBx3 hbs HLL HN t1 t2
      go_wp2
      go_ret
      exact ⟨_, rfl, HO4.out, HBx4.out⟩
    · have hN : N < n + 1 + padZ n := by unfold padZ at hN1 hpz ⊢; omega
      have t1 : ((N : Int) % 64 == 56) = false := by simp; omega
      have t2 : ((N : Int) % 64 != 56) = true := by simp; omega
      have hown := HO.out.row hll
      have hbs := HBr.out.size
      have HLL := Lib.hid hll
      clear hend hll
      go_wp2_with (at_builtin; refine wpList_append_own _ rfl _ _ 145 rfl w.heap.size 5 i0 (.int .u8 0) 1 1 Tryz.underlying145 hi hz0 hz1 hz2 rfl (by decide) _ _ _ rfl (hown.alloc _) ⟨wr.heap.size, 0, none⟩ 1 1 [.int .u8 0] rfl rfl (cell_one_new _ _ _) (ints_oneCell .u8 [0]) (by unfold maxLen; omega) (by omega) (by simp; omega) ?_; intro v2 w2 hown2 hgrow2 _)
      have HO3 : Hid (OwnK .u8 5 w2 w.heap.size v2 (l ++ [128] ++ List.replicate (N + 1 - n - 1) 0)) := Lib.hid (by
        rw [show N + 1 - n - 1 = (N - n - 1) + 1 by omega, rep_succ, ← List.append_assoc]
        exact OwnK.app HLL.out.symm rfl hown2)
      have HBx3 : Hid (Below w.heap.size w w2) := Lib.hid (HO.out.below HBr.out hbs hgrow2)
      clear hown hown2 hgrow2 HO
      obtain ⟨A3, c3, e3, _⟩ := HO3.out.sk
      have e4 : (l ++ [128] ++ List.replicate (N + 1 - n - 1) 0).length = N + 1 := by simp [hn.out]; omega
      rw [e4] at e3
      subst e3
      clear e4
      go_wp2
      go_roundw
      case rel => exact ⟨N + 1, A3, c3, by omega, by omega, rfl, HO3, HBx3⟩
      case measure => simp [lenOf]; omega
theorem rconst_any (w : World) :
    Calls Tryz.prog 306 #[] w fun e w' => e = .returned (.slice (some ⟨w.heap.size, 0, none⟩) 64 64) ∧ w.alloc (.cells (arr .u32 KL) 278) = w' := by
  go_enter Tryz.func306, Tryz.ntmps306
  go_wp2
  go_ret
  exact ⟨rfl, rfl⟩
end Go.Proofs.YtjnoaejikapmdaaGreatDoor
namespace Go.Proofs.YtjnoaejikapmdaaGreatDoor
open Go.RowKit SpM
set_option linter.unusedVariables false
set_option linter.unusedSimpArgs false
inductive It where
  | int (n : Int)
  | byt (b : List Int)
  | lst (l : List It)
def fits : Nat → It → Prop
  | _, .int n => -9223372036854775808 ≤ n ∧ n < 9223372036854775808
  | _, .byt b => (0 < b.length ∧ b.length < 1000000) ∧ bytesB b = true
  | 0, .lst _ => False
  | d + 1, .lst l => l.length ≤ 1000 ∧ ∀ x ∈ l, fits d x
def be4 (n : Int) : List Int := [n / 16777216 % 256, n / 65536 % 256, n / 256 % 256, n % 256]
theorem be4_len (n : Int) : (be4 n).length = 4 := rfl
mutual
def enc : It → List Int
  | .int n => 1 :: be8 (n % 18446744073709551616)
  | .byt b => 2 :: (be4 b.length ++ b)
  | .lst l => 3 :: (be4 l.length ++ encL l)
def encL : List It → List Int
  | [] => []
  | i :: l => enc i ++ encL l
end
theorem encL_app (a b : List It) : encL (a ++ b) = encL a ++ encL b := by
  induction a with
  | nil => simp [encL]
  | cons x a ih => simp [encL, ih]
theorem enc_int (n : Int) : enc (.int n) = 1 :: be8 (n % 18446744073709551616) := by simp [enc]
theorem enc_byt (b : List Int) : enc (.byt b) = 2 :: (be4 b.length ++ b) := by simp [enc]
theorem enc_lst (l : List It) : enc (.lst l) = 3 :: (be4 l.length ++ encL l) := by simp [enc]
theorem enc_pos (i : It) : 0 < (enc i).length := by cases i <;> simp [enc]
instance itInh : Inhabited It := ⟨.int 0⟩
theorem encL_take {l : List It} {k : Nat} (hk : k < l.length) : encL (l.take (k + 1)) = encL (l.take k) ++ enc (l.getD k default) := by
  rw [List.take_add_one, List.getElem?_eq_getElem hk, List.getD_eq_getElem?_getD, List.getElem?_eq_getElem hk, encL_app]
  simp [encL]
theorem encL_take_le {l : List It} {k : Nat} : (encL (l.take k)).length ≤ (encL l).length := by
  conv => rhs; rw [← List.take_append_drop k l]
  rw [encL_app, List.length_append]
  omega
theorem be4_bytes (n : Int) : bytesB (be4 n) = true := by simp [bytesB, be4, mod_byte]
theorem enc_bytes {d : Nat} {i : It} (h : fits d i) : bytesB (enc i) = true := by
  induction d generalizing i with
  | zero =>
    cases i with
    | int n => rw [enc_int, show (1 :: be8 (n % 18446744073709551616) : List Int) = [1] ++ be8 (n % 18446744073709551616) from rfl, bytesB_app, be8_bytes]; rfl
    | byt b => rw [enc_byt, show (2 :: (be4 b.length ++ b) : List Int) = [2] ++ (be4 b.length ++ b) from rfl, bytesB_app, bytesB_app, be4_bytes, h.2]; rfl
    | lst l => exact absurd h (by simp [fits])
  | succ d ih =>
    cases i with
    | int n => rw [enc_int, show (1 :: be8 (n % 18446744073709551616) : List Int) = [1] ++ be8 (n % 18446744073709551616) from rfl, bytesB_app, be8_bytes]; rfl
    | byt b => rw [enc_byt, show (2 :: (be4 b.length ++ b) : List Int) = [2] ++ (be4 b.length ++ b) from rfl, bytesB_app, bytesB_app, be4_bytes, h.2]; rfl
    | lst l =>
      rw [enc_lst, show (3 :: (be4 l.length ++ encL l) : List Int) = [3] ++ (be4 l.length ++ encL l) from rfl, bytesB_app, bytesB_app, be4_bytes]
      have hl : ∀ (m : List It), (∀ x ∈ m, fits d x) → bytesB (encL m) = true := by
        intro m hm
        induction m with
        | nil => rfl
        | cons x m ihm => rw [encL, bytesB_app, ih (hm x (by simp)), ihm (fun y hy => hm y (by simp [hy]))]; rfl
      rw [hl l h.2]; rfl
structure Ic where
  (kind n : Int)
  (B : Option Addr)
  (nb cb : Nat)
  (L : Option Addr)
  (nl cl : Nat)
def Ic.cs (c : Ic) : Array Value := #[.int .i64 c.kind, .int .i64 c.n, .slice c.B c.nb c.cb, .slice c.L c.nl c.cl]
def Ic.val (c : Ic) : Value := .agg c.cs
def Four (w : World) (b o : Nat) (c : Ic) : Prop := w.cell? ⟨b, o, none⟩ = some (.int .i64 c.kind) ∧ w.cell? ⟨b, o + 1, none⟩ = some (.int .i64 c.n) ∧ w.cell? ⟨b, o + 2, none⟩ = some (.slice c.B c.nb c.cb) ∧ w.cell? ⟨b, o + 3, none⟩ = some (.slice c.L c.nl c.cl)
theorem Four.below {w w' : World} {b o : Nat} {c : Ic} (h : Four w b o c) (hb : Below w.heap.size w w') : Four w' b o c :=
  ⟨cell_below h.1 hb, cell_below h.2.1 hb, cell_below h.2.2.1 hb, cell_below h.2.2.2 hb⟩
inductive ItR (w : World) : It → Ic → Prop
  | int (n : Int) (c : Ic) (h1 : c.kind = 1) (h2 : c.n = n) (h3 : c.nb = 0) (h4 : c.nl = 0) : ItR w (.int n) c
  | byt (b : List Int) (c : Ic) (h1 : c.kind = 2) (h2 : c.n = 0) (h3 : c.nb = b.length) (h4 : c.nl = 0) (h5 : Sk .u8 w c.B b) : ItR w (.byt b) c
  | lst (l : List It) (c : Ic) (h1 : c.kind = 3) (h2 : c.n = 0) (h3 : c.nb = 0) (h4 : c.nl = l.length) (f : Nat → Ic)
      (h5 : ∀ k, k < l.length → ∃ b o, c.L = some ⟨b, o, none⟩ ∧ Four w b (o + k * 4) (f k)) (h6 : ∀ k, k < l.length → ItR w (l.getD k default) (f k)) : ItR w (.lst l) c
theorem ItR.kept {w w' : World} {i : It} {c : Ic} (h : ItR w i c) (hb : Below w.heap.size w w') : ItR w' i c := by
  induction h with
  | int n c h1 h2 h3 h4 => exact .int n c h1 h2 h3 h4
  | byt b c h1 h2 h3 h4 h5 => exact .byt b c h1 h2 h3 h4 (h5.below hb)
  | lst l c h1 h2 h3 h4 f h5 h6 ih =>
    refine .lst l c h1 h2 h3 h4 f (fun k hk => ?_) ih
    obtain ⟨b, o, e, h⟩ := h5 k hk
    exact ⟨b, o, e, h.below hb⟩
end Go.Proofs.YtjnoaejikapmdaaGreatDoor
