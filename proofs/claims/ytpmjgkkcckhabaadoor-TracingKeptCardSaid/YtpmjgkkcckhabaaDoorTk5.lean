/- Contracts and lemmas: TlM, TlN, TlO, TlP, TlQ, Row, Del, TlR, Bef, TlG. -/
import Derived.Deep.MidRow
import Derived.Deep.RegionLaw
import Derived.Deep.DeepAppendRoom
import Derived.Lib.SliceRun
import Derived.Test.YtpmjgkkcckhabaaDoorTk4
namespace Go.Proofs.YtpmjgkkcckhabaaDoor
open Go.RowKit SpM
set_option linter.unusedVariables false
set_option linter.unusedSimpArgs false
set_option maxRecDepth 100000
theorem new_any (w : World) : Calls Tryd.prog 19 #[] w fun e' w' => e' = .returned (tlV none 0 0 none 0 0) ∧ Below w.heap.size w w' := by
  have HR0 : Hid ((w.alloc (.cells #[.slice none 0 0, .slice none 0 0] 25)).heap[w.heap.size]? = some (.cells #[.slice none 0 0, .slice none 0 0] 25 (0, 0))) := Lib.hid (heap_alloc_new _ _)
  go_enter Tryd.func19, Tryd.ntmps19
  go_wp2_with ((with_reducible show wpList _ _ _ (⟨none, _, _, _, _, _⟩ :: _) _ _); refine wpList_store_row rfl 25 _ _ rfl (w.heap.size) #[.slice none 0 0, .slice none 0 0] rfl rfl _ _ HR0.out (by kernel_rfl) rfl (by simp [Value.oneCell']) ?_)
  have hrw := setRow_heap _ _ _ #[.slice none 0 0, .slice none 0 0] _ _ HR0.out
  exact bodyPost_ret (v := tlV none 0 0 none 0 0) (results_cell1 (p := 0) (ty := 25) rfl _ _ ⟨w.heap.size, 0, none⟩ _ rfl (run_loadVar_row _ _ _ _ _ _ _ hrw Tryd.underlying25 rfl (by kernel_rfl))) rfl ⟨rfl, below_setRow' (below_box0 _ _) (Nat.le_refl _)⟩
def opnB (os : List OrdR) (n : Nat) : Bool := decide (0 < n) && ((orL os (n - 1)).key == 0)
set_option maxHeartbeats 3200000 in
theorem open_0 (O : Option Addr) (c : Nat) (K : Option Addr) (m d : Nat) (w : World) :
    Calls Tryd.prog 39 #[tlV O 0 c K m d] w fun e' w' => e' = .returned (.bool false) ∧ Below w.heap.size w w' := by
  obtain ⟨w0, HW, HBw, kC⟩ := stTl O 0 c K m d w
  have HB_0 : Hid (Below w0.heap.size w0 w0) := Lib.hid (Below.refl _ _)
  go_enter Tryd.func39, Tryd.ntmps39
  go_wp2_with fail
  rw [HW.out]
  obtain ⟨zc0, zc1⟩ := kC.out _ HB_0
  have hbF := below_ext HBw.out HB_0.out
  go_wp2
  go_ret
  exact ⟨rfl, hbF⟩
set_option maxHeartbeats 6400000 in
theorem open_1 (O : Option Addr) (os : List OrdR) (n c : Nat) (K : Option Addr) (m d : Nat) (hn : Hid (os.length = n + 1)) (hb : n ≤ 1000000) (r : Bool) (hr : Hid (opnB os (n + 1) = r)) (w : World) (hO : Hid (Os w O os)) :
    Calls Tryd.prog 39 #[tlV O (n + 1) c K m d] w fun e' w' => e' = .returned (.bool r) ∧ Below w.heap.size w w' := by
  obtain ⟨w0, HW, HBw, kC⟩ := stTl O (n + 1) c K m d w
  have kOs := Lib.hid (show ∀ u : World, Hid (Below w0.heap.size w0 u) → Hid (Os u O os) from fun u h => Lib.hid ((hO.out.below) (below_ext HBw.out h.out)))
  have HB_0 : Hid (Below w0.heap.size w0 w0) := Lib.hid (Below.refl _ _)
  clear hO
  obtain ⟨b, f, hA, h9, hok⟩ := (kOs.out _ HB_0).out n (by rw [hn.out]; omega)
  subst hA
  obtain ⟨o, ho⟩ : ∃ o, os.getD n noOrd = o := ⟨_, rfl⟩
  rw [ho] at h9
  have hr1 := hr.out
  rw [opnB, show n + 1 - 1 = n by omega, orL, ho, decide_eq_true (show 0 < n + 1 by omega), Bool.true_and] at hr1
  have HX := Lib.hid h9.2.2.2.2.2.2.2.2
  have dw : IntKind.i64.wrap ((n : Int) + 1 - 1) = (n : Int) := by rw [show (n : Int) + 1 - 1 = n by omega]; exact IntWalk.i64_in _ (by omega)
  have dw2 : wrap64 ((n : Int) + 1 - 1) = (n : Int) := by rw [show (n : Int) + 1 - 1 = n by omega]; exact IntWalk.wrap64_in _ (by omega)
  have dpos : decide ((0 : Int) < (n : Int) + 1) = true := decide_eq_true (by omega)
  have x8 := HX.out
  clear ho h9 hok
  go_enter Tryd.func39, Tryd.ntmps39
  go_upto_region 1 with (fail)
  rw [HW.out]
  obtain ⟨zc0, zc1⟩ := kC.out _ HB_0
  have hbF := below_ext HBw.out HB_0.out
  go_wp2
  go_ret
  exact ⟨by first | rfl | rw [hr1], hbF⟩
theorem before_0 (O : Option Addr) (n c : Nat) (K : Option Addr) (m d : Nat) (w : World) : Calls Tryd.prog 43 #[tlV O n c K m d, .int .i64 0] w fun e' w' => e' = .returned (.agg (arr .u8 (zer 32))) ∧ Below w.heap.size w w' := by
  obtain ⟨W, hW⟩ : ∃ W, (w.alloc (tlO O n c K m d)).alloc (.cells #[.int .u8 0, .int .u8 0, .int .u8 0, .int .u8 0, .int .u8 0, .int .u8 0, .int .u8 0, .int .u8 0, .int .u8 0, .int .u8 0, .int .u8 0, .int .u8 0, .int .u8 0, .int .u8 0, .int .u8 0, .int .u8 0, .int .u8 0, .int .u8 0, .int .u8 0, .int .u8 0, .int .u8 0, .int .u8 0, .int .u8 0, .int .u8 0, .int .u8 0, .int .u8 0, .int .u8 0, .int .u8 0, .int .u8 0, .int .u8 0, .int .u8 0, .int .u8 0] 43) = W := ⟨_, rfl⟩
  have HBX : Hid (Below w.heap.size w W) := Lib.hid (by rw [← hW]; exact below_two (Below.refl _ _))
  have HR0 : Hid (Blk .u8 43 W (w.heap.size + 1) (zer 32)) := Lib.hid (by rw [← hW, zarrh]; exact heap_alloc2_new _ _ _)
  have HW := Lib.hid hW
  clear hW
  go_enter Tryd.func43, Tryd.ntmps43
  go_upto_region 1 with (fail)
  rw [HW.out]
  go_wp2_with ((with_reducible show wpList _ _ _ (⟨none, _, _, _, _, _⟩ :: _) _ _); refine wpList_store_row rfl 43 _ _ rfl (w.heap.size + 1) (arr .u8 (zer 32)) rfl rfl _ _ HR0.out (hash_info (by simp [zer])) rfl (arr_one _) ?_)
  have hrw := HR0.out.setRow (l' := zer 32)
  exact bodyPost_ret (v := .agg (arr .u8 (zer 32))) (results_cell1 (p := 4) (ty := 43) rfl _ _ ⟨w.heap.size + 1, 0, none⟩ _ rfl (run_loadVar_row _ _ _ _ _ _ _ hrw Tryd.underlying43 rfl (hash_info (by simp [zer])))) rfl ⟨rfl, below_setRow' HBX.out (Nat.le_succ _)⟩
set_option maxHeartbeats 6400000 in
theorem digest_0 (O : Option Addr) (os : List OrdR) (n c : Nat) (K : Option Addr) (d : Nat) (hn : Hid (os.length = n)) (hI : ∀ k, k < n → OrdI (orL os k)) (hb1 : n ≤ 1000000) (hr : Kp (trlB os [] = true)) (w : World) (hv : Hid (VarsD w)) (hO : Hid (Os w O os)) (hK : Hid (Hs w K [])) :
    Calls Tryd.prog 20 #[tlV O n c K 0 d] w fun e' w' => e' = .returned (.agg (arr .u8 (zer 32))) ∧ Below w.heap.size w w' := by
  obtain ⟨w0, hW⟩ : ∃ W, ((w.alloc (tlO O n c K 0 d)).alloc (.cells #[.int .u8 0, .int .u8 0, .int .u8 0, .int .u8 0, .int .u8 0, .int .u8 0, .int .u8 0, .int .u8 0, .int .u8 0, .int .u8 0, .int .u8 0, .int .u8 0, .int .u8 0, .int .u8 0, .int .u8 0, .int .u8 0, .int .u8 0, .int .u8 0, .int .u8 0, .int .u8 0, .int .u8 0, .int .u8 0, .int .u8 0, .int .u8 0, .int .u8 0, .int .u8 0, .int .u8 0, .int .u8 0, .int .u8 0, .int .u8 0, .int .u8 0, .int .u8 0] 43)) = W := ⟨_, rfl⟩
  have HBw : Hid (Below w.heap.size w w0) := Lib.hid (by rw [← hW]; exact below_two (Below.refl _ _))
  have hc : w0.cell? ⟨w.heap.size, 0, none⟩ = some (.slice O n c) ∧ w0.cell? ⟨w.heap.size, 1, none⟩ = some (.slice K 0 d) := by rw [← hW]; exact ⟨cell_below (allocs_cell (by simp) (by rfl)) (below_box0 _ _), cell_below (allocs_cell (by simp) (by rfl)) (below_box0 _ _)⟩
  have kC := Lib.hid (show ∀ u : World, Hid (Below w0.heap.size w0 u) → u.cell? ⟨w.heap.size, 0, none⟩ = some (.slice O n c) ∧ u.cell? ⟨w.heap.size, 1, none⟩ = some (.slice K 0 d) from fun u h => ⟨cell_below hc.1 h.out, cell_below hc.2 h.out⟩)
  have kD := Lib.hid (show ∀ u : World, Hid (Below w0.heap.size w0 u) → Hid (VarsD u) from fun u h => Lib.hid ((hv.out.below) (below_ext HBw.out h.out)))
  have kOs := Lib.hid (show ∀ u : World, Hid (Below w0.heap.size w0 u) → Hid (Os u O os) from fun u h => Lib.hid ((hO.out.below) (below_ext HBw.out h.out)))
  have kHs := Lib.hid (show ∀ u : World, Hid (Below w0.heap.size w0 u) → Hid (Hs u K []) from fun u h => Lib.hid ((hK.out.below) (below_ext HBw.out h.out)))
  have HB_0 : Hid (Below w0.heap.size w0 w0) := Lib.hid (Below.refl _ _)
  have HW := Lib.hid hW
  have kRB := Lib.hid (show ∀ u : World, Hid (Below w0.heap.size w0 u) → Hid (Blk .u8 43 u (w.heap.size + 1) (zer 32)) from fun u h9 => Lib.hid (Blk.below (by rw [← hW, zarrh]; exact heap_alloc2_new _ _ _) h9.out))
  clear hW hc hv hO hK
  go_enter Tryd.func20, Tryd.ntmps20
  go_upto_region 1 with (fail)
  rw [HW.out]
  obtain ⟨zc0, zc1⟩ := kC.out _ HB_0
  go_wp2_with fail
  refine (tval_any O os n c K [] 0 d hn (Lib.hid rfl) hI hb1 (by omega) true hr _ (kD.out _ HB_0) (kOs.out _ HB_0) (kHs.out _ HB_0)).mono ?_
  rintro e w1 ⟨rfl, hb0⟩
  have HB_1 := Lib.hid (below_ext HB_0.out hb0)
  clear zc0 zc1
  clear hb0
  obtain ⟨zc0, zc1⟩ := kC.out _ HB_1
  go_wp2_with fail
  refine (before_0 O n c K 0 d _).mono ?_
  rintro e w2 ⟨rfl, hb0⟩
  have HB_2 := Lib.hid (below_ext HB_1.out hb0)
  clear zc0 zc1
  clear hb0
  obtain ⟨zc0, zc1⟩ := kC.out _ HB_2
  have HRF := kRB.out _ HB_2
  have hbF := below_setRow' (below_ext HBw.out HB_2.out) (cs := arr .u8 (zer 32)) (Nat.le_add_right w.heap.size 1)
  go_wp2_with ((with_reducible show wpList _ _ _ (⟨none, _, _, _, _, _⟩ :: _) _ _); refine wpList_store_row rfl 43 _ _ rfl (w.heap.size + 1) (arr .u8 (zer 32)) rfl rfl _ _ HRF.out (hash_info (by simp [zer])) rfl (arr_one _) ?_)
  have hrw := HRF.out.setRow (l' := zer 32)
  exact bodyPost_ret (v := .agg (arr .u8 (zer 32))) (results_cell1 (p := 2) (ty := 43) rfl _ _ ⟨w.heap.size + 1, 0, none⟩ _ rfl (run_loadVar_row _ _ _ _ _ _ _ hrw Tryd.underlying43 rfl (hash_info (by simp [zer])))) rfl ⟨rfl, hbF⟩
theorem cloneh_0 (w : World) : Calls Tryd.prog 62 #[.slice none 0 0] w fun e' w' => e' = .returned (.slice none 0 0) ∧ Below w.heap.size w w' := by
  have hq : ∀ w, (binOp .eql 23 (.slice none 0 0) (.slice none 0 0)).run Tryd.prog w = .ok (.bool true) w := fun w => by kernel_rfl
  go_enter Tryd.func62, Tryd.ntmps62
  go_wp2
  go_ret
  exact ⟨rfl, Below.refl _ _⟩
set_option maxHeartbeats 6400000 in
theorem cloned_0 (w : World) :
    Calls Tryd.prog 41 #[tlV none 0 0 none 0 0] w fun e' w' => e' = .returned (tlV none 0 0 none 0 0) ∧ Below w.heap.size w w' := by
  obtain ⟨w0, hW⟩ : ∃ W, ((w.alloc (tlO none 0 0 none 0 0)).alloc (.cells #[.slice none 0 0, .slice none 0 0] 25)) = W := ⟨_, rfl⟩
  have HBw : Hid (Below w.heap.size w w0) := Lib.hid (by rw [← hW]; exact below_two (Below.refl _ _))
  have hc : w0.cell? ⟨w.heap.size, 0, none⟩ = some (.slice none 0 0) ∧ w0.cell? ⟨w.heap.size, 1, none⟩ = some (.slice none 0 0) := by rw [← hW]; exact ⟨cell_below (allocs_cell (by simp) (by rfl)) (below_box0 _ _), cell_below (allocs_cell (by simp) (by rfl)) (below_box0 _ _)⟩
  have kC := Lib.hid (show ∀ u : World, Hid (Below w0.heap.size w0 u) → u.cell? ⟨w.heap.size, 0, none⟩ = some (.slice none 0 0) ∧ u.cell? ⟨w.heap.size, 1, none⟩ = some (.slice none 0 0) from fun u h => ⟨cell_below hc.1 h.out, cell_below hc.2 h.out⟩)
  have HB_0 : Hid (Below w0.heap.size w0 w0) := Lib.hid (Below.refl _ _)
  have HW := Lib.hid hW
  have kRB := Lib.hid (show ∀ u : World, Hid (Below w0.heap.size w0 u) → Hid (u.heap[w.heap.size + 1]? = some (.cells #[.slice none 0 0, .slice none 0 0] 25)) from fun u h => Lib.hid (blk_below (by rw [← hW]; exact heap_alloc2_new _ _ _) h.out))
  clear hW hc 
  go_enter Tryd.func41, Tryd.ntmps41
  go_upto_region 1 with (fail)
  rw [HW.out]
  obtain ⟨zc0, zc1⟩ := kC.out _ HB_0
  go_wp2_with fail
  refine (cloneh_0 _).mono ?_
  rintro e w1 ⟨rfl, hb0⟩
  have HB_1 := Lib.hid (below_ext HB_0.out hb0)
  clear zc0 zc1
  clear hb0
  obtain ⟨zc0, zc1⟩ := kC.out _ HB_1
  have hq0 := below_box0 w1 (.cells #[.slice none 0 0, .slice none 0 0] 25)
  have HB_2 := Lib.hid (below_ext HB_1.out hq0)
  clear hq0
  obtain ⟨zc0x, zc1x⟩ := kC.out _ HB_2
  have hbk : (w1.alloc (.cells #[.slice none 0 0, .slice none 0 0] 25)).heap[w1.heap.size]? = some (.cells #[.slice none 0 0, .slice none 0 0] 25) := heap_alloc_new _ _
  have y0 := cell_blk hbk 0
  have y1 := cell_blk hbk 1
  clear hbk
  go_wp2
  go_loopw [16] (fun i u => i = .int .i64 0 ∧ u = w1.alloc (.cells #[.slice none 0 0, .slice none 0 0] 25)) (fun _ _ => 0)
  case atStart => exact ⟨rfl, rfl⟩
  case round =>
    obtain ⟨rfl, rfl⟩ := hrel
    have HRF := kRB.out _ HB_2
    have hbF := below_setRow' (below_ext HBw.out HB_2.out) (cs := #[.slice none 0 0, .slice none 0 0]) (Nat.le_add_right w.heap.size 1)
    go_wp2_with ((with_reducible show wpList _ _ _ (⟨none, _, _, _, _, _⟩ :: _) _ _); refine wpList_store_row rfl 25 _ _ rfl (w.heap.size + 1) #[.slice none 0 0, .slice none 0 0] rfl rfl _ _ HRF.out (by kernel_rfl) rfl (by simp [Value.oneCell']) ?_)
    have hrw := setRow_heap _ _ _ #[.slice none 0 0, .slice none 0 0] _ _ HRF.out
    exact bodyPost_ret (v := tlV none 0 0 none 0 0) (results_cell1 (p := 2) (ty := 25) rfl _ _ ⟨w.heap.size + 1, 0, none⟩ _ rfl (run_loadVar_row _ _ _ _ _ _ _ hrw Tryd.underlying25 rfl (by kernel_rfl))) rfl ⟨rfl, hbF⟩
theorem Sl.setRowS {w : World} {A : Option Addr} {xs : List Int} {a : Nat} {cs : Array Value} (h : Sl w A xs) (hne : ∀ b o, A = some ⟨b, o, none⟩ → 0 < xs.length → a < b) : Sl (w.setRow a cs) A xs := fun k hk => by
  obtain ⟨b, o, e, hc⟩ := h k hk
  have := hne b o e (by omega)
  exact ⟨b, o, e, (cell_agree (setRow_other w a b cs (by omega))).trans hc⟩
def PrOutT (na : Nat) (al : List Int) (C : Int) (nz : Nat) (zs : List Int) (w : World) (e : Ending) (w' : World) : Prop := ∃ A ca Z cz, e = .returned (prvL A na ca C Z nz cz) ∧ Sl w' A al ∧ Sl w' Z zs ∧ Below w.heap.size w w'
set_option maxHeartbeats 12800000 in
theorem proof_any (A : Option Addr) (na ca : Nat) (al : List Int) (C : Int) (Z : Option Addr) (nz cz : Nat) (zs : List Int) (hna : Hid (al.length = na)) (hnz : Hid (zs.length = nz)) (hb1 : na ≤ 100000) (hb2 : nz ≤ 100000) (w : World) (hA : Hid (Sl w A al)) (hZ : Hid (Sl w Z zs)) :
    Calls Tryd.prog 40 #[prvL A na ca C Z nz cz] w (PrOutT na al C nz zs w) := by
  obtain ⟨w0, hW⟩ : ∃ W, ((w.alloc (prObjL A na ca C Z nz cz)).alloc (.cells #[.slice none 0 0, .int .i64 0, .slice none 0 0] 32)) = W := ⟨_, rfl⟩
  have HBw : Hid (Below w.heap.size w w0) := Lib.hid (by rw [← hW]; exact below_two (Below.refl _ _))
  have hc : w0.cell? ⟨w.heap.size, 0, none⟩ = some (.slice A na ca) ∧ w0.cell? ⟨w.heap.size, 1, none⟩ = some (.int .i64 C) ∧ w0.cell? ⟨w.heap.size, 2, none⟩ = some (.slice Z nz cz) := by rw [← hW]; exact ⟨cell_below (allocs_cell (by simp) (by rfl)) (below_box0 _ _), cell_below (allocs_cell (by simp) (by rfl)) (below_box0 _ _), cell_below (allocs_cell (by simp) (by rfl)) (below_box0 _ _)⟩
  have kC := Lib.hid (show ∀ u : World, Hid (Below w0.heap.size w0 u) → u.cell? ⟨w.heap.size, 0, none⟩ = some (.slice A na ca) ∧ u.cell? ⟨w.heap.size, 1, none⟩ = some (.int .i64 C) ∧ u.cell? ⟨w.heap.size, 2, none⟩ = some (.slice Z nz cz) from fun u h => ⟨cell_below hc.1 h.out, cell_below hc.2.1 h.out, cell_below hc.2.2 h.out⟩)
  have kA := Lib.hid (show ∀ u : World, Hid (Below w0.heap.size w0 u) → Hid (Sl u A al) from fun u h => Lib.hid ((hA.out.below) (below_ext HBw.out h.out)))
  have kZ := Lib.hid (show ∀ u : World, Hid (Below w0.heap.size w0 u) → Hid (Sl u Z zs) from fun u h => Lib.hid ((hZ.out.below) (below_ext HBw.out h.out)))
  have HB_0 : Hid (Below w0.heap.size w0 w0) := Lib.hid (Below.refl _ _)
  have HW := Lib.hid hW
  have kFr := Lib.hid (show ∀ u : World, Hid (Below w0.heap.size w0 u) → ∀ j, u.frozen? ⟨w.heap.size, j, none⟩ = false from fun u h j => frozen_blk (blk_below (by rw [← hW]; exact heap_alloc2_old _ _ _) h.out) j)
  have kRB := Lib.hid (show ∀ u : World, Hid (Below w0.heap.size w0 u) → Hid (u.heap[w.heap.size + 1]? = some (.cells #[.slice none 0 0, .int .i64 0, .slice none 0 0] 32)) from fun u h => Lib.hid (blk_below (by rw [← hW]; exact heap_alloc2_new _ _ _) h.out))
  clear hW hc hA hZ
  have HSZ0 : Hid (w0.heap.size = w.heap.size + 2) := Lib.hid (by rw [← HW.out]; simp)
  go_enter Tryd.func40, Tryd.ntmps40
  go_upto_region 1 with (fail)
  rw [HW.out]
  obtain ⟨zc0, zc1, zc2⟩ := kC.out _ HB_0
  clear zc0 zc1 zc2
  have hBx := Lib.hid (show ∀ u u2 : World, Hid (Below w0.heap.size w0 u) → Below u.heap.size u u2 → Hid (Below w0.heap.size w0 u2) from fun u u2 h1 h2 => Lib.hid (below_ext h1.out h2))
  have hS := Lib.hid (show ∀ u : World, Hid (Below w0.heap.size w0 u) → (u.cell? ⟨w.heap.size, 0, none⟩ = some (.slice A na ca) ∧ u.cell? ⟨w.heap.size, 1, none⟩ = some (.int .i64 C) ∧ u.cell? ⟨w.heap.size, 2, none⟩ = some (.slice Z nz cz)) from fun u h1 => by
    obtain ⟨y0, y1, y2⟩ := kC.out _ (Lib.hid h1.out)
    exact ⟨y0, y1, y2⟩)
  have HBA : Hid (Below w0.heap.size w0 w0) := Lib.hid HB_0.out
  have HBD := hBx.out _ _ HBA (Below.refl _ _).drew
  refine wp_region_T (S := fun w' => w'.cell? ⟨w.heap.size, 0, none⟩ = some (.slice A na ca) ∧ w'.cell? ⟨w.heap.size, 1, none⟩ = some (.int .i64 C) ∧ w'.cell? ⟨w.heap.size, 2, none⟩ = some (.slice Z nz cz)) (E := [7, 8, 9]) (by kernel_rfl) (hS.out _ HBD) (fun hHeld => ?_)
  obtain ⟨wD, hwD⟩ : ∃ u, w0.drew = u := ⟨_, rfl⟩
  rw [hwD] at HBD hHeld ⊢
  have HSZD : Hid (w0.heap.size ≤ wD.heap.size) := Lib.hid (by rw [← hwD]; exact Nat.le_refl _)
  clear hwD
  refine tkV 0 ?_
  try simp only [qq1, qq2, qq3, Act.put, qq4, qq5, qq6]
  refine tkV 1 ?_
  try simp only [qq1, qq2, qq3, Act.put, qq4, qq5, qq6]
  refine tkV 3 ?_
  try simp only [qq1, qq2, qq3, Act.put, qq4, qq5, qq6]
  refine tkV 4 ?_
  try simp only [qq1, qq2, qq3, Act.put, qq4, qq5, qq6]
  refine wpT_frame (fun T a0 hT ha0 => ?_)
  clear hHeld
  have G2_5 : ∀ (aA : Option Addr) (cA : Nat) (aZ : Option Addr) (cZ : Nat) (u : World), (Hid (Below w0.heap.size w0 u)) → (Hid (Sl u aA al ∧ (∀ b o, aA = some ⟨b, o, none⟩ → 0 < al.length → w.heap.size + 1 < b))) → (Hid (Sl u aZ zs ∧ (∀ b o, aZ = some ⟨b, o, none⟩ → 0 < zs.length → w.heap.size + 1 < b))) → T 3 #[true, true, true, true, true, true, true, false, false, false] (((a0.put (some 5) (.slice aA na cA)).put (some 9) (.pointer (some ⟨w.heap.size, 0, none⟩))).put (some 8) (.slice aZ nz cZ)) u := by
    intro aA cA aZ cZ u FB HA HZ
    have hHeld := hS.out _ FB
    rw [hT, ha0]
    try simp only [qq1, qq2, qq3, Act.put, qq4, qq5, qq6]
    have HE_w0 := Lib.hid FB.out
    obtain ⟨q0, q1, q2⟩ := kC.out _ (Lib.hid FB.out)
    have f0 := kFr.out _ (Lib.hid FB.out) 0
    have f1 := kFr.out _ (Lib.hid FB.out) 1
    have f2 := kFr.out _ (Lib.hid FB.out) 2
    refine wpT_pass (i := 7) (by kernel_rfl) (by simp) rfl (fun K hK => ?_)
    go_simp
    refine hK.out _ _ ?_
    clear hK K
    try simp only [qq1, qq2, qq3, Act.put, qq4, qq5, qq6]
    refine wpT_pass (i := 8) (by kernel_rfl) (by simp) rfl (fun K hK => ?_)
    go_simp
    refine hK.out _ _ ?_
    clear hK K
    try simp only [qq1, qq2, qq3, Act.put, qq4, qq5, qq6]
    refine wpT_pass (i := 9) (by kernel_rfl) (by simp) rfl (fun K hK => ?_)
    go_simp
    refine hK.out _ _ ?_
    clear hK K
    try simp only [qq1, qq2, qq3, Act.put, qq4, qq5, qq6]
    refine wpT_done (by kernel_rfl) ?_ _
    obtain ⟨wz, hwz⟩ : ∃ x, ((u.setCell ⟨w.heap.size, 0, none⟩ (.slice aA na cA)).setCell ⟨w.heap.size, 2, none⟩ (.slice aZ nz cZ)) = x := ⟨_, rfl⟩
    have z0 : Own wz ⟨w.heap.size, 0, none⟩ (.slice aA na cA) := by rw [← hwz]; exact own_set_ne2 (own_set_eq2 ⟨q0, f0⟩) (by simp)
    have z1 : Own wz ⟨w.heap.size, 1, none⟩ (.int .i64 C) := by rw [← hwz]; exact own_set_ne2 (own_set_ne2 ⟨q1, f1⟩ (by simp)) (by simp)
    have z2 : Own wz ⟨w.heap.size, 2, none⟩ (.slice aZ nz cZ) := by rw [← hwz]; exact own_set_eq2 (own_set_ne2 ⟨q2, f2⟩ (by simp))
    have HBz : Hid (Below w.heap.size w wz) := Lib.hid (by rw [← hwz]; exact ((below_ext HBw.out FB.out).setCell (Nat.le_refl _) _).setCell (Nat.le_refl _) _)
    have HRF : Hid (wz.heap[w.heap.size + 1]? = some (.cells #[.slice none 0 0, .int .i64 0, .slice none 0 0] 32)) := Lib.hid (by rw [← hwz]; exact (Go.Deep.blk_setCell_other _ _ _ _ (show w.heap.size + 1 ≠ w.heap.size by omega)).trans ((Go.Deep.blk_setCell_other _ _ _ _ (show w.heap.size + 1 ≠ w.heap.size by omega)).trans (kRB.out _ (Lib.hid FB.out)).out))
    have HA9 : Hid (Sl wz aA al) := Lib.hid (by rw [← hwz]; exact (HA.out.1.set (fun b o e h0 => by have := HA.out.2 b o e h0; omega)).set (fun b o e h0 => by have := HA.out.2 b o e h0; omega))
    have HZ9 : Hid (Sl wz aZ zs) := Lib.hid (by rw [← hwz]; exact (HZ.out.1.set (fun b o e h0 => by have := HZ.out.2 b o e h0; omega)).set (fun b o e h0 => by have := HZ.out.2 b o e h0; omega))
    rw [hwz]
    clear hwz q0 f0 q1 f1 q2 f2 hHeld
    obtain ⟨z0, y0⟩ := z0
    obtain ⟨z1, y1⟩ := z1
    obtain ⟨z2, y2⟩ := z2
    go_wp2_with ((with_reducible show wpList _ _ _ (⟨none, _, _, _, _, _⟩ :: _) _ _); refine wpList_store_row rfl 32 _ _ rfl (w.heap.size + 1) #[.slice aA na cA, .int .i64 C, .slice aZ nz cZ] rfl rfl _ _ HRF.out (by kernel_rfl) rfl (by simp [Value.oneCell']) ?_)
    have hrw := setRow_heap _ _ _ #[.slice aA na cA, .int .i64 C, .slice aZ nz cZ] _ _ HRF.out
    have hbF := below_setRow' HBz.out (cs := #[.slice aA na cA, .int .i64 C, .slice aZ nz cZ]) (Nat.le_add_right w.heap.size 1)
    exact bodyPost_ret (v := prvL aA na cA C aZ nz cZ) (results_cell1 (p := 2) (ty := 32) rfl _ _ ⟨w.heap.size + 1, 0, none⟩ _ rfl (run_loadVar_row _ _ _ _ _ _ _ hrw Tryd.underlying32 rfl (by kernel_rfl))) rfl ⟨aA, cA, aZ, cZ, rfl, HA9.out.setRowS (fun b o e h0 => by have := HA.out.2 b o e h0; omega), HZ9.out.setRowS (fun b o e h0 => by have := HZ.out.2 b o e h0; omega), hbF⟩
  have G2 : ∀ (aA : Option Addr) (cA : Nat) (u : World), (Hid (Below w0.heap.size w0 u)) → (Hid (Sl u aA al ∧ (∀ b o, aA = some ⟨b, o, none⟩ → 0 < al.length → w.heap.size + 1 < b))) → T 4 #[true, true, true, true, true, false, true, false, false, false] ((a0.put (some 5) (.slice aA na cA)).put (some 9) (.pointer (some ⟨w.heap.size, 0, none⟩))) u := by
    intro aA cA u FB HA
    have hHeld := hS.out _ FB
    rw [hT, ha0]
    try simp only [qq1, qq2, qq3, Act.put, qq4, qq5, qq6]
    refine wpT_one (i := 5) (by kernel_rfl) rfl (fun K hK => ?_)
    go_simp
    refine (clones_any Z zs nz cz hnz (by omega) _ (kZ.out _ (Lib.hid FB.out))).mono ?_
    rintro e wB ⟨aB, cB, rfl, hs9, hg9, hq⟩
    have FB2 := hBx.out _ _ FB hq
    refine hK.out _ _ ?_ (fun hHeld => ?_)
    · exact hS.out _ FB2
    clear hK K hHeld
    try simp only [qq1, qq2, qq3, Act.put, qq4, qq5, qq6]
    have hG := G2_5 aA cA aB cB wB FB2 (Lib.hid ⟨HA.out.1.below hq, HA.out.2⟩) (Lib.hid ⟨hs9, fun b o e h0 => by obtain ⟨g9, e9, hl9⟩ := hg9 h0; rw [e9] at e; cases e; have := FB.out.size; have := HSZ0.out; omega⟩)
    rw [hT, ha0] at hG
    (try simp only [qq1, qq2, qq3, Act.put, qq4, qq5, qq6] at hG)
    exact hG
  have G0 : ∀  (u : World), (Hid (Below w0.heap.size w0 u)) → T 6 #[true, true, false, true, true, false, false, false, false, false] a0 u := by
    intro  u FB
    have hHeld := hS.out _ FB
    rw [hT, ha0]
    try simp only [qq1, qq2, qq3, Act.put, qq4, qq5, qq6]
    refine wpT_one (i := 2) (by kernel_rfl) rfl (fun K hK => ?_)
    go_simp
    refine (clones_any A al na ca hna (by omega) _ (kA.out _ (Lib.hid FB.out))).mono ?_
    rintro e wB ⟨aB, cB, rfl, hs9, hg9, hq⟩
    have FB2 := hBx.out _ _ FB hq
    refine hK.out _ _ ?_ (fun hHeld => ?_)
    · exact hS.out _ FB2
    clear hK K
    try simp only [qq1, qq2, qq3, Act.put, qq4, qq5, qq6]
    refine tkV 6 ?_
    try simp only [qq1, qq2, qq3, Act.put, qq4, qq5, qq6]
    clear hHeld
    have hG := G2 aB cB wB FB2 (Lib.hid ⟨hs9, fun b o e h0 => by obtain ⟨g9, e9, hl9⟩ := hg9 h0; rw [e9] at e; cases e; have := FB.out.size; have := HSZ0.out; omega⟩)
    rw [hT, ha0] at hG
    (try simp only [qq1, qq2, qq3, Act.put, qq4, qq5, qq6] at hG)
    exact hG
  exact G0 _ HBD
theorem own_gne {g t n c : Nat} (h : g ≠ t) : (Value.slice (some ⟨g, 0, none⟩) n c).ownBlock ≠ some t := fun e => h (by simpa [Value.ownBlock] using e)
set_option maxHeartbeats 12800000 in
theorem open_6 (O : Option Addr) (os : List OrdR) (n c : Nat) (K : Option Addr) (hs : List (List Int)) (m d : Nat) (hn : Hid (os.length = n + 1)) (hm : Hid (hs.length = m)) (hI : ∀ k, k < n + 1 → OrdI (orL os k)) (hb1 : n + 1 ≤ 1000000) (hb2 : m ≤ 1000000) (E1 E2 : Int) (A : Option Addr) (na ca : Nat) (C : Int) (Z : Option Addr) (nz cz : Nat) (s : ByteArray) (hrs : Hid (rsB s = true)) (hsh : Hid (shB na nz = true)) (hr : Kp (trlB os hs = true)) (ho9 : Hid (opnB os (n + 1) = true)) (w : World) (hv : Hid (VarsD w)) (hO : Hid (Os w O os)) (hK : Hid (Hs w K hs)) :
    Calls Tryd.prog 15 #[tlV O (n + 1) c K m d, .string s, esV E1 E2 A na ca C Z nz cz] w fun e' w' => e' = .returned (.tuple #[tlV none 0 0 none 0 0, .int .i64 0, .int .i64 6]) ∧ Below w.heap.size w w' := by
  obtain ⟨w0, hW⟩ : ∃ W, (((w.alloc (tlO O (n + 1) c K m d)).alloc (esO E1 E2 A na ca C Z nz cz)).alloc (.cells #[.slice none 0 0, .slice none 0 0] 25)) = W := ⟨_, rfl⟩
  have HBw : Hid (Below w.heap.size w w0) := Lib.hid (by rw [← hW]; exact (((Below.refl _ _).alloc (Nat.le_refl _) _).alloc (by simp) _).alloc (by simp; omega) _)
  have hc : w0.cell? ⟨w.heap.size, 0, none⟩ = some (.slice O (n + 1) c) ∧ w0.cell? ⟨w.heap.size, 1, none⟩ = some (.slice K m d) ∧ w0.cell? ⟨w.heap.size + 1, 0, none⟩ = some (.int .i64 E1) ∧ w0.cell? ⟨w.heap.size + 1, 1, none⟩ = some (.int .i64 E2) ∧ w0.cell? ⟨w.heap.size + 1, 2, none⟩ = some (.slice A na ca) ∧ w0.cell? ⟨w.heap.size + 1, 3, none⟩ = some (.int .i64 C) ∧ w0.cell? ⟨w.heap.size + 1, 4, none⟩ = some (.slice Z nz cz) := by rw [← hW]; exact ⟨cell_below (cell_below (allocs_cell (by simp) (by rfl)) (below_box0 _ _)) (below_box0 _ _), cell_below (cell_below (allocs_cell (by simp) (by rfl)) (below_box0 _ _)) (below_box0 _ _), cell_below (allocs_cell (by simp) (by rfl)) (below_box0 _ _), cell_below (allocs_cell (by simp) (by rfl)) (below_box0 _ _), cell_below (allocs_cell (by simp) (by rfl)) (below_box0 _ _), cell_below (allocs_cell (by simp) (by rfl)) (below_box0 _ _), cell_below (allocs_cell (by simp) (by rfl)) (below_box0 _ _)⟩
  have kC := Lib.hid (show ∀ u : World, Hid (Below w0.heap.size w0 u) → u.cell? ⟨w.heap.size, 0, none⟩ = some (.slice O (n + 1) c) ∧ u.cell? ⟨w.heap.size, 1, none⟩ = some (.slice K m d) ∧ u.cell? ⟨w.heap.size + 1, 0, none⟩ = some (.int .i64 E1) ∧ u.cell? ⟨w.heap.size + 1, 1, none⟩ = some (.int .i64 E2) ∧ u.cell? ⟨w.heap.size + 1, 2, none⟩ = some (.slice A na ca) ∧ u.cell? ⟨w.heap.size + 1, 3, none⟩ = some (.int .i64 C) ∧ u.cell? ⟨w.heap.size + 1, 4, none⟩ = some (.slice Z nz cz) from fun u h => ⟨cell_below hc.1 h.out, cell_below hc.2.1 h.out, cell_below hc.2.2.1 h.out, cell_below hc.2.2.2.1 h.out, cell_below hc.2.2.2.2.1 h.out, cell_below hc.2.2.2.2.2.1 h.out, cell_below hc.2.2.2.2.2.2 h.out⟩)
  have kD := Lib.hid (show ∀ u : World, Hid (Below w0.heap.size w0 u) → Hid (VarsD u) from fun u h => Lib.hid ((hv.out.below) (below_ext HBw.out h.out)))
  have kOs := Lib.hid (show ∀ u : World, Hid (Below w0.heap.size w0 u) → Hid (Os u O os) from fun u h => Lib.hid ((hO.out.below) (below_ext HBw.out h.out)))
  have kHs := Lib.hid (show ∀ u : World, Hid (Below w0.heap.size w0 u) → Hid (Hs u K hs) from fun u h => Lib.hid ((hK.out.below) (below_ext HBw.out h.out)))
  have HB_0 : Hid (Below w0.heap.size w0 w0) := Lib.hid (Below.refl _ _)
  have HW := Lib.hid hW
  have kRB := Lib.hid (show ∀ u : World, Hid (Below w0.heap.size w0 u) → Hid (u.heap[w.heap.size + 2]? = some (.cells #[.slice none 0 0, .slice none 0 0] 25)) from fun u h => Lib.hid (blk_below (by rw [← hW]; exact heap_alloc3_new _ _ _ _) h.out))
  clear hW hc hv hO hK
  go_enter Tryd.func15, Tryd.ntmps15
  go_upto_region 1 with (fail)
  rw [HW.out]
  obtain ⟨zc0, zc1, zc2, zc3, zc4, zc5, zc6⟩ := kC.out _ HB_0
  go_wp2_with fail
  refine (tval_any O os (n + 1) c K hs m d hn hm hI hb1 hb2 true hr _ (kD.out _ HB_0) (kOs.out _ HB_0) (kHs.out _ HB_0)).mono ?_
  rintro e w1 ⟨rfl, hb0⟩
  have HB_1 := Lib.hid (below_ext HB_0.out hb0)
  clear zc0 zc1 zc2 zc3 zc4 zc5 zc6
  clear hb0
  obtain ⟨zc0, zc1, zc2, zc3, zc4, zc5, zc6⟩ := kC.out _ HB_1
  go_wp2_with fail
  refine (reason_any s true hrs _).mono ?_
  rintro e9 w9 ⟨rfl, hw9⟩
  rw [hw9]
  clear hw9
  go_wp2_with fail
  refine (tshort_any A na ca C Z nz cz true hsh _).mono ?_
  rintro e w2 ⟨rfl, hb0⟩
  have HB_2 := Lib.hid (below_ext HB_1.out hb0)
  clear zc0 zc1 zc2 zc3 zc4 zc5 zc6
  clear hb0
  obtain ⟨zc0, zc1, zc2, zc3, zc4, zc5, zc6⟩ := kC.out _ HB_2
  go_wp2_with fail
  refine (open_1 O os n c K m d hn (by omega) true ho9 _ (kOs.out _ HB_2)).mono ?_
  rintro e w3 ⟨rfl, hb0⟩
  have HB_3 := Lib.hid (below_ext HB_2.out hb0)
  clear zc0 zc1 zc2 zc3 zc4 zc5 zc6
  clear hb0
  obtain ⟨zc0, zc1, zc2, zc3, zc4, zc5, zc6⟩ := kC.out _ HB_3
  have HRF := kRB.out _ HB_3
  have hbF := below_setRow' (below_ext HBw.out HB_3.out) (cs := #[.slice none 0 0, .slice none 0 0]) (Nat.le_add_right w.heap.size 2)
  go_wp2_with ((with_reducible show wpList _ _ _ (⟨none, _, _, _, _, _⟩ :: _) _ _); refine wpList_store_row rfl 25 _ _ rfl (w.heap.size + 2) #[.slice none 0 0, .slice none 0 0] rfl rfl _ _ HRF.out (by kernel_rfl) rfl (by simp [Value.oneCell']) ?_)
  have hrw := setRow_heap _ _ _ #[.slice none 0 0, .slice none 0 0] _ _ HRF.out
  exact bodyPost_ret (v := .tuple #[tlV none 0 0 none 0 0, .int .i64 0, .int .i64 6]) (results_cell_tmp3 (p := 6) (q := 7) (r := 8) (ty := 25) rfl _ _ ⟨w.heap.size + 2, 0, none⟩ _ _ _ rfl rfl rfl (run_loadVar_row _ _ _ _ _ _ _ hrw Tryd.underlying25 rfl (by kernel_rfl))) rfl ⟨rfl, hbF⟩
def OpnE (s : ByteArray) (w : World) (e : Ending) (w' : World) : Prop := ∃ (g cap : Nat) (A : Option Addr) (ca : Nat) (Z : Option Addr) (cz : Nat), e = .returned (.tuple #[tlV (some ⟨g, 0, none⟩) 1 cap none 0 0, .int .i64 0, .int .i64 0]) ∧ Os w' (some ⟨g, 0, none⟩) [⟨0, s, 1, 1, A, 0, ca, [], 0, Z, 0, cz, [], none, 0, 0, [], 0⟩] ∧ Below w.heap.size w w'
set_option maxHeartbeats 25600000 in
theorem open_e (s : ByteArray) (hrs : Hid (rsB s = true)) (w : World) (hv : Hid (VarsD w)) :
    Calls Tryd.prog 15 #[tlV none 0 0 none 0 0, .string s, esV 1 1 none 0 0 0 none 0 0] w (OpnE s w) := by
  obtain ⟨w0, hW⟩ : ∃ W, (((w.alloc (tlO none 0 0 none 0 0)).alloc (esO 1 1 none 0 0 0 none 0 0)).alloc (.cells #[.slice none 0 0, .slice none 0 0] 25)) = W := ⟨_, rfl⟩
  have HBw : Hid (Below w.heap.size w w0) := Lib.hid (by rw [← hW]; exact (((Below.refl _ _).alloc (Nat.le_refl _) _).alloc (by simp) _).alloc (by simp; omega) _)
  have hc : w0.cell? ⟨w.heap.size, 0, none⟩ = some (.slice none 0 0) ∧ w0.cell? ⟨w.heap.size, 1, none⟩ = some (.slice none 0 0) ∧ w0.cell? ⟨w.heap.size + 1, 0, none⟩ = some (.int .i64 1) ∧ w0.cell? ⟨w.heap.size + 1, 1, none⟩ = some (.int .i64 1) ∧ w0.cell? ⟨w.heap.size + 1, 2, none⟩ = some (.slice none 0 0) ∧ w0.cell? ⟨w.heap.size + 1, 3, none⟩ = some (.int .i64 0) ∧ w0.cell? ⟨w.heap.size + 1, 4, none⟩ = some (.slice none 0 0) := by rw [← hW]; exact ⟨cell_below (cell_below (allocs_cell (by simp) (by rfl)) (below_box0 _ _)) (below_box0 _ _), cell_below (cell_below (allocs_cell (by simp) (by rfl)) (below_box0 _ _)) (below_box0 _ _), cell_below (allocs_cell (by simp) (by rfl)) (below_box0 _ _), cell_below (allocs_cell (by simp) (by rfl)) (below_box0 _ _), cell_below (allocs_cell (by simp) (by rfl)) (below_box0 _ _), cell_below (allocs_cell (by simp) (by rfl)) (below_box0 _ _), cell_below (allocs_cell (by simp) (by rfl)) (below_box0 _ _)⟩
  have kC := Lib.hid (show ∀ u : World, Hid (Below w0.heap.size w0 u) → u.cell? ⟨w.heap.size, 0, none⟩ = some (.slice none 0 0) ∧ u.cell? ⟨w.heap.size, 1, none⟩ = some (.slice none 0 0) ∧ u.cell? ⟨w.heap.size + 1, 0, none⟩ = some (.int .i64 1) ∧ u.cell? ⟨w.heap.size + 1, 1, none⟩ = some (.int .i64 1) ∧ u.cell? ⟨w.heap.size + 1, 2, none⟩ = some (.slice none 0 0) ∧ u.cell? ⟨w.heap.size + 1, 3, none⟩ = some (.int .i64 0) ∧ u.cell? ⟨w.heap.size + 1, 4, none⟩ = some (.slice none 0 0) from fun u h => ⟨cell_below hc.1 h.out, cell_below hc.2.1 h.out, cell_below hc.2.2.1 h.out, cell_below hc.2.2.2.1 h.out, cell_below hc.2.2.2.2.1 h.out, cell_below hc.2.2.2.2.2.1 h.out, cell_below hc.2.2.2.2.2.2 h.out⟩)
  have kD := Lib.hid (show ∀ u : World, Hid (Below w0.heap.size w0 u) → Hid (VarsD u) from fun u h => Lib.hid ((hv.out.below) (below_ext HBw.out h.out)))
  have HB_0 : Hid (Below w0.heap.size w0 w0) := Lib.hid (Below.refl _ _)
  have HW := Lib.hid hW
  have kFr := Lib.hid (show ∀ u : World, Hid (Below w0.heap.size w0 u) → ∀ j, u.frozen? ⟨w.heap.size + 1, j, none⟩ = false from fun u h j => frozen_blk (blk_below (by rw [← hW]; exact blk_below (heap_alloc2_new _ _ _) (below_box0 _ _)) h.out) j)
  have kRB := Lib.hid (show ∀ u : World, Hid (Below w0.heap.size w0 u) → Hid (u.heap[w.heap.size + 2]? = some (.cells #[.slice none 0 0, .slice none 0 0] 25)) from fun u h => Lib.hid (blk_below (by rw [← hW]; exact heap_alloc3_new _ _ _ _) h.out))
  clear hW hc hv
  go_enter Tryd.func15, Tryd.ntmps15
  go_upto_region 1 with (fail)
  rw [HW.out]
  obtain ⟨zc0, zc1, zc2, zc3, zc4, zc5, zc6⟩ := kC.out _ HB_0
  have HSZ0 : Hid (w0.heap.size = w.heap.size + 3) := Lib.hid (by rw [← HW.out]; simp)
  obtain ⟨i1, hi1, hy0, hy1, hy2⟩ := info_parts ordInfo
  go_wp2_with fail
  refine (tval_any none [] 0 0 none [] 0 0 (Lib.hid rfl) (Lib.hid rfl) (fun k h => absurd h (by omega)) (by omega) (by omega) true ⟨by decide⟩ _ (kD.out _ HB_0) (Lib.hid (fun k h => absurd h (by simp))) (Lib.hid (fun k h => absurd h (by simp)))).mono ?_
  rintro e w1 ⟨rfl, hb0⟩
  have HB_1 := Lib.hid (below_ext HB_0.out hb0)
  clear zc0 zc1 zc2 zc3 zc4 zc5 zc6
  clear hb0
  obtain ⟨zc0, zc1, zc2, zc3, zc4, zc5, zc6⟩ := kC.out _ HB_1
  go_wp2_with fail
  refine (reason_any s true hrs _).mono ?_
  rintro e9 w9 ⟨rfl, hw9⟩
  rw [hw9]
  clear hw9
  go_wp2_with fail
  refine (tshort_any none 0 0 0 none 0 0 true (Lib.hid rfl) _).mono ?_
  rintro e w2 ⟨rfl, hb0⟩
  have HB_2 := Lib.hid (below_ext HB_1.out hb0)
  clear zc0 zc1 zc2 zc3 zc4 zc5 zc6
  clear hb0
  obtain ⟨zc0, zc1, zc2, zc3, zc4, zc5, zc6⟩ := kC.out _ HB_2
  go_wp2_with fail
  refine (open_0 none 0 none 0 0 _).mono ?_
  rintro e w3 ⟨rfl, hb0⟩
  have HB_3 := Lib.hid (below_ext HB_2.out hb0)
  clear zc0 zc1 zc2 zc3 zc4 zc5 zc6
  clear hb0
  obtain ⟨zc0, zc1, zc2, zc3, zc4, zc5, zc6⟩ := kC.out _ HB_3
  go_wp2_with fail
  refine (proof_any none 0 0 [] 0 none 0 0 [] (Lib.hid rfl) (Lib.hid rfl) (by omega) (by omega) _ (Lib.hid (sl0 _ _)) (Lib.hid (sl0 _ _))).mono ?_
  rintro e w4 ⟨A, ca, Z, cz, rfl, _, _, hb0⟩
  have HB_4 := Lib.hid (below_ext HB_3.out hb0)
  clear zc0 zc1 zc2 zc3 zc4 zc5 zc6
  clear hb0
  obtain ⟨zc0, zc1, zc2, zc3, zc4, zc5, zc6⟩ := kC.out _ HB_4
  have f0 := kFr.out _ HB_4 0
  have f1 := kFr.out _ HB_4 1
  have f2 := kFr.out _ HB_4 2
  have f3 := kFr.out _ HB_4 3
  have f4 := kFr.out _ HB_4 4
  go_upto_region 10 with (fail)
  obtain ⟨wz, hwz⟩ : ∃ x, (((w4.setCell ⟨w.heap.size + 1, 2, none⟩ (.slice A 0 ca)).setCell ⟨w.heap.size + 1, 3, none⟩ (.int .i64 0)).setCell ⟨w.heap.size + 1, 4, none⟩ (.slice Z 0 cz)) = x := ⟨_, rfl⟩
  have HE : Hid (wz.cell? ⟨w.heap.size + 1, 0, none⟩ = some (.int .i64 1) ∧ wz.cell? ⟨w.heap.size + 1, 1, none⟩ = some (.int .i64 1) ∧ wz.cell? ⟨w.heap.size + 1, 2, none⟩ = some (.slice A 0 ca) ∧ wz.cell? ⟨w.heap.size + 1, 3, none⟩ = some (.int .i64 0) ∧ wz.cell? ⟨w.heap.size + 1, 4, none⟩ = some (.slice Z 0 cz)) := Lib.hid (by
    rw [← hwz]
    exact ⟨(own_set_ne2 (own_set_ne2 (own_set_ne2 ⟨zc2, f0⟩ (by simp)) (by simp)) (by simp)).1, (own_set_ne2 (own_set_ne2 (own_set_ne2 ⟨zc3, f1⟩ (by simp)) (by simp)) (by simp)).1, (own_set_ne2 (own_set_ne2 (own_set_eq2 ⟨zc4, f2⟩) (by simp)) (by simp)).1, (own_set_ne2 (own_set_eq2 (own_set_ne2 ⟨zc5, f3⟩ (by simp))) (by simp)).1, (own_set_eq2 (own_set_ne2 (own_set_ne2 ⟨zc6, f4⟩ (by simp)) (by simp))).1⟩)
  have HT : Hid (wz.cell? ⟨w.heap.size, 0, none⟩ = some (.slice none 0 0) ∧ wz.cell? ⟨w.heap.size, 1, none⟩ = some (.slice none 0 0)) := Lib.hid (by
    rw [← hwz]
    exact ⟨by rw [World.cell?_setCell_other _ _ _ _ (by simp), World.cell?_setCell_other _ _ _ _ (by simp), World.cell?_setCell_other _ _ _ _ (by simp)]; exact zc0, by rw [World.cell?_setCell_other _ _ _ _ (by simp), World.cell?_setCell_other _ _ _ _ (by simp), World.cell?_setCell_other _ _ _ _ (by simp)]; exact zc1⟩)
  have HBz : Hid (Below w.heap.size w wz) := Lib.hid (by rw [← hwz]; exact (((below_ext HBw.out HB_4.out).setCell (by simp) _).setCell (by simp) _).setCell (by simp) _)
  have HRz : Hid (wz.heap[w.heap.size + 2]? = some (.cells #[.slice none 0 0, .slice none 0 0] 25)) := Lib.hid (by rw [← hwz]; exact (Go.Deep.blk_setCell_other _ _ _ _ (show w.heap.size + 2 ≠ w.heap.size + 1 by omega)).trans ((Go.Deep.blk_setCell_other _ _ _ _ (show w.heap.size + 2 ≠ w.heap.size + 1 by omega)).trans ((Go.Deep.blk_setCell_other _ _ _ _ (show w.heap.size + 2 ≠ w.heap.size + 1 by omega)).trans (kRB.out _ HB_4).out)))
  have HSz : Hid (w.heap.size + 3 ≤ wz.heap.size) := Lib.hid (by rw [← hwz, World.size_setCell, World.size_setCell, World.size_setCell]; have := (HB_4).out.size; have := HSZ0.out; omega)
  rw [hwz]
  clear hwz f0 f1 f2 f3 f4
  clear zc0 zc1 zc2 zc3 zc4 zc5 zc6
  clear kC kFr kD
  have kC := Lib.hid (show ∀ u : World, Hid (Below wz.heap.size wz u) → u.cell? ⟨w.heap.size, 0, none⟩ = some (.slice none 0 0) ∧ u.cell? ⟨w.heap.size, 1, none⟩ = some (.slice none 0 0) from fun u h => ⟨cell_below HT.out.1 h.out, cell_below HT.out.2 h.out⟩)
  have HB_z : Hid (Below wz.heap.size wz wz) := Lib.hid (Below.refl _ _)
  have hBx := Lib.hid (show ∀ u u2 : World, Hid (Below wz.heap.size wz u) → Below u.heap.size u u2 → Hid (Below wz.heap.size wz u2) from fun u u2 h1 h2 => Lib.hid (below_ext h1.out h2))
  have hS := Lib.hid (show ∀ u : World, Hid (Below wz.heap.size wz u) → (u.cell? ⟨w.heap.size, 0, none⟩ = some (.slice none 0 0) ∧ u.cell? ⟨w.heap.size, 1, none⟩ = some (.slice none 0 0)) from fun u h1 => by
    obtain ⟨y0, y1⟩ := kC.out _ (Lib.hid h1.out)
    exact ⟨y0, y1⟩)
  have HBA : Hid (Below wz.heap.size wz wz) := Lib.hid HB_z.out
  have HBD := hBx.out _ _ HBA (Below.refl _ _).drew
  refine wp_region_T (S := fun w' => w'.cell? ⟨w.heap.size, 0, none⟩ = some (.slice none 0 0) ∧ w'.cell? ⟨w.heap.size, 1, none⟩ = some (.slice none 0 0)) (E := [7]) (by kernel_rfl) (hS.out _ HBD) (fun hHeld => ?_)
  obtain ⟨wD, hwD⟩ : ∃ u, wz.drew = u := ⟨_, rfl⟩
  rw [hwD] at HBD hHeld ⊢
  have HSZD : Hid (wz.heap.size ≤ wD.heap.size) := Lib.hid (by rw [← hwD]; exact Nat.le_refl _)
  clear hwD
  refine tkV 0 ?_
  try simp only [qq1, qq2, qq3, Act.put, qq4, qq5, qq6]
  refine tkV 2 ?_
  try simp only [qq1, qq2, qq3, Act.put, qq4, qq5, qq6]
  refine tkV 3 ?_
  try simp only [qq1, qq2, qq3, Act.put, qq4, qq5, qq6]
  refine tkV 4 ?_
  try simp only [qq1, qq2, qq3, Act.put, qq4, qq5, qq6]
  refine wpT_frame (fun T a0 hT ha0 => ?_)
  clear hHeld
  have G1_5_6 : ∀ (gT : Nat) (u : World), (Hid (Below wz.heap.size wz u)) → (Hid (u.heap[gT]? = some (.cells #[.slice none 0 0, .slice none 0 0] 25))) → (Hid (wz.heap.size ≤ gT)) → T 1 #[true, true, true, true, true, true, true, false] ((a0.put (some 42) (tlV none 0 0 none 0 0)).put (some 9) (.pointer (some ⟨gT, 0, none⟩))) u := by
    intro gT u FB FT FTl
    have hHeld := hS.out _ FB
    rw [hT, ha0]
    try simp only [qq1, qq2, qq3, Act.put, qq4, qq5, qq6]
    have HE_wz := Lib.hid FB.out
    refine wpT_pass (i := 7) (by kernel_rfl) (by simp) rfl (fun K hK => ?_)
    go_simp
    refine hK.out _ _ ?_
    clear hK K
    try simp only [qq1, qq2, qq3, Act.put, qq4, qq5, qq6]
    refine wpT_done (by kernel_rfl) ?_ _
    clear hHeld hT ha0
    obtain ⟨wq, hwq⟩ : ∃ x, u = x := ⟨_, rfl⟩
    have HTq : Hid (wq.heap[gT]? = some (.cells #[.slice none 0 0, .slice none 0 0] 25)) := Lib.hid (by rw [← hwq]; exact FT.out)
    have HBq : Hid (Below wz.heap.size wz wq) := Lib.hid (by rw [← hwq]; exact FB.out)
    rw [hwq]
    clear hwq FT
    have HE5 : Hid (wq.cell? ⟨w.heap.size + 1, 0, none⟩ = some (.int .i64 1) ∧ wq.cell? ⟨w.heap.size + 1, 1, none⟩ = some (.int .i64 1) ∧ wq.cell? ⟨w.heap.size + 1, 2, none⟩ = some (.slice A 0 ca) ∧ wq.cell? ⟨w.heap.size + 1, 3, none⟩ = some (.int .i64 0) ∧ wq.cell? ⟨w.heap.size + 1, 4, none⟩ = some (.slice Z 0 cz)) := Lib.hid ⟨cell_below HE.out.1 HBq.out, cell_below HE.out.2.1 HBq.out, cell_below HE.out.2.2.1 HBq.out, cell_below HE.out.2.2.2.1 HBq.out, cell_below HE.out.2.2.2.2 HBq.out⟩
    obtain ⟨e0, e1, e2, e3, e4⟩ := HE5.out
    have t0 := cell_blk HTq.out 0
    have t1 := cell_blk HTq.out 1
    have y0 := frozen_blk HTq.out 0
    have hown : (wq.alloc (.cells #[.int .i64 0, .string s, .int .i64 1, .int .i64 1, .slice A 0 ca, .int .i64 0, .slice Z 0 cz, .slice none 0 0, .int .i64 0] 37)).ownsRow wq.heap.size 37 9 (.slice none 0 0) 0 [] := World.ownsRow_nil _ _ _ _
    have b5 : 0 + 1 ≤ maxLen := by unfold maxLen; omega
    have HTa := Lib.hid (below_box0 wq (.cells #[.int .i64 0, .string s, .int .i64 1, .int .i64 1, .slice A 0 ca, .int .i64 0, .slice Z 0 cz, .slice none 0 0, .int .i64 0] 37))
    have hno8 : (Value.slice none 0 0).ownBlock ≠ some gT := fun e => by cases e
    go_upto_region 12 with (at_builtin; refine wpList_append_lies rfl _ _ 22 rfl wq.heap.size 37 i1 (.agg #[.int .i64 0, .string ⟨#[]⟩, .int .i64 0, .int .i64 0, .slice none 0 0, .int .i64 0, .slice none 0 0, .slice none 0 0, .int .i64 0]) 9 128 Tryd.underlying22 hi1 hy0 hy1 hy2 (by rfl) (by decide) _ _ _ rfl hown ⟨wq.heap.size, 0, none⟩ 1 1 [.int .i64 0, .string s, .int .i64 1, .int .i64 1, .slice A 0 ca, .int .i64 0, .slice Z 0 cz, .slice none 0 0, .int .i64 0] rfl rfl (World.news_of_block (cs := #[.int .i64 0, .string s, .int .i64 1, .int .i64 1, .slice A 0 ca, .int .i64 0, .slice Z 0 cz, .slice none 0 0, .int .i64 0]) (t := 37) (fr := (0, 0)) (heap_alloc_new wq _)) (by simp [Value.oneCell']) (by decide) b5 (by decide) (by simp) _ rfl ?_; intro gg cap w8 hown8 hgrow8 hgg8 hlt8; obtain ⟨p1, p2⟩ := own_grown2 (w := wq.alloc (.cells #[.int .i64 0, .string s, .int .i64 1, .int .i64 1, .slice A 0 ca, .int .i64 0, .slice Z 0 cz, .slice none 0 0, .int .i64 0] 37)) ((show Own wq ⟨gT, 0, none⟩ (.slice none 0 0) from ⟨t0, y0⟩).below HTa.out) hgrow8 hno8; obtain ⟨p3, p4⟩ := own_grown2 (w := wq.alloc (.cells #[.int .i64 0, .string s, .int .i64 1, .int .i64 1, .slice A 0 ca, .int .i64 0, .slice Z 0 cz, .slice none 0 0, .int .i64 0] 37)) ((show Own wq ⟨gT, 1, none⟩ (.slice none 0 0) from ⟨t1, frozen_blk HTq.out 1⟩).below HTa.out) hgrow8 hno8)
    have hown9 : w8.ownsRow wq.heap.size 37 9 (.slice (some ⟨gg, 0, none⟩) 1 cap) 1 ([(⟨0, s, 1, 1, A, 0, ca, [], 0, Z, 0, cz, [], none, 0, 0, [], 0⟩ : OrdR)].flatMap ordC) := by simpa using hown8
    have HB8 : Hid (Below wq.heap.size wq w8) := Lib.hid (((Below.refl wq.heap.size wq).alloc (Nat.le_refl _) (.cells #[.int .i64 0, .string s, .int .i64 1, .int .i64 1, .slice A 0 ca, .int .i64 0, .slice Z 0 cz, .slice none 0 0, .int .i64 0] 37)).grown hgrow8 (by simp) (fun j hj => by cases hj))
    have hgq : wq.heap.size ≤ gg := (World.ownsRow.lt hown9 gg rfl).1
    have hgT : gT < wq.heap.size := heap_lt HTq.out
    obtain ⟨w9, hw9⟩ : ∃ x, w8.setCell ⟨gT, 0, none⟩ (.slice (some ⟨gg, 0, none⟩) 1 cap) = x := ⟨_, rfl⟩
    have T0 : Own w9 ⟨gT, 0, none⟩ (.slice (some ⟨gg, 0, none⟩) 1 cap) := by rw [← hw9]; exact own_set_eq2 ⟨p1, p2⟩
    have T1 : Own w9 ⟨gT, 1, none⟩ (.slice none 0 0) := by rw [← hw9]; exact own_set_ne2 ⟨p3, p4⟩ (by simp)
    have HO9 : Hid (w9.ownsRow wq.heap.size 37 9 (.slice (some ⟨gg, 0, none⟩) 1 cap) 1 ([(⟨0, s, 1, 1, A, 0, ca, [], 0, Z, 0, cz, [], none, 0, 0, [], 0⟩ : OrdR)].flatMap ordC)) := Lib.hid (by rw [← hw9]; exact World.ownsRow.kept hown9 (grown_set2 _ _ _ _) (Or.inr (own_gne (by omega))))
    have HB9 : Hid (Below wz.heap.size wz w9) := Lib.hid (by rw [← hw9]; exact (below_ext HBq.out HB8.out).setCell FTl.out _)
    have HR9 : Hid (w9.heap[w.heap.size + 2]? = some (.cells #[.slice none 0 0, .slice none 0 0] 25)) := Lib.hid (blk_below HRz.out HB9.out)
    rw [hw9]
    clear hw9 hown hown8 hown9 hgrow8 hgg8 hlt8 p1 p2 p3 p4 e0 e1 e2 e3 e4 t0 t1 y0 b5 hgq hgT
    obtain ⟨t0, y0⟩ := T0
    obtain ⟨t1, y1⟩ := T1
    go_wp2_with ((with_reducible show wpList _ _ _ (⟨none, _, _, _, _, _⟩ :: _) _ _); refine wpList_store_row rfl 25 _ _ rfl (w.heap.size + 2) #[.slice (some ⟨gg, 0, none⟩) 1 cap, .slice none 0 0] rfl rfl _ _ HR9.out (by kernel_rfl) rfl (by simp [Value.oneCell']) ?_)
    have hrw := setRow_heap _ _ _ #[.slice (some ⟨gg, 0, none⟩) 1 cap, .slice none 0 0] _ _ HR9.out
    have hbF := below_setRow' (below_ext HBz.out HB9.out) (cs := #[.slice (some ⟨gg, 0, none⟩) 1 cap, .slice none 0 0]) (Nat.le_add_right w.heap.size 2)
    have HOF := World.ownsRow.kept HO9.out (grown_setRow w9 (w.heap.size + 2) #[.slice (some ⟨gg, 0, none⟩) 1 cap, .slice none 0 0]) (Or.inr (own_gne (by have := (World.ownsRow.lt HO9.out gg rfl).1; have := HBq.out.size; have := HSz.out; omega)))
    obtain ⟨g5, cap5, e5, _, _, _, _, hcs5⟩ := own_cells ordC 9 noOrd HOF rfl (fun _ _ => rfl) (by decide)
    cases e5
    refine bodyPost_ret (v := .tuple #[tlV (some ⟨gg, 0, none⟩) 1 cap none 0 0, .int .i64 0, .int .i64 0]) (results_cell_tmp3 (p := 6) (q := 7) (r := 8) (ty := 25) rfl _ _ ⟨w.heap.size + 2, 0, none⟩ _ _ _ rfl rfl rfl (run_loadVar_row _ _ _ _ _ _ _ hrw Tryd.underlying25 rfl (by kernel_rfl))) rfl ⟨gg, cap, A, ca, Z, cz, rfl, fun k hk => ?_, hbF⟩
    obtain rfl : k = 0 := by simpa using hk
    refine ⟨gg, 0, rfl, ⟨?_, ?_, ?_, ?_, ?_, ?_, ?_, ?_, ?_⟩, rfl, rfl, ⟨rfl, Nat.le_refl _⟩, sl0 _ _, sl0 _ _, fun j hj => absurd hj (by simp)⟩
    all_goals simp only [Nat.zero_mul, Nat.add_zero, Nat.zero_add]
    · have h9 := hcs5 0 (by decide) 0 (by decide); simpa using h9
    · have h9 := hcs5 0 (by decide) 1 (by decide); simpa using h9
    · have h9 := hcs5 0 (by decide) 2 (by decide); simpa using h9
    · have h9 := hcs5 0 (by decide) 3 (by decide); simpa using h9
    · have h9 := hcs5 0 (by decide) 4 (by decide); simpa using h9
    · have h9 := hcs5 0 (by decide) 5 (by decide); simpa using h9
    · have h9 := hcs5 0 (by decide) 6 (by decide); simpa using h9
    · have h9 := hcs5 0 (by decide) 7 (by decide); simpa using h9
    · have h9 := hcs5 0 (by decide) 8 (by decide); simpa using h9
  have G1_5 : ∀ (gT : Nat) (u : World), (Hid (Below wz.heap.size wz u)) → (Hid (u.heap[gT]? = some (.cells #[.slice none 0 0, .slice none 0 0] 25))) → (Hid (wz.heap.size ≤ gT)) → T 2 #[true, true, true, true, true, true, false, false] ((a0.put (some 42) (tlV none 0 0 none 0 0)).put (some 9) (.pointer (some ⟨gT, 0, none⟩))) u := by
    intro gT u FB FT FTl
    have hHeld := hS.out _ FB
    rw [hT, ha0]
    try simp only [qq1, qq2, qq3, Act.put, qq4, qq5, qq6]
    refine wpT_one (i := 6) (by kernel_rfl) rfl (fun K hK => ?_)
    rw [show (if Region.wanted _ _ = true then _ else _ : Prop) = _ from if_pos rfl]
    refine wp_store_row 25 _ _ rfl gT #[.slice none 0 0, .slice none 0 0] rfl rfl 25 _ FT.out (by kernel_rfl) rfl (by simp [Value.oneCell']) ?_
    have FB2 : Hid (Below wz.heap.size wz (u.setRow gT #[.slice none 0 0, .slice none 0 0])) := Lib.hid (below_setRow' FB.out FTl.out)
    refine hK.out _ _ ?_ (fun hHeld => ?_)
    · exact hS.out _ FB2
    clear hK K hHeld
    try simp only [qq1, qq2, qq3, Act.put, qq4, qq5, qq6]
    have hG := G1_5_6 gT (u.setRow gT #[.slice none 0 0, .slice none 0 0]) FB2 (Lib.hid (setRow_heap _ _ _ _ _ _ FT.out)) FTl
    rw [hT, ha0] at hG
    (try simp only [qq1, qq2, qq3, Act.put, qq4, qq5, qq6] at hG)
    exact hG
  have G1 : ∀  (u : World), (Hid (Below wz.heap.size wz u)) → T 3 #[true, true, true, true, true, false, false, false] (a0.put (some 42) (tlV none 0 0 none 0 0)) u := by
    intro  u FB
    have hHeld := hS.out _ FB
    rw [hT, ha0]
    try simp only [qq1, qq2, qq3, Act.put, qq4, qq5, qq6]
    refine wpT_one (i := 5) (by kernel_rfl) rfl (fun K hK => ?_)
    go_simp
    have FB2 := hBx.out _ _ FB (below_box0 u (.cells #[.slice none 0 0, .slice none 0 0] 25))
    refine hK.out _ _ ?_ (fun hHeld => ?_)
    · exact hS.out _ FB2
    clear hK K hHeld
    try simp only [qq1, qq2, qq3, Act.put, qq4, qq5, qq6]
    have hG := G1_5 u.heap.size (u.alloc (.cells #[.slice none 0 0, .slice none 0 0] 25)) FB2 (Lib.hid (heap_alloc_new u _)) (Lib.hid FB.out.size)
    rw [hT, ha0] at hG
    (try simp only [qq1, qq2, qq3, Act.put, qq4, qq5, qq6] at hG)
    exact hG
  have G5 : ∀ (gT : Nat) (u : World), (Hid (Below wz.heap.size wz u)) → (Hid (u.heap[gT]? = some (.cells #[.slice none 0 0, .slice none 0 0] 25))) → (Hid (wz.heap.size ≤ gT)) → T 3 #[true, false, true, true, true, true, false, false] (a0.put (some 9) (.pointer (some ⟨gT, 0, none⟩))) u := by
    intro gT u FB FT FTl
    have hHeld := hS.out _ FB
    rw [hT, ha0]
    try simp only [qq1, qq2, qq3, Act.put, qq4, qq5, qq6]
    refine wpT_one (i := 1) (by kernel_rfl) rfl (fun K hK => ?_)
    go_simp
    refine (cloned_0 _).mono ?_
    rintro e wB ⟨rfl, hq⟩
    have FB2 := hBx.out _ _ FB hq
    refine hK.out _ _ ?_ (fun hHeld => ?_)
    · exact hS.out _ FB2
    clear hK K hHeld
    try simp only [qq1, qq2, qq3, Act.put, qq4, qq5, qq6]
    have hG := G1_5 gT wB FB2 (Lib.hid (blk_below FT.out hq)) (FTl)
    rw [hT, ha0] at hG
    (try simp only [qq1, qq2, qq3, Act.put, qq4, qq5, qq6] at hG)
    exact hG
  have G0 : ∀  (u : World), (Hid (Below wz.heap.size wz u)) → T 4 #[true, false, true, true, true, false, false, false] a0 u := by
    intro  u FB
    have hHeld := hS.out _ FB
    rw [hT, ha0]
    try simp only [qq1, qq2, qq3, Act.put, qq4, qq5, qq6]
    refine wpT_two (i1 := 1) (i2 := 5) (by kernel_rfl) rfl rfl (fun K hK => ?_) (fun K hK => ?_)
    · skip
      go_simp
      refine (cloned_0 _).mono ?_
      rintro e wB ⟨rfl, hq⟩
      have FB2 := hBx.out _ _ FB hq
      refine hK.out _ _ ?_ (fun hHeld => ?_)
      · exact hS.out _ FB2
      clear hK K hHeld
      try simp only [qq1, qq2, qq3, Act.put, qq4, qq5, qq6]
      have hG := G1  wB FB2
      rw [hT, ha0] at hG
      (try simp only [qq1, qq2, qq3, Act.put, qq4, qq5, qq6] at hG)
      exact hG
    · skip
      go_simp
      have FB2 := hBx.out _ _ FB (below_box0 u (.cells #[.slice none 0 0, .slice none 0 0] 25))
      refine hK.out _ _ ?_ (fun hHeld => ?_)
      · exact hS.out _ FB2
      clear hK K hHeld
      try simp only [qq1, qq2, qq3, Act.put, qq4, qq5, qq6]
      have hG := G5 u.heap.size (u.alloc (.cells #[.slice none 0 0, .slice none 0 0] 25)) FB2 (Lib.hid (heap_alloc_new u _)) (Lib.hid FB.out.size)
      rw [hT, ha0] at hG
      (try simp only [qq1, qq2, qq3, Act.put, qq4, qq5, qq6] at hG)
      exact hG
  exact G0 _ HBD
theorem wpList_eql_hash {ops : Array Oper} {rest : List Oper} {o : Oper} {a : Act} {w : World} {Q : Exit → Act → World → Prop} (hw : Region.wanted o (yielded ops a.tmps) = true) (x y : Operand) (t : TypeId) (ho : o.op = .binOp .eql 43 x y t)
    (h h' : List Int) (hl : h.length = 32) (hl' : h'.length = 32) (hx : a.eval x = .agg (arr .u8 h)) (hy : a.eval y = .agg (arr .u8 h')) (r : Bool) (hr : (h == h') = r)
    (hK : wpList Tryd.prog ops Q rest (a.put o.dst (.bool r)) w) : wpList Tryd.prog ops Q (o :: rest) a w :=
  wpList_step fun K hK' => by
    rw [if_pos hw]
    unfold Oper.wp execOp
    simp only [ho, hx, hy, Sem.run_bind, run_eqGuard_agg (P := Tryd.prog) w .eql 43 x y _ _ noGuardH, run_eql_struct, run_equalIn_arrH (P := Tryd.prog) w 9998 43 5 32 (by kernel_rfl) (by kernel_rfl) szU8H h h' hl hl', hr, Result.andThen_ok]
    exact hK' _ _ hK
set_option maxHeartbeats 12800000 in
theorem awake51 (w : World) (hv : Hid (VarsD w)) :
    Calls Tryd.prog 5 #[] w fun e' w' => e' = .returned (.bool true) ∧ Below w.heap.size w w' := by
  obtain ⟨w0, hW⟩ : ∃ W, w = W := ⟨_, rfl⟩
  have HBw : Hid (Below w.heap.size w w0) := Lib.hid (by rw [← hW]; exact Below.refl _ _)
  have kC := Lib.hid (show ∀ u : World, Hid (Below w0.heap.size w0 u) → True from fun _ _ => trivial)
  have kD := Lib.hid (show ∀ u : World, Hid (Below w0.heap.size w0 u) → Hid (VarsD u) from fun u h => Lib.hid ((hv.out.below) (below_ext HBw.out h.out)))
  have HB_0 : Hid (Below w0.heap.size w0 w0) := Lib.hid (Below.refl _ _)
  have HW := Lib.hid hW
  clear hW hv
  go_enter Tryd.func5, Tryd.ntmps5
  go_wp2_with fail
  rw [HW.out]
  go_wp2_with fail
  refine (new_any _).mono ?_
  rintro e w1 ⟨rfl, hb0⟩
  have HB_1 := Lib.hid (below_ext HB_0.out hb0)
  clear hb0
  go_wp2_with fail
  refine (open_e ⟨#[119, 104, 121]⟩ (Lib.hid rfl) _ (kD.out _ HB_1)).mono ?_
  rintro e w2 ⟨g, cap, A, ca, Z, cz, rfl, hos, hb0⟩
  have HOS := Lib.hid hos
  clear hos
  have HB_2 := Lib.hid (below_ext HB_1.out hb0)
  clear hb0
  have HB_w2_2 : Hid (Below w2.heap.size w2 w2) := Lib.hid (Below.refl _ _)
  have kO := Lib.hid (show ∀ u : World, Hid (Below w2.heap.size w2 u) → Hid (Os u (some ⟨g, 0, none⟩) [(⟨0, ⟨#[119, 104, 121]⟩, 1, 1, A, 0, ca, [], 0, Z, 0, cz, [], none, 0, 0, [], 0⟩ : OrdR)]) from fun u h => Lib.hid (HOS.out.below h.out))
  have hI : ∀ k, k < 0 + 1 → OrdI (orL [(⟨0, ⟨#[119, 104, 121]⟩, 1, 1, A, 0, ca, [], 0, Z, 0, cz, [], none, 0, 0, [], 0⟩ : OrdR)] k) := fun k hk => by
    obtain rfl : k = 0 := by omega
    show i64 0 ∧ i64 1 ∧ i64 1 ∧ i64 0 ∧ i64 0 ∧ (∀ x ∈ ([] : List Int), i64 x) ∧ (∀ x ∈ ([] : List Int), i64 x) ∧ ∀ p ∈ ([] : List PartR), PartI p
    exact ⟨⟨by decide, by decide⟩, ⟨by decide, by decide⟩, ⟨by decide, by decide⟩, ⟨by decide, by decide⟩, ⟨by decide, by decide⟩, fun x hx => absurd hx (by simp), fun x hx => absurd hx (by simp), fun x hx => absurd hx (by simp)⟩
  have HI := Lib.hid hI
  have HTR : Kp (trlB [(⟨0, ⟨#[119, 104, 121]⟩, 1, 1, A, 0, ca, [], 0, Z, 0, cz, [], none, 0, 0, [], 0⟩ : OrdR)] [] = true) := ⟨by rfl⟩
  have HON : Hid (opnB [(⟨0, ⟨#[119, 104, 121]⟩, 1, 1, A, 0, ca, [], 0, Z, 0, cz, [], none, 0, 0, [], 0⟩ : OrdR)] (0 + 1) = true) := Lib.hid (by rfl)
  clear hI
  have hq := below_box0 w2 (tlO (some ⟨g, 0, none⟩) 1 cap none 0 0)
  have HB_3 := Lib.hid (below_ext HB_2.out hq)
  have HB_w2_3 := Lib.hid (below_ext HB_w2_2.out hq)
  have hc : (w2.alloc (tlO (some ⟨g, 0, none⟩) 1 cap none 0 0)).cell? ⟨w2.heap.size, 0, none⟩ = some (.slice (some ⟨g, 0, none⟩) 1 cap) ∧ (w2.alloc (tlO (some ⟨g, 0, none⟩) 1 cap none 0 0)).cell? ⟨w2.heap.size, 1, none⟩ = some (.slice none 0 0) := ⟨allocs_cell rfl (by rfl), allocs_cell rfl (by rfl)⟩
  have HC3 := Lib.hid hc
  clear hq
  obtain ⟨zq0, zq1⟩ := hc
  go_wp2_with fail
  obtain ⟨w3, hw⟩ : ∃ x, (w2.alloc (tlO (some ⟨g, 0, none⟩) 1 cap none 0 0)) = x := ⟨_, rfl⟩
  rw [hw] at HC3 HB_3 HB_w2_3 ⊢
  have HSN3 : Hid (w3.heap.size = w2.heap.size + 1) := Lib.hid (by rw [← hw]; simp)
  clear zq0 zq1
  clear hw
  have HB_w3_3 : Hid (Below w3.heap.size w3 w3) := Lib.hid (Below.refl _ _)
  have kT := Lib.hid (show ∀ u : World, Hid (Below w3.heap.size w3 u) → u.cell? ⟨w2.heap.size, 0, none⟩ = some (.slice (some ⟨g, 0, none⟩) 1 cap) ∧ u.cell? ⟨w2.heap.size, 1, none⟩ = some (.slice none 0 0) from fun u h => ⟨cell_below HC3.out.1 h.out, cell_below HC3.out.2 h.out⟩)
  obtain ⟨kT_0, kT_1⟩ := kT.out _ HB_w3_3
  go_wp2_with fail
  refine (open_6 (some ⟨g, 0, none⟩) [(⟨0, ⟨#[119, 104, 121]⟩, 1, 1, A, 0, ca, [], 0, Z, 0, cz, [], none, 0, 0, [], 0⟩ : OrdR)] 0 cap none [] 0 0 (Lib.hid rfl) (Lib.hid rfl) HI.out (by omega) (by omega) 0 0 none 0 0 0 none 0 0 ⟨#[119, 104, 121]⟩ (Lib.hid rfl) (Lib.hid rfl) HTR HON _ (kD.out _ HB_3) (kO.out _ HB_w2_3) (Lib.hid (fun k h => absurd h (by simp)))).mono ?_
  rintro e w4 ⟨rfl, hb0⟩
  have HB_4 := Lib.hid (below_ext HB_3.out hb0)
  have HB_w2_4 := Lib.hid (below_ext HB_w2_3.out hb0)
  have HB_w3_4 := Lib.hid (below_ext HB_w3_3.out hb0)
  clear kT_0 kT_1
  clear hb0
  obtain ⟨kT_0, kT_1⟩ := kT.out _ HB_w3_4
  have hq := below_box0 w4 (tlO none 0 0 none 0 0)
  have HB_5 := Lib.hid (below_ext HB_4.out hq)
  have HB_w2_5 := Lib.hid (below_ext HB_w2_4.out hq)
  have HB_w3_5 := Lib.hid (below_ext HB_w3_4.out hq)
  have hc : (w4.alloc (tlO none 0 0 none 0 0)).cell? ⟨w4.heap.size, 0, none⟩ = some (.slice none 0 0) ∧ (w4.alloc (tlO none 0 0 none 0 0)).cell? ⟨w4.heap.size, 1, none⟩ = some (.slice none 0 0) := ⟨allocs_cell rfl (by rfl), allocs_cell rfl (by rfl)⟩
  have HC5 := Lib.hid hc
  clear kT_0 kT_1
  clear hq
  obtain ⟨kT_0, kT_1⟩ := kT.out _ HB_w3_5
  obtain ⟨zq0, zq1⟩ := hc
  go_wp2_with fail
  obtain ⟨w5, hw⟩ : ∃ x, (w4.alloc (tlO none 0 0 none 0 0)) = x := ⟨_, rfl⟩
  rw [hw] at HC5 HB_5 HB_w2_5 HB_w3_5 ⊢
  have HSN5 : Hid (w5.heap.size = w4.heap.size + 1) := Lib.hid (by rw [← hw]; simp)
  clear kT_0 kT_1 zq0 zq1
  clear hw
  have HB_w5_5 : Hid (Below w5.heap.size w5 w5) := Lib.hid (Below.refl _ _)
  have kT2 := Lib.hid (show ∀ u : World, Hid (Below w5.heap.size w5 u) → u.cell? ⟨w4.heap.size, 0, none⟩ = some (.slice none 0 0) ∧ u.cell? ⟨w4.heap.size, 1, none⟩ = some (.slice none 0 0) from fun u h => ⟨cell_below HC5.out.1 h.out, cell_below HC5.out.2 h.out⟩)
  obtain ⟨kT_0, kT_1⟩ := kT.out _ HB_w3_5
  obtain ⟨kT2_0, kT2_1⟩ := kT2.out _ HB_w5_5
  go_wp2_with fail
  refine (tval_any (some ⟨g, 0, none⟩) [(⟨0, ⟨#[119, 104, 121]⟩, 1, 1, A, 0, ca, [], 0, Z, 0, cz, [], none, 0, 0, [], 0⟩ : OrdR)] 1 cap none [] 0 0 (Lib.hid rfl) (Lib.hid rfl) HI.out (by omega) (by omega) true HTR _ (kD.out _ HB_5) (kO.out _ HB_w2_5) (Lib.hid (fun k h => absurd h (by simp)))).mono ?_
  rintro e w6 ⟨rfl, hb0⟩
  have HB_6 := Lib.hid (below_ext HB_5.out hb0)
  have HB_w2_6 := Lib.hid (below_ext HB_w2_5.out hb0)
  have HB_w3_6 := Lib.hid (below_ext HB_w3_5.out hb0)
  have HB_w5_6 := Lib.hid (below_ext HB_w5_5.out hb0)
  clear kT_0 kT_1 kT2_0 kT2_1
  clear hb0
  obtain ⟨kT_0, kT_1⟩ := kT.out _ HB_w3_6
  obtain ⟨kT2_0, kT2_1⟩ := kT2.out _ HB_w5_6
  go_wp2_with fail
  refine (digest_0 (some ⟨g, 0, none⟩) [(⟨0, ⟨#[119, 104, 121]⟩, 1, 1, A, 0, ca, [], 0, Z, 0, cz, [], none, 0, 0, [], 0⟩ : OrdR)] 1 cap none 0 (Lib.hid rfl) HI.out (by omega) HTR _ (kD.out _ HB_6) (kO.out _ HB_w2_6) (Lib.hid (fun k h => absurd h (by simp)))).mono ?_
  rintro e w7 ⟨rfl, hb0⟩
  have HB_7 := Lib.hid (below_ext HB_6.out hb0)
  have HB_w2_7 := Lib.hid (below_ext HB_w2_6.out hb0)
  have HB_w3_7 := Lib.hid (below_ext HB_w3_6.out hb0)
  have HB_w5_7 := Lib.hid (below_ext HB_w5_6.out hb0)
  clear kT_0 kT_1 kT2_0 kT2_1
  clear hb0
  obtain ⟨kT_0, kT_1⟩ := kT.out _ HB_w3_7
  obtain ⟨kT2_0, kT2_1⟩ := kT2.out _ HB_w5_7
  have hbF := below_ext HBw.out HB_7.out
  go_wp2_with ((with_reducible show wpList _ _ _ (⟨some 51, _, _, _, _, _⟩ :: _) _ _); refine wpList_eql_hash (by rfl) _ _ _ rfl (zer 32) (zer 32) (by simp [zer]) (by simp [zer]) rfl rfl true (by simp) ?_)
  go_ret
  exact ⟨rfl, hbF⟩
set_option maxHeartbeats 3200000 in
theorem rbefore_0 (O : Option Addr) (n c : Nat) (K : Option Addr) (m d : Nat) (w : World) : Calls Tryd.prog 13 #[tlV O n c K m d, .int .i64 0] w fun e' w' => e' = .returned (.agg (arr .u8 (zer 32))) ∧ Below w.heap.size w w' := by
  obtain ⟨W, hW⟩ : ∃ W, (w.alloc (tlO O n c K m d)).alloc (.cells #[.int .u8 0, .int .u8 0, .int .u8 0, .int .u8 0, .int .u8 0, .int .u8 0, .int .u8 0, .int .u8 0, .int .u8 0, .int .u8 0, .int .u8 0, .int .u8 0, .int .u8 0, .int .u8 0, .int .u8 0, .int .u8 0, .int .u8 0, .int .u8 0, .int .u8 0, .int .u8 0, .int .u8 0, .int .u8 0, .int .u8 0, .int .u8 0, .int .u8 0, .int .u8 0, .int .u8 0, .int .u8 0, .int .u8 0, .int .u8 0, .int .u8 0, .int .u8 0] 43) = W := ⟨_, rfl⟩
  have HBX : Hid (Below w.heap.size w W) := Lib.hid (by rw [← hW]; exact below_two (Below.refl _ _))
  have HR0 : Hid (Blk .u8 43 W (w.heap.size + 1) (zer 32)) := Lib.hid (by rw [← hW, zarrh]; exact heap_alloc2_new _ _ _)
  have HW := Lib.hid hW
  clear hW
  go_enter Tryd.func13, Tryd.ntmps13
  go_upto_region 1 with (fail)
  rw [HW.out]
  go_wp2_with ((with_reducible show wpList _ _ _ (⟨none, _, _, _, _, _⟩ :: _) _ _); refine wpList_store_row rfl 43 _ _ rfl (w.heap.size + 1) (arr .u8 (zer 32)) rfl rfl _ _ HR0.out (hash_info (by simp [zer])) rfl (arr_one _) ?_)
  have hrw := HR0.out.setRow (l' := (zer 32))
  exact bodyPost_ret (v := .agg (arr .u8 (zer 32))) (results_cell1 (p := 4) (ty := 43) rfl _ _ ⟨w.heap.size + 1, 0, none⟩ _ rfl (run_loadVar_row _ _ _ _ _ _ _ hrw Tryd.underlying43 rfl (hash_info (by simp [zer])))) rfl ⟨rfl, below_setRow' HBX.out (Nat.le_succ _)⟩
set_option maxHeartbeats 3200000 in
theorem rbefore_s (O : Option Addr) (n c : Nat) (K : Option Addr) (hs : List (List Int)) (m d k : Nat) (hm : Hid (hs.length = m)) (hk : k < m) (hb2 : m ≤ 1000000) (w : World) (hK : Hid (Hs w K hs)) : Calls Tryd.prog 13 #[tlV O n c K m d, .int .i64 ((k : Int) + 1)] w fun e' w' => e' = .returned (.agg (arr .u8 (hsL hs k))) ∧ Below w.heap.size w w' := by
  have d0 : decide ((k : Int) + 1 = 0) = false := by simp; omega
  have dw : IntKind.i64.wrap ((k : Int) + 1 - 1) = (k : Int) := by rw [show (k : Int) + 1 - 1 = (k : Int) by omega]; exact IntWalk.i64_in _ (by omega)
  have dw2 : wrap64 ((k : Int) + 1 - 1) = (k : Int) := by rw [show (k : Int) + 1 - 1 = (k : Int) by omega]; exact IntWalk.wrap64_in _ (by omega)
  obtain ⟨W, hW⟩ : ∃ W, (w.alloc (tlO O n c K m d)).alloc (.cells #[.int .u8 0, .int .u8 0, .int .u8 0, .int .u8 0, .int .u8 0, .int .u8 0, .int .u8 0, .int .u8 0, .int .u8 0, .int .u8 0, .int .u8 0, .int .u8 0, .int .u8 0, .int .u8 0, .int .u8 0, .int .u8 0, .int .u8 0, .int .u8 0, .int .u8 0, .int .u8 0, .int .u8 0, .int .u8 0, .int .u8 0, .int .u8 0, .int .u8 0, .int .u8 0, .int .u8 0, .int .u8 0, .int .u8 0, .int .u8 0, .int .u8 0, .int .u8 0] 43) = W := ⟨_, rfl⟩
  have HBX : Hid (Below w.heap.size w W) := Lib.hid (by rw [← hW]; exact below_two (Below.refl _ _))
  have HR0 : Hid (Blk .u8 43 W (w.heap.size + 1) (zer 32)) := Lib.hid (by rw [← hW, zarrh]; exact heap_alloc2_new _ _ _)
  have hc : W.cell? ⟨w.heap.size, 0, none⟩ = some (.slice O n c) ∧ W.cell? ⟨w.heap.size, 1, none⟩ = some (.slice K m d) := by rw [← hW]; exact ⟨cell_below (allocs_cell (by simp) (by rfl)) (below_box0 _ _), cell_below (allocs_cell (by simp) (by rfl)) (below_box0 _ _)⟩
  obtain ⟨zc0, zc1⟩ := hc
  obtain ⟨b, o, rfl, hl, hrg0⟩ := hK.out k (by rw [hm.out]; exact hk)
  have hrg := Lib.hid (rangeAt_below hrg0 HBX.out)
  obtain ⟨h, hh⟩ : ∃ h, hsL hs k = h := ⟨_, rfl⟩
  rw [hh] at hrg hl
  rw [hh]
  clear hrg0 hK hm hh
  have HW := Lib.hid hW
  clear hW
  go_enter Tryd.func13, Tryd.ntmps13
  go_upto_region 1 with (fail)
  rw [HW.out]
  go_wp2_with (first | (with_reducible show wpList _ _ _ (⟨_, .load 43 _, _, _, _, _⟩ :: _) _ _; refine wpList_load_mid rfl _ _ rfl b (o + k * 32) rfl (h.map (Value.int .u8)) _ hrg.out Tryd.underlying43 rfl (map_size hl) ?_) | ((with_reducible show wpList _ _ _ (⟨none, _, _, _, _, _⟩ :: _) _ _); refine wpList_store_row rfl 43 _ _ rfl (w.heap.size + 1) (arr .u8 h) rfl rfl _ _ HR0.out (hash_info hl) (arrs_sz (by simp [zer]) hl) (arr_one _) ?_))
  have hrw := HR0.out.setRow (l' := h)
  exact bodyPost_ret (v := .agg (arr .u8 h)) (results_cell1 (p := 4) (ty := 43) rfl _ _ ⟨w.heap.size + 1, 0, none⟩ _ rfl (run_loadVar_row _ _ _ _ _ _ _ hrw Tryd.underlying43 rfl (hash_info hl))) rfl ⟨rfl, below_setRow' HBX.out (Nat.le_succ _)⟩
structure RowsB {α : Type _} (f : α → List Value) (s : Nat) (d : α) (w : World) (g : Nat) (l : List α) (tot : Nat) : Prop where
  at_ : ∀ k, k < l.length → w.rangeAt g (k * s) (f (l.getD k d))
  there : w.there g 0 (tot * s)
  le : l.length ≤ tot
theorem rows_own {α : Type _} (f : α → List Value) (s : Nat) (d : α) {w : World} {base n : Nat} {T : TypeId} {v : Value} {l : List α} (h : w.ownsRow base T s v n (l.flatMap f)) (hn : l.length = n) (hl : ∀ x ∈ l, (f x).length = s) (h0 : 0 < n) :
    ∃ g cap, v = .slice (some ⟨g, 0, none⟩) n cap ∧ base ≤ g ∧ g < w.heap.size ∧ (n ≤ cap ∧ cap ≤ 9223372036854775807) ∧ RowsB f s d w g l n := by
  have hmx : ∀ g cap, v = .slice (some ⟨g, 0, none⟩) n cap → cap ≤ 9223372036854775807 := fun g cap e => by
    rcases h.2 with ⟨h1, _⟩ | ⟨g2, cap2, cur, h1, _, _, _, h2, _⟩
    · rw [h1] at e; cases e
    · rw [h1] at e; cases e; simpa [maxLen] using h2
  obtain ⟨g, cap, e, hg, hgs, hc, hf, hcs⟩ := own_cells f s d h hn hl h0
  have hlen : ∀ k, k < n → (f (l.getD k d)).length = s := fun k hk => by
    rw [List.getD_eq_getElem?_getD, List.getElem?_eq_getElem (by omega)]
    exact hl _ (List.getElem_mem _)
  refine ⟨g, cap, e, hg, hgs, ⟨hc, hmx g cap e⟩, ⟨fun k hk j v hj => ?_, fun j hj => ⟨?_, by rw [Nat.zero_add]; exact hf j⟩, by omega⟩⟩
  · have hj2 : j < s := by rw [← hlen k (by omega)]; exact (List.getElem?_eq_some_iff.1 hj).1
    rw [hcs k (by omega) j hj2]; exact hj
  · have hs0 : 0 < s := by
      rcases Nat.eq_zero_or_pos s with e0 | e0
      · subst e0; simp at hj
      · exact e0
    have hk : j / s < n := (Nat.div_lt_iff_lt_mul hs0).2 hj
    have hr : j % s < s := Nat.mod_lt _ hs0
    have e1 : j = j / s * s + j % s := by rw [Nat.mul_comm]; exact (Nat.div_add_mod j s).symm
    rw [Nat.zero_add, e1, hcs _ hk _ hr, List.getElem?_eq_getElem (by rw [hlen _ hk]; exact hr)]
    rfl
theorem RowsB.agree {α : Type _} {f : α → List Value} {s : Nat} {d : α} {w w' : World} {g tot : Nat} {l : List α} (h : RowsB f s d w g l tot) (e : w'.heap[g]? = w.heap[g]?) : RowsB f s d w' g l tot :=
  ⟨fun k hk j v hj => (cell_agree e).trans (h.at_ k hk j v hj), fun j hj => ⟨by rw [cell_agree e]; exact (h.there j hj).1, by have := (h.there j hj).2; simp only [World.frozen?, e] at this ⊢; exact this⟩, h.le⟩
theorem getD_set {α : Type _} {l : List α} {i k : Nat} {x d : α} (hi : i < l.length) : (l.set i x).getD k d = if k = i then x else l.getD k d := by
  rw [List.getD_eq_getElem?_getD, List.getElem?_set]
  by_cases e : k = i
  · subst e; simp [hi]
  · rw [if_neg (fun h => e h.symm), if_neg e, List.getD_eq_getElem?_getD]
theorem row_apart {k i s : Nat} (h : k ≠ i) : k * s + s ≤ i * s ∨ i * s + s ≤ k * s := by
  rcases Nat.lt_or_gt_of_ne h with h | h
  · left; have := Nat.mul_le_mul_right s h; rw [Nat.succ_mul] at this; exact this
  · right; have := Nat.mul_le_mul_right s h; rw [Nat.succ_mul] at this; exact this
theorem RowsB.setCell {α : Type _} {f : α → List Value} {s : Nat} {d : α} {w : World} {g tot : Nat} {l : List α} (h : RowsB f s d w g l tot) (hl : ∀ x ∈ l, (f x).length = s) {i r : Nat} {x : α} {v : Value} (hi : i < l.length) (hr : r < s)
    (hx : f x = (f (l.getD i d)).set r v) : RowsB f s d (w.setCell ⟨g, i * s + r, none⟩ v) g (l.set i x) tot := by
  have hlen : ∀ k, k < l.length → (f (l.getD k d)).length = s := fun k hk => by
    rw [List.getD_eq_getElem?_getD, List.getElem?_eq_getElem hk]
    exact hl _ (List.getElem_mem _)
  refine ⟨fun k hk j u hj => ?_, fun j hj => ⟨?_, by rw [World.frozen?_setCell]; exact (h.there j hj).2⟩, by rw [List.length_set]; exact h.le⟩
  · rw [List.length_set] at hk
    rw [getD_set hi] at hj
    by_cases e : k = i
    · subst e
      rw [if_pos rfl, hx] at hj
      by_cases e2 : j = r
      · subst e2
        rw [List.getElem?_set_self (by rw [hlen k hk]; exact hr)] at hj
        cases hj
        have h0 := h.at_ k hk j _ (List.getElem?_eq_getElem (by rw [hlen k hk]; exact hr))
        exact World.cell?_setCell_same _ _ _ h0
      · rw [List.getElem?_set_ne (fun h => e2 h.symm)] at hj
        rw [World.cell?_setCell_other _ _ _ _ (fun e3 => by simp at e3 <;> omega)]
        exact h.at_ k hk j u hj
    · rw [if_neg e] at hj
      have hj2 : j < s := by rw [← hlen k hk]; exact (List.getElem?_eq_some_iff.1 hj).1
      rw [World.cell?_setCell_other _ _ _ _ (fun e3 => by
        have := row_apart (s := s) e
        simp at e3 <;> omega)]
      exact h.at_ k hk j u hj
  · obtain ⟨u, hu⟩ := Option.isSome_iff_exists.1 (h.there j hj).1
    by_cases e : (⟨g, 0 + j, none⟩ : Addr) = ⟨g, i * s + r, none⟩
    · rw [← e, World.cell?_setCell_same _ _ _ hu] <;> rfl
    · rw [World.cell?_setCell_other _ _ _ _ (fun e2 => e (by first | exact e2 | exact e2.symm)), hu]; rfl
theorem RowsB.setRow' {α : Type _} {f : α → List Value} {s : Nat} {d : α} {w : World} {g tot : Nat} {l : List α} (h : RowsB f s d w g l tot) (hl : ∀ x ∈ l, (f x).length = s) {i : Nat} {x : α} (hi : i < l.length)
    (hx : (f x).length = s) : RowsB f s d (w.setCells g (i * s) (f x)) g (l.set i x) tot := by
  have hlen : ∀ k, k < l.length → (f (l.getD k d)).length = s := fun k hk => by
    rw [List.getD_eq_getElem?_getD, List.getElem?_eq_getElem hk]
    exact hl _ (List.getElem_mem _)
  refine ⟨fun k hk => ?_, World.there_setCells h.there _ _ _, by rw [List.length_set]; exact h.le⟩
  rw [List.length_set] at hk
  rw [getD_set hi]
  by_cases e : k = i
  · subst e
    rw [if_pos rfl]
    refine World.rangeAt_setCells_same _ _ _ _ fun j hj => ?_
    have hlt : k * s + j < tot * s := by
      have := Nat.mul_le_mul_right s (show k + 1 ≤ tot by have := h.le; omega)
      rw [Nat.succ_mul] at this; omega
    have := h.there _ hlt
    rwa [Nat.zero_add] at this
  · rw [if_neg e]
    refine World.rangeAt_setCells_apart (h.at_ k hk) _ _ _ (.inr ?_)
    rw [hlen k hk, hx]
    exact row_apart e
theorem RowsB.del {α : Type _} {f : α → List Value} {s : Nat} {d : α} {w : World} {g n : Nat} {l : List α} (h : RowsB f s d w g l n) (hn : l.length = n + 1 - 1) (hl : ∀ x ∈ l, (f x).length = s) {i : Nat} (hi : i < l.length) (zs : List Value) (hz : zs.length = s) (hs : 0 < s) :
    RowsB f s d ((w.setCells g (i * s) ((l.drop (i + 1)).flatMap f)).setCells g ((n - 1) * s) zs) g (l.eraseIdx i) n := by
  have hlen : ∀ k, k < l.length → (f (l.getD k d)).length = s := fun k hk => by
    rw [List.getD_eq_getElem?_getD, List.getElem?_eq_getElem hk]
    exact hl _ (List.getElem_mem _)
  have hfl : ((l.drop (i + 1)).flatMap f).length = (n - (i + 1)) * s := by
    rw [flat_len f s _ (fun x hx => hl x (List.mem_of_mem_drop hx)), List.length_drop, hn]; simp
  have hel : (l.eraseIdx i).length = n - 1 := by rw [List.length_eraseIdx, if_pos hi]; omega
  have hge : ∀ k, k < n - 1 → (l.eraseIdx i).getD k d = if k < i then l.getD k d else l.getD (k + 1) d := fun k hk => by
    rw [List.getD_eq_getElem?_getD, List.getElem?_eraseIdx]
    split <;> rw [List.getD_eq_getElem?_getD]
  refine ⟨fun k hk => ?_, World.there_setCells (World.there_setCells h.there _ _ _) _ _ _, by omega⟩
  rw [hel] at hk
  have hkl : (f ((l.eraseIdx i).getD k d)).length = s := by
    rw [hge k hk]; split
    · exact hlen _ (by omega)
    · exact hlen _ (by omega)
  refine World.rangeAt_setCells_apart ?_ _ _ _ (.inr (.inl (by rw [hkl]; have := Nat.mul_le_mul_right s (show k + 1 ≤ n - 1 by omega); rw [Nat.succ_mul] at this; exact this)))
  by_cases hki : k < i
  · rw [hge k hk, if_pos hki]
    refine World.rangeAt_setCells_apart (h.at_ k (by omega)) _ _ _ (.inr (.inl ?_))
    rw [hlen k (by omega)]
    have := Nat.mul_le_mul_right s (show k + 1 ≤ i by omega)
    rwa [Nat.succ_mul] at this
  · intro j u hj
    have hj2 : j < s := by rw [← hkl]; exact (List.getElem?_eq_some_iff.1 hj).1
    rw [hge k hk, if_neg hki] at hj
    have e1 : k * s + j = i * s + ((k - i) * s + j) := by
      rw [← Nat.add_assoc, ← Nat.add_mul]; congr 2; omega
    have hlt : (k - i) * s + j < ((l.drop (i + 1)).flatMap f).length := by
      rw [hfl]
      have := Nat.mul_le_mul_right s (show k - i + 1 ≤ n - (i + 1) by omega)
      rw [Nat.succ_mul] at this; omega
    have hth : ∀ j, j < ((l.drop (i + 1)).flatMap f).length → (w.cell? ⟨g, i * s + j, none⟩).isSome = true := fun j hj => by
      rw [hfl] at hj
      have h1 : i * s + j < n * s := by
        have : i * s + (n - (i + 1)) * s ≤ n * s := by rw [← Nat.add_mul]; exact Nat.mul_le_mul_right _ (by omega)
        omega
      have := (h.there _ h1).1
      rwa [Nat.zero_add] at this
    rw [e1, World.cell?_setCells_in g _ _ _ hth _ hlt]
    have h2 := flat_at f s d (l.drop (i + 1)) (k - i) j (fun x hx => hl x (List.mem_of_mem_drop hx)) hj2 (by rw [List.length_drop]; omega)
    rw [List.getElem?_eq_getElem hlt] at h2
    rw [h2, List.getD_eq_getElem?_getD, List.getElem?_drop, ← List.getD_eq_getElem?_getD, show i + 1 + (k - i) = k + 1 by omega]
    exact hj
theorem run_clear_rows {P : Program} (w : World) (t e ty : TypeId) (z : Value) (s : Nat) (ht : P.underlying t = some (.slice e)) (hv : ∀ w, (zeroValue e).run P w = .ok z w) (hzs : z.cells.size = s) (h1 : ∀ v ∈ z.cells.toList, v.oneCell' = true) (b o c : Nat)
    (hc : w.there b o s) (hs : 0 < s) :
    (Builtin.clear_ #[t] ty #[.slice (some ⟨b, o, none⟩) 1 c]).run P w = .ok (.tuple #[]) (w.setCells b o z.cells.toList) := by
  have hzc : (Builtin.zeroCells z.cells 1).toList = z.cells.toList := by
    simp only [Builtin.zeroCells, Nat.one_mul]
    congr 1
    apply Array.ext
    · simp
    · intro i h1 h2
      have h3 : i % z.cells.size = i := Nat.mod_eq_of_lt h2
      simp [h3, getElem!_pos, h2]
  have hst := run_storeCells_cells (P := P) b o z.cells.toList 0 w (by intro j hj; rw [Nat.add_zero]; exact (hc j (by simpa [hzs] using hj)).1) (by intro j hj; rw [Nat.add_zero]; exact (hc j (by simpa [hzs] using hj)).2) h1
  simp only [Nat.add_zero] at hst
  simp [Builtin.clear_, run_underlying ht, hv, hzc, hst]
theorem below_setCells {B : Nat} {a : World} {b : Nat} (hb : B ≤ b) : ∀ (vs : List Value) (o : Nat) {w : World} (_ : Below B a w), Below B a (w.setCells b o vs)
  | [], _, _, h => h
  | v :: r, o, _, h => below_setCells hb r (o + 1) (h.setCell (p := ⟨b, o, none⟩) hb v)
theorem heap_setCells_ne {b g : Nat} (hg : g ≠ b) : ∀ (vs : List Value) (o : Nat) {w : World}, (w.setCells b o vs).heap[g]? = w.heap[g]?
  | [], _, _ => rfl
  | v :: r, o, w => by
    rw [World.setCells, heap_setCells_ne hg r]
    exact Go.Deep.blk_setCell_other _ _ _ _ hg
theorem size_setCells' {b : Nat} : ∀ (vs : List Value) (o : Nat) {w : World}, (w.setCells b o vs).heap.size = w.heap.size
  | [], _, _ => rfl
  | v :: r, o, w => by rw [World.setCells, size_setCells' r, World.size_setCell]
def DelOut (b : Nat) (w : World) (w' : World) : Prop := (∀ g, g ≠ b → w'.heap[g]? = w.heap[g]?) ∧ w'.heap.size = w.heap.size ∧ ∀ (B : Nat) (a : World), B ≤ b → Below B a w → Below B a w'
theorem del_out {b : Nat} {w : World} (o1 o2 : Nat) (v1 v2 : List Value) : DelOut b w ((w.drew.setCells b o1 v1).setCells b o2 v2) :=
  ⟨fun g hg => by rw [heap_setCells_ne hg, heap_setCells_ne hg]; rfl, by rw [size_setCells', size_setCells']; rfl, fun B a hb h => below_setCells hb _ _ (below_setCells hb _ _ h.drew)⟩
theorem run_zeroOf {P : Program} (w : World) {e : TypeId} {i : TypeInfo} {z : Value} (hi : P.info? e = some i) (hz : i.zero = some z) : (zeroValue e).run P w = .ok z w := by
  simp [zeroValue, typeInfo, hi, hz]
theorem ord_one (os : List OrdR) : ∀ u ∈ os.flatMap ordC, u.oneCell' = true := fun u hu => by
  obtain ⟨p, _, hp⟩ := List.mem_flatMap.1 hu
  simp at hp
  rcases hp with rfl | rfl | rfl | rfl | rfl | rfl | rfl | rfl | rfl <;> rfl
set_option maxHeartbeats 6400000 in
theorem del_ord (b cap i n : Nat) (l : List OrdR) (hn : Hid (l.length = n)) (hi : i < n) (hc : n ≤ cap) (hmx : cap ≤ 9223372036854775807) (hnb : n ≤ 1000000) (hlen : Hid (∀ x ∈ l, (ordC x).length = 9)) (w : World) (hR : Hid (RowsB ordC 9 noOrd w b l n)) :
    Calls Tryd.prog 10 #[.slice (some ⟨b, 0, none⟩) n cap, .int .i64 (i : Int), .int .i64 ((i : Int) + 1)] w fun e w' => e = .returned (.slice (some ⟨b, 0, none⟩) (n - 1) cap) ∧ RowsB ordC 9 noOrd w' b (l.eraseIdx i) n ∧ DelOut b w w' := by
  obtain ⟨i0, hi0, hz0, hz1, hz2⟩ := info_parts ordInfo
  obtain ⟨mv, hmv⟩ : ∃ x, (l.drop (i + 1)).flatMap ordC = x := ⟨_, rfl⟩
  have hml : mv.length = (n - (i + 1)) * 9 := by
    rw [← hmv, flat_len ordC 9 _ (fun x hx => hlen.out x (List.mem_of_mem_drop hx)), List.length_drop, hn.out]
  obtain ⟨A, hA, hnews⟩ : ∃ A : Addr, (if cap = i + 1 then some (⟨b, 0, none⟩ : Addr) else some ⟨b, (i + 1) * 9, none⟩) = some A ∧ Hid (∀ j u, mv[j]? = some u → w.drew.cell? (A.add j) = some u) := by
    by_cases h : cap = i + 1
    · refine ⟨⟨b, 0, none⟩, by simp [h], Lib.hid fun j u hu => ?_⟩
      have h0 : mv.length = 0 := by rw [hml, show n - (i + 1) = 0 by omega, Nat.zero_mul]
      rw [List.length_eq_zero_iff.1 h0] at hu
      simp at hu
    · refine ⟨⟨b, (i + 1) * 9, none⟩, by simp [h], Lib.hid ?_⟩
      rw [← hmv]
      refine flat_news ordC 9 noOrd (by decide) (n := n - (i + 1)) (by rw [List.length_drop, hn.out]) (fun x hx => hlen.out x (List.mem_of_mem_drop hx)) fun k hk r u hr => ?_
      have h1 := hR.out.at_ (i + 1 + k) (by rw [hn.out]; omega) r u (by
        rw [List.getD_eq_getElem?_getD, List.getElem?_drop, ← List.getD_eq_getElem?_getD] at hr; exact hr)
      rw [Nat.add_mul] at h1
      exact h1
  have s1 : Hid (mv.length = (n - (i + 1)) * 9) := Lib.hid hml
  have s2 : Hid (∀ u ∈ mv, u.oneCell' = true) := Lib.hid (by rw [← hmv]; exact ord_one _)
  have s3 : Hid (∀ j, j < mv.length → (w.drew.cell? ⟨b, 0 + i * 9 + j, none⟩).isSome = true ∧ w.drew.frozen? ⟨b, 0 + i * 9 + j, none⟩ = false) := Lib.hid fun j hj => by
    rw [hml] at hj
    have h1 : i * 9 + j < n * 9 := by
      have : i * 9 + (n - (i + 1)) * 9 ≤ n * 9 := by rw [← Nat.add_mul]; exact Nat.mul_le_mul_right _ (by omega)
      omega
    have := hR.out.there _ h1
    rw [← Nat.add_assoc] at this
    exact this
  have hic : i ≤ cap := by omega
  have hp0 : (0 : Int) ≤ (i : Int) + 1 := by omega
  have hp1 : (i : Int) + 1 ≤ (n : Int) := by omega
  have hp2 : ((i : Int) + 1).toNat = i + 1 := by omega
  have hp3 : ((i : Int) == (i : Int) + 1) = false := by simp; omega
  have hp4 : i + (n - (i + 1)) = n - 1 := by omega
  have HM := Lib.hid hmv
  clear hml hmv
  go_enter Tryd.func10, Tryd.ntmps10
  go_wp2
  go_region_law (refine step_append_room rfl (.tmp 22) (.tmp 25) 22 rfl 37 i0 9 Tryd.underlying22 hi0 hz1 b 0 i cap (by simp [Act.eval, Act.put]) A (n - (i + 1)) (cap - (i + 1)) mv (by simp [Act.eval, Act.put]) s1.out hnews.out s2.out (by omega) s3.out ?_)
  have hcn : ¬ cap = n - 1 := by omega
  have hn1 : n - 1 + 1 = n := by omega
  have hn2 : n - (n - 1) = 1 := by omega
  have hn3 : n - 1 ≤ n := by omega
  have hn4 : ((n - 1 : Nat) : Int) ≤ (n : Int) := by omega
  have hz := fun w => run_zeroOf (P := Tryd.prog) w hi0 hz0
  have hth : (w.drew.setCells b (i * 9) mv).there b ((n - 1) * 9) 9 := World.there_setCells (fun j hj => by
    have h1 : (n - 1) * 9 + j < n * 9 := by omega
    have := hR.out.there _ h1
    rw [Nat.zero_add] at this
    exact this) _ _ _
  obtain ⟨zs, hzl, hclr⟩ : ∃ zs : List Value, Hid (zs.length = 9) ∧ ∀ ty, (Builtin.clear_ #[22] ty #[.slice (some ⟨b, (n - 1) * 9, none⟩) 1 (cap - (n - 1))]).run Tryd.prog (w.drew.setCells b (i * 9) mv) = .ok (.tuple #[]) ((w.drew.setCells b (i * 9) mv).setCells b ((n - 1) * 9) zs) :=
    ⟨_, Lib.hid (by simp [Value.cells, arr, zer]), fun ty => run_clear_rows (P := Tryd.prog) _ 22 37 ty (.agg #[.int .i64 0, .string ⟨#[]⟩, .int .i64 0, .int .i64 0, .slice none 0 0, .int .i64 0, .slice none 0 0, .slice none 0 0, .int .i64 0]) 9 Tryd.underlying22 hz (by simp [Value.cells, arr, zer]) (by simp [Value.cells, Value.oneCell']) b ((n - 1) * 9) (cap - (n - 1)) hth (by decide)⟩
  clear hth hz
  go_wp2
  go_ret
  exact ⟨rfl, by rw [← HM.out]; exact RowsB.del (w := w.drew) (hR.out.agree rfl) (by rw [hn.out]; omega) hlen.out (by rw [hn.out]; exact hi) _ hzl.out (by decide), del_out _ _ _ _⟩
set_option maxHeartbeats 6400000 in
theorem del_hsh (b cap i n : Nat) (l : List (List Int)) (hn : Hid (l.length = n)) (hi : i < n) (hc : n ≤ cap) (hmx : cap ≤ 9223372036854775807) (hnb : n ≤ 1000000) (hlen : Hid (∀ x ∈ l, (hshC x).length = 32)) (w : World) (hR : Hid (RowsB hshC 32 [] w b l n)) :
    Calls Tryd.prog 11 #[.slice (some ⟨b, 0, none⟩) n cap, .int .i64 (i : Int), .int .i64 ((i : Int) + 1)] w fun e w' => e = .returned (.slice (some ⟨b, 0, none⟩) (n - 1) cap) ∧ RowsB hshC 32 [] w' b (l.eraseIdx i) n ∧ DelOut b w w' := by
  obtain ⟨i0, hi0, hz0, hz1, hz2⟩ := info_parts hshInfo
  obtain ⟨mv, hmv⟩ : ∃ x, (l.drop (i + 1)).flatMap hshC = x := ⟨_, rfl⟩
  have hml : mv.length = (n - (i + 1)) * 32 := by
    rw [← hmv, flat_len hshC 32 _ (fun x hx => hlen.out x (List.mem_of_mem_drop hx)), List.length_drop, hn.out]
  obtain ⟨A, hA, hnews⟩ : ∃ A : Addr, (if cap = i + 1 then some (⟨b, 0, none⟩ : Addr) else some ⟨b, (i + 1) * 32, none⟩) = some A ∧ Hid (∀ j u, mv[j]? = some u → w.drew.cell? (A.add j) = some u) := by
    by_cases h : cap = i + 1
    · refine ⟨⟨b, 0, none⟩, by simp [h], Lib.hid fun j u hu => ?_⟩
      have h0 : mv.length = 0 := by rw [hml, show n - (i + 1) = 0 by omega, Nat.zero_mul]
      rw [List.length_eq_zero_iff.1 h0] at hu
      simp at hu
    · refine ⟨⟨b, (i + 1) * 32, none⟩, by simp [h], Lib.hid ?_⟩
      rw [← hmv]
      refine flat_news hshC 32 [] (by decide) (n := n - (i + 1)) (by rw [List.length_drop, hn.out]) (fun x hx => hlen.out x (List.mem_of_mem_drop hx)) fun k hk r u hr => ?_
      have h1 := hR.out.at_ (i + 1 + k) (by rw [hn.out]; omega) r u (by
        rw [List.getD_eq_getElem?_getD, List.getElem?_drop, ← List.getD_eq_getElem?_getD] at hr; exact hr)
      rw [Nat.add_mul] at h1
      exact h1
  have s1 : Hid (mv.length = (n - (i + 1)) * 32) := Lib.hid hml
  have s2 : Hid (∀ u ∈ mv, u.oneCell' = true) := Lib.hid (by rw [← hmv]; exact hsh_one _)
  have s3 : Hid (∀ j, j < mv.length → (w.drew.cell? ⟨b, 0 + i * 32 + j, none⟩).isSome = true ∧ w.drew.frozen? ⟨b, 0 + i * 32 + j, none⟩ = false) := Lib.hid fun j hj => by
    rw [hml] at hj
    have h1 : i * 32 + j < n * 32 := by
      have : i * 32 + (n - (i + 1)) * 32 ≤ n * 32 := by rw [← Nat.add_mul]; exact Nat.mul_le_mul_right _ (by omega)
      omega
    have := hR.out.there _ h1
    rw [← Nat.add_assoc] at this
    exact this
  have hic : i ≤ cap := by omega
  have hp0 : (0 : Int) ≤ (i : Int) + 1 := by omega
  have hp1 : (i : Int) + 1 ≤ (n : Int) := by omega
  have hp2 : ((i : Int) + 1).toNat = i + 1 := by omega
  have hp3 : ((i : Int) == (i : Int) + 1) = false := by simp; omega
  have hp4 : i + (n - (i + 1)) = n - 1 := by omega
  have HM := Lib.hid hmv
  clear hml hmv
  go_enter Tryd.func11, Tryd.ntmps11
  go_wp2
  go_region_law (refine step_append_room rfl (.tmp 22) (.tmp 25) 23 rfl 43 i0 32 Tryd.underlying23 hi0 hz1 b 0 i cap (by simp [Act.eval, Act.put]) A (n - (i + 1)) (cap - (i + 1)) mv (by simp [Act.eval, Act.put]) s1.out hnews.out s2.out (by omega) s3.out ?_)
  have hcn : ¬ cap = n - 1 := by omega
  have hn1 : n - 1 + 1 = n := by omega
  have hn2 : n - (n - 1) = 1 := by omega
  have hn3 : n - 1 ≤ n := by omega
  have hn4 : ((n - 1 : Nat) : Int) ≤ (n : Int) := by omega
  have hz := fun w => run_zeroOf (P := Tryd.prog) w hi0 hz0
  have hth : (w.drew.setCells b (i * 32) mv).there b ((n - 1) * 32) 32 := World.there_setCells (fun j hj => by
    have h1 : (n - 1) * 32 + j < n * 32 := by omega
    have := hR.out.there _ h1
    rw [Nat.zero_add] at this
    exact this) _ _ _
  obtain ⟨zs, hzl, hclr⟩ : ∃ zs : List Value, Hid (zs.length = 32) ∧ ∀ ty, (Builtin.clear_ #[23] ty #[.slice (some ⟨b, (n - 1) * 32, none⟩) 1 (cap - (n - 1))]).run Tryd.prog (w.drew.setCells b (i * 32) mv) = .ok (.tuple #[]) ((w.drew.setCells b (i * 32) mv).setCells b ((n - 1) * 32) zs) :=
    ⟨_, Lib.hid (by simp [Value.cells, arr, zer]), fun ty => run_clear_rows (P := Tryd.prog) _ 23 43 ty (.agg (arr .u8 (zer 32))) 32 Tryd.underlying23 hz (by simp [Value.cells, arr, zer]) (fun v hv => hsh_one [zer 32] v (by simpa [Value.cells, arr, hshC] using hv)) b ((n - 1) * 32) (cap - (n - 1)) hth (by decide)⟩
  clear hth hz
  go_wp2
  go_ret
  exact ⟨rfl, by rw [← HM.out]; exact RowsB.del (w := w.drew) (hR.out.agree rfl) (by rw [hn.out]; omega) hlen.out (by rw [hn.out]; exact hi) _ hzl.out (by decide), del_out _ _ _ _⟩
theorem hb_agree {os os' : List OrdR} : ∀ {k : Nat}, (∀ j, j < k → (orL os' j).key = (orL os j).key ∧ oIt (orL os' j) = oIt (orL os j)) → hbL os' k = hbL os k
  | 0, _ => rfl
  | k + 1, h => by
    have h1 := hb_agree (k := k) fun j hj => h j (by omega)
    obtain ⟨h2, h3⟩ := h k (by omega)
    rw [hbL, hbL, h1, h2, lnk, lnk, lIt, lIt, h3]
theorem trl_parts {os : List OrdR} {hs : List (List Int)} (h : trlB os hs = true) : trS os hs os.length os.length = true ∧ clN os os.length = hs.length ∧ os.length ≤ 100 := by
  simp only [trlB, Bool.and_eq_true, beq_iff_eq, decide_eq_true_eq] at h
  exact ⟨h.2.1, h.2.2, h.1⟩
theorem cl_le (os : List OrdR) : ∀ k, clN os k ≤ k
  | 0 => Nat.le_refl _
  | k + 1 => by have := cl_le os k; rw [clN]; split <;> omega
theorem closed_key {os : List OrdR} {hs : List (List Int)} (h : trlB os hs = true) {i : Nat} (hi : i < hs.length) : i < os.length ∧ (orL os i).key ≠ 0 := by
  obtain ⟨h1, h2, _⟩ := trl_parts h
  have h3 := cl_le os os.length
  have hlt : i < os.length := by omega
  refine ⟨hlt, fun e => ?_⟩
  have h4 := (trR_parts (trS_get h1 i hlt)).2.2.1 e
  have h6 : trS os hs os.length i = true := by
    cases e6 : trS os hs os.length i with
    | true => rfl
    | false => rw [trS_mono e6 _ (by omega)] at h1; cases h1
  have h5 := cl_eq h6 hlt
  rw [← h4, clN, if_pos e, h5] at h2
  omega
theorem link_at {os : List OrdR} {hs : List (List Int)} (h : trlB os hs = true) {i : Nat} (hi : i < os.length) (hk : (orL os i).key ≠ 0) : i < hs.length ∧ hsL hs i = hbL os (i + 1) :=
  (trR_parts (trS_get (trl_parts h).1 i hi)).2.2.2 hk
def befL (hs : List (List Int)) (i : Nat) : List Int := if i = 0 then zer 32 else hsL hs (i - 1)
theorem bef_hb {os : List OrdR} {hs : List (List Int)} (h : trlB os hs = true) {i : Nat} (hi : i ≤ hs.length) : befL hs i = hbL os i := by
  unfold befL
  by_cases e : i = 0
  · subst e; rfl
  · rw [if_neg e]
    obtain ⟨h1, h2⟩ := closed_key h (i := i - 1) (by omega)
    have h3 := (link_at h h1 h2).2
    rw [h3]; congr 1; omega
theorem kept_link {os os' : List OrdR} {hs : List (List Int)} (h : trlB os hs = true) (h' : trlB os' hs = true) {i : Nat} (hi : i < hs.length) (hl : os'.length = os.length) (hag : ∀ j, j < i → (orL os' j).key = (orL os j).key ∧ oIt (orL os' j) = oIt (orL os j)) (hk : (orL os' i).key ≠ 0) :
    hsL hs i = lnk (befL hs i) (orL os' i) := by
  obtain ⟨h1, _⟩ := closed_key h hi
  rw [(link_at h' (by omega) hk).2, hbL, if_neg hk, hb_agree hag, ← bef_hb h (by omega)]
theorem num_bad {os : List OrdR} {hs : List (List Int)} {i : Nat} (hi : i < os.length) (hn : (orL os i).num ≠ (i : Int)) : trlB os hs = false := by
  refine trl_hit rfl hi ?_
  cases e : trR os hs os.length i with
  | false => rfl
  | true => exact absurd (trR_parts e).2.1 hn
theorem num_at {os : List OrdR} {hs : List (List Int)} (h : trlB os hs = true) {i : Nat} (hi : i < os.length) : (orL os i).num = (i : Int) :=
  (trR_parts (trS_get (trl_parts h).1 i hi)).2.1
theorem orL_set {os : List OrdR} {i k : Nat} {x : OrdR} (hi : i < os.length) : orL (os.set i x) k = if k = i then x else orL os k := getD_set hi
theorem orL_erase {os : List OrdR} {i k : Nat} : orL (os.eraseIdx i) k = if k < i then orL os k else orL os (k + 1) := by
  rw [orL, List.getD_eq_getElem?_getD, List.getElem?_eraseIdx]
  split <;> rw [orL, List.getD_eq_getElem?_getD]
theorem orL_mem {os : List OrdR} {k : Nat} (h : k < os.length) : orL os k ∈ os := by
  rw [orL, List.getD_eq_getElem?_getD, List.getElem?_eq_getElem h]
  exact List.getElem_mem _
theorem mem_orL {os : List OrdR} {o : OrdR} (h : o ∈ os) : ∃ k, k < os.length ∧ orL os k = o := by
  obtain ⟨k, hk, rfl⟩ := List.getElem_of_mem h
  exact ⟨k, hk, by rw [orL, List.getD_eq_getElem?_getD, List.getElem?_eq_getElem hk]; rfl⟩
structure El (wB u : World) (N g gK : Nat) (o : OrdR) : Prop where
  la : o.al.length = o.na
  lz : o.zs.length = o.nz
  lp : o.ps.length = o.np ∧ o.np ≤ o.cp
  A : Sl wB o.A o.al
  Z : Sl wB o.Z o.zs
  p : ∀ k, k < o.ps.length → PaOk wB (o.ps.getD k noPart)
  b : 0 < o.np → ∃ b, o.L = some ⟨b, 0, none⟩ ∧ b ≠ g ∧ b ≠ gK ∧ wB.heap.size ≤ b ∧ b < N ∧ PB u b o.ps
theorem El.agree {wB u u' : World} {N g gK : Nat} {o : OrdR} (h : El wB u N g gK o) (he : ∀ b, b ≠ g → b ≠ gK → b < N → u'.heap[b]? = u.heap[b]?) : El wB u' N g gK o :=
  ⟨h.la, h.lz, h.lp, h.A, h.Z, h.p, fun h0 => by
    obtain ⟨b, h1, h2, h3, h4, h5, h6⟩ := h.b h0
    exact ⟨b, h1, h2, h3, h4, h5, h6.agree (he b h2 h3 h5)⟩⟩
theorem El.ok {wB u : World} {N g gK : Nat} {o : OrdR} (h : El wB u N g gK o) (hb : Below wB.heap.size wB u) : OrdOk u o := by
  refine ⟨h.la, h.lz, h.lp, h.A.below hb, h.Z.below hb, fun k hk => ?_⟩
  obtain ⟨b, h1, _, _, _, _, h4⟩ := h.b (by have := h.lp.1; omega)
  rw [h1]
  exact h4.pa (fun k hk => (h.p k hk).below hb) k hk
theorem nine_of {w : World} {g o : Nat} {x : OrdR} (h : w.rangeAt g o (ordC x)) : Nine w g o x := by
  refine ⟨?_, ?_, ?_, ?_, ?_, ?_, ?_, ?_, ?_⟩
  · exact h 0 _ rfl
  · exact h 1 _ rfl
  · exact h 2 _ rfl
  · exact h 3 _ rfl
  · exact h 4 _ rfl
  · exact h 5 _ rfl
  · exact h 6 _ rfl
  · exact h 7 _ rfl
  · exact h 8 _ rfl
structure Cpd (wB u : World) (N g gK : Nat) (os : List OrdR) (hs : List (List Int)) (n m : Nat) : Prop where
  bel : Below wB.heap.size wB u
  ro : RowsB ordC 9 noOrd u g os n
  rk : RowsB hshC 32 [] u gK hs m
  el : ∀ o ∈ os, El wB u N g gK o
  ne : g ≠ gK
  lg : wB.heap.size ≤ g ∧ g < N
  lk : wB.heap.size ≤ gK ∧ gK < N
section
variable {wB u u' : World} {N g gK n m : Nat} {os : List OrdR} {hs : List (List Int)}
theorem Cpd.osr (h : Cpd wB u N g gK os hs n m) : Os u (some ⟨g, 0, none⟩) os := fun k hk =>
  ⟨g, 0, rfl, by rw [Nat.zero_add]; exact nine_of (h.ro.at_ k hk), (h.el _ (orL_mem hk)).ok h.bel⟩
theorem Cpd.hsr (h : Cpd wB u N g gK os hs n m) (hl : ∀ x ∈ hs, x.length = 32) : Hs u (some ⟨gK, 0, none⟩) hs := fun k hk =>
  ⟨gK, 0, rfl, by rw [hsL, List.getD_eq_getElem?_getD, List.getElem?_eq_getElem hk]; exact hl _ (List.getElem_mem _), by rw [Nat.zero_add]; exact h.rk.at_ k hk⟩
theorem Cpd.keep (h : Cpd wB u N g gK os hs n m) (he : ∀ b, b < N → u'.heap[b]? = u.heap[b]?) (hb : Below wB.heap.size wB u') : Cpd wB u' N g gK os hs n m :=
  ⟨hb, h.ro.agree (he g h.lg.2), h.rk.agree (he gK h.lk.2), fun o ho => (h.el o ho).agree fun b _ _ hb => he b hb, h.ne, h.lg, h.lk⟩
theorem Cpd.setO (h : Cpd wB u N g gK os hs n m) {i r : Nat} {x : OrdR} {v : Value} (hi : i < os.length) (hr : r < 9) (hx : ordC x = (ordC (orL os i)).set r v)
    (he : El wB u N g gK (orL os i) → El wB u N g gK x) : Cpd wB (u.setCell ⟨g, i * 9 + r, none⟩ v) N g gK (os.set i x) hs n m := by
  have hag : ∀ b, b ≠ g → b ≠ gK → b < N → (u.setCell ⟨g, i * 9 + r, none⟩ v).heap[b]? = u.heap[b]? := fun b h1 _ _ => Go.Deep.blk_setCell_other _ _ _ _ h1
  refine ⟨h.bel.setCell h.lg.1 _, h.ro.setCell (fun _ _ => rfl) hi hr hx, h.rk.agree (Go.Deep.blk_setCell_other _ _ _ _ (fun e => h.ne e.symm)), fun o ho => ?_, h.ne, h.lg, h.lk⟩
  rcases List.mem_or_eq_of_mem_set ho with ho | rfl
  · exact (h.el o ho).agree hag
  · exact (he (h.el _ (orL_mem hi))).agree hag
theorem Cpd.putO (h : Cpd wB u N g gK os hs n m) {i : Nat} {x : OrdR} (hi : i < os.length) (he : El wB u N g gK x) : Cpd wB (u.setCells g (i * 9) (ordC x)) N g gK (os.set i x) hs n m := by
  have hag : ∀ b, b ≠ g → b ≠ gK → b < N → (u.setCells g (i * 9) (ordC x)).heap[b]? = u.heap[b]? := fun b h1 _ _ => heap_setCells_ne h1 _ _
  refine ⟨below_setCells h.lg.1 _ _ h.bel, h.ro.setRow' (fun _ _ => rfl) hi rfl, h.rk.agree (heap_setCells_ne (fun e => h.ne e.symm) _ _), fun o ho => ?_, h.ne, h.lg, h.lk⟩
  rcases List.mem_or_eq_of_mem_set ho with ho | rfl
  · exact (h.el o ho).agree hag
  · exact he.agree hag
theorem Cpd.delO {i : Nat} (h : Cpd wB u N g gK os hs n m) (hr : RowsB ordC 9 noOrd u' g (os.eraseIdx i) n) (hd : DelOut g u u') : Cpd wB u' N g gK (os.eraseIdx i) hs n m := by
  obtain ⟨h1, h2, h3⟩ := hd
  exact ⟨h3 _ _ h.lg.1 h.bel, hr, h.rk.agree (h1 _ (fun e => h.ne e.symm)), fun o ho => (h.el o (List.mem_of_mem_eraseIdx ho)).agree fun b hb _ _ => h1 b hb, h.ne, h.lg, h.lk⟩
theorem Cpd.delK {i : Nat} (h : Cpd wB u N g gK os hs n m) (hr : RowsB hshC 32 [] u' gK (hs.eraseIdx i) m) (hd : DelOut gK u u') : Cpd wB u' N g gK os (hs.eraseIdx i) n m := by
  obtain ⟨h1, h2, h3⟩ := hd
  exact ⟨h3 _ _ h.lk.1 h.bel, h.ro.agree (h1 _ h.ne), hr, fun o ho => (h.el o ho).agree fun b _ hb _ => h1 b hb, h.ne, h.lg, h.lk⟩
end
theorem own_agree3 {w w' : World} {b j : Nat} {v : Value} (h : Own w ⟨b, j, none⟩ v) (e : w'.heap[b]? = w.heap[b]?) : Own w' ⟨b, j, none⟩ v :=
  ⟨(cell_agree e).trans h.1, by have := h.2; simp only [World.frozen?, e] at this ⊢; exact this⟩
theorem cpy_cpd {wB u : World} {A O K : Option Addr} {n c m d : Nat} {os os' : List OrdR} {hs : List (List Int)} (hn : os.length = n) (hl : os'.length = n) (hm : hs.length = m) (h0 : 0 < n) (hm0 : 0 < m) (hlen : ∀ x ∈ hs, x.length = 32) (hO : Os wB A os)
    (hcp : ∀ k, k < n → CpO wB.heap.size (Value.slice O n c).ownBlock u (orL os k) (orL os' k)) (hoO : u.ownsRow wB.heap.size 37 9 (.slice O n c) n (os'.flatMap ordC)) (hoK : u.ownsRow wB.heap.size 43 32 (.slice K m d) m (hs.flatMap hshC))
    (hne1 : ∀ b, (Value.slice O n c).ownBlock = some b → (Value.slice K m d).ownBlock ≠ some b) (hne2 : ∀ k, k < n → 0 < (orL os k).np → ∀ b, (orL os' k).L = some ⟨b, 0, none⟩ → (Value.slice K m d).ownBlock ≠ some b) (hb : Below wB.heap.size wB u) :
    ∃ g gK, O = some ⟨g, 0, none⟩ ∧ K = some ⟨gK, 0, none⟩ ∧ (n ≤ c ∧ c ≤ 9223372036854775807) ∧ (m ≤ d ∧ d ≤ 9223372036854775807) ∧ Cpd wB u u.heap.size g gK os' hs n m := by
  obtain ⟨g, cap, e, h1, h2, h3, h4⟩ := rows_own ordC 9 noOrd hoO hl (fun _ _ => rfl) h0
  cases e
  obtain ⟨gK, capK, e, k1, k2, k3, k4⟩ := rows_own hshC 32 [] hoK hm (fun x hx => by rw [hshC, List.length_map]; exact hlen x hx) hm0
  cases e
  refine ⟨g, gK, rfl, rfl, h3, k3, ⟨hb, h4, k4, fun o ho => ?_, fun e => hne1 g rfl (by rw [e]; rfl), ⟨h1, h2⟩, ⟨k1, k2⟩⟩⟩
  obtain ⟨k, hk, rfl⟩ := mem_orL ho
  rw [hl] at hk
  have hq := hne2 k hk
  obtain ⟨L, c, e, hc, hp⟩ := hcp k hk
  obtain ⟨_, _, _, _, q1, q2, ⟨q3, q4⟩, q5, q6, q7⟩ := hO k (by omega)
  rw [e] at hq ⊢
  refine ⟨q1, q2, ⟨q3, hc⟩, q5, q6, fun j hj => ?_, fun hp0 => ?_⟩
  · obtain ⟨b, o, -, -, -, -, -, -, h8⟩ := q7 j hj
    exact h8
  · obtain ⟨b, rfl, h9, h10, h11, h12⟩ := hp hp0
    exact ⟨b, rfl, fun e => h11 (by rw [e]; rfl), fun e => hq hp0 b rfl (by rw [e]; rfl), Nat.le_of_lt h9, h10, h12⟩
def upP (ps : List PartR) (v : Int) : List PartR := ps.set 0 { ps.getD 0 noPart with v := v }
theorem pb_set {w : World} {b : Nat} {ps : List PartR} {v : Int} (h : PB w b ps) (h0 : 0 < ps.length) : PB (w.setCell ⟨b, 1, none⟩ (.int .i64 v)) b (upP ps v) := by
  refine ⟨fun j => by rw [World.frozen?_setCell]; exact h.1 j, fun k hk r hr => ?_⟩
  rw [upP, List.length_set] at hk
  rw [upP, getD_set h0]
  by_cases e : k = 0
  · subst e
    rw [if_pos rfl, Nat.zero_mul, Nat.zero_add]
    by_cases e1 : r = 1
    · subst e1
      have := h.2 0 h0 1 (by decide)
      exact World.cell?_setCell_same _ _ _ this
    · rw [World.cell?_setCell_other _ _ _ _ (fun e2 => by simp at e2 <;> omega)]
      have := h.2 0 h0 r hr
      rw [Nat.zero_mul, Nat.zero_add] at this
      rw [this]
      match r, hr, e1 with
      | 0, _, _ => rfl
      | 2, _, _ => rfl
      | 3, _, _ => rfl
      | 4, _, _ => rfl
  · rw [if_neg e, World.cell?_setCell_other _ _ _ _ (fun e2 => by simp at e2 <;> omega)]
    exact h.2 k hk r hr
theorem up_ok {wB : World} {ps : List PartR} {v : Int} (h : ∀ k, k < ps.length → PaOk wB (ps.getD k noPart)) (h0 : 0 < ps.length) : ∀ k, k < (upP ps v).length → PaOk wB ((upP ps v).getD k noPart) := fun k hk => by
  rw [upP, List.length_set] at hk
  rw [upP, getD_set h0]
  split
  · exact h 0 h0
  · exact h k hk
theorem up_i {ps : List PartR} {v : Int} (h : ∀ p ∈ ps, PartI p) (h0 : 0 < ps.length) (hv : i64 v) : ∀ p ∈ upP ps v, PartI p := fun p hp => by
  rcases List.mem_or_eq_of_mem_set hp with hp | rfl
  · exact h p hp
  · obtain ⟨h1, h2, h3, h4, h5⟩ := h _ (getP_mem h0)
    exact ⟨h1, hv, h3, h4, h5⟩
theorem Cpd.setP {wB u : World} {N g gK n m b i : Nat} {os : List OrdR} {hs : List (List Int)} (h : Cpd wB u N g gK os hs n m) {v : Int} (hi : i < os.length) (h0 : 0 < (orL os i).np) (hL : (orL os i).L = some ⟨b, 0, none⟩)
    (hd : ∀ k, k < os.length → k ≠ i → 0 < (orL os k).np → (orL os k).L ≠ some ⟨b, 0, none⟩) : Cpd wB (u.setCell ⟨b, 1, none⟩ (.int .i64 v)) N g gK (os.set i { orL os i with ps := upP (orL os i).ps v }) hs n m := by
  have ei := h.el _ (orL_mem hi)
  obtain ⟨b', e, hbg, hbk, hlo, hhi, hpb⟩ := ei.b h0
  rw [hL] at e; cases e
  have hag : ∀ c, c ≠ b → (u.setCell ⟨b, 1, none⟩ (.int .i64 v)).heap[c]? = u.heap[c]? := fun c h1 => Go.Deep.blk_setCell_other _ _ _ _ h1
  have h0' : 0 < (orL os i).ps.length := by rw [ei.lp.1]; exact h0
  refine ⟨h.bel.setCell hlo _, ⟨fun k hk => ?_, fun j hj => ?_, by rw [List.length_set]; exact h.ro.le⟩, h.rk.agree (hag _ (fun e => hbk e.symm)), fun o ho => ?_, h.ne, h.lg, h.lk⟩
  · rw [List.length_set] at hk
    have h1 := (h.ro.agree (hag _ (fun e => hbg e.symm))).at_ k hk
    rw [getD_set hi]
    by_cases e : k = i
    · subst e; rw [if_pos rfl]; exact h1
    · rw [if_neg e]; exact h1
  · exact (h.ro.agree (hag _ (fun e => hbg e.symm))).there j hj
  · obtain ⟨k, hk, rfl⟩ := mem_orL ho
    rw [List.length_set] at hk
    rw [orL_set hi]
    by_cases e : k = i
    · subst e
      rw [if_pos rfl]
      exact ⟨ei.la, ei.lz, ⟨by show (upP _ _).length = _; rw [upP, List.length_set]; exact ei.lp.1, ei.lp.2⟩, ei.A, ei.Z, up_ok ei.p h0', fun _ => ⟨b, hL, hbg, hbk, hlo, hhi, pb_set hpb h0'⟩⟩
    · rw [if_neg e]
      have ek := h.el _ (orL_mem hk)
      refine ⟨ek.la, ek.lz, ek.lp, ek.A, ek.Z, ek.p, fun hk0 => ?_⟩
      obtain ⟨c, q1, q2, q3, q4, q5, q6⟩ := ek.b hk0
      exact ⟨c, q1, q2, q3, q4, q5, q6.agree (hag c (fun e2 => hd k hk e hk0 (by rw [q1, e2])))⟩
theorem wrap64_i64 (n : Int) : i64 (wrap64 n) := by unfold i64 wrap64; omega
theorem ordI_re {o : OrdR} {L : Option Addr} {c : Nat} (h : OrdI o) : OrdI (reL o L c) := h
theorem ordI_set {n : Nat} {os os' : List OrdR} {i : Nat} {x : OrdR} (hl : os'.length = n) (hrel : ∀ k, k < n → ∃ L c, orL os' k = reL (orL os k) L c) (hI : ∀ k, k < n → OrdI (orL os k)) (hi : i < n) (hx : OrdI (orL os' i) → OrdI x) : ∀ k, k < n → OrdI (orL (os'.set i x) k) := fun k hk => by
  have h1 : ∀ k, k < n → OrdI (orL os' k) := fun k hk => by
    obtain ⟨L, c, e⟩ := hrel k hk
    rw [e]; exact ordI_re (hI k hk)
  rw [orL_set (by omega)]
  split
  · exact hx (h1 i hi)
  · exact h1 k hk
theorem set_agree {n : Nat} {os os' : List OrdR} {i : Nat} {x : OrdR} (hl : os'.length = n) (hrel : ∀ k, k < n → ∃ L c, orL os' k = reL (orL os k) L c) (hi : i < n) : ∀ j, j < i → (orL (os'.set i x) j).key = (orL os j).key ∧ oIt (orL (os'.set i x) j) = oIt (orL os j) := fun j hj => by
  rw [orL_set (by omega), if_neg (by omega)]
  obtain ⟨L, c, e⟩ := hrel j (by omega)
  rw [e]
  exact ⟨rfl, rfl⟩
theorem yields_eql_hash {S : World → Prop} {o : Oper} {a : Act} (x y : Operand) (t : TypeId) (ho : o.op = .binOp .eql 43 x y t)
    (h h' : List Int) (hl : h.length = 32) (hl' : h'.length = 32) (hx : a.eval x = .agg (arr .u8 h)) (hy : a.eval y = .agg (arr .u8 h')) (r : Bool) (hr : (h == h') = r) :
    ∀ w, S w → (execOp a.eval o).run Tryd.prog w = .ok (.value (.bool r)) w := fun w _ => by
  unfold execOp
  simp only [ho, hx, hy, Sem.run_bind, run_eqGuard_agg (P := Tryd.prog) w .eql 43 x y _ _ noGuardH, run_eql_struct, run_equalIn_arrH (P := Tryd.prog) w 9998 43 5 32 (by kernel_rfl) (by kernel_rfl) szU8H h h' hl hl', hr, Result.andThen_ok]
  rfl
theorem dis_ix {n i : Nat} {os os' : List OrdR} (hrel : ∀ k, k < n → ∃ L c, orL os' k = reL (orL os k) L c) (hdis : ∀ i j, j < n → i < j → 0 < (orL os i).np → 0 < (orL os j).np → (orL os' i).L ≠ (orL os' j).L) (hi : i < n) (h0 : 0 < (orL os' i).np) : ∀ k, k < n → k ≠ i → 0 < (orL os' k).np → (orL os' k).L ≠ (orL os' i).L := fun k hk hne hk0 => by
  have hnp : ∀ k, k < n → (orL os' k).np = (orL os k).np := fun k hk => by
    obtain ⟨L, c, e⟩ := hrel k hk
    rw [e]
  rw [hnp k hk] at hk0
  rw [hnp i hi] at h0
  rcases Nat.lt_or_gt_of_ne hne with h | h
  · exact hdis k i hi h hk0 h0
  · exact fun e => hdis i k hk h h0 hk0 e.symm
theorem rs_small {os os' : List OrdR} {hs : List (List Int)} {n i : Nat} (h : trlB os hs = true) (hn : os.length = n) (hi : i < n) (hrel : ∀ k, k < n → ∃ L c, orL os' k = reL (orL os k) L c) : (orL os' i).rs.size ≤ 200 ∧ (orL os' i).key ≠ -1 ∧ (orL os' i).key = (orL os i).key ∧ (orL os' i).np = (orL os i).np := by
  obtain ⟨L, c, e⟩ := hrel i hi
  have h1 := (trR_parts (trS_get (trl_parts h).1 i (by omega))).1
  simp only [ordB, rsB, Bool.and_eq_true, decide_eq_true_eq] at h1
  rw [e]
  refine ⟨h1.2.2.1.2, ?_, rfl, rfl⟩
  have := h1.2.2.2.2.2.1
  show (orL os i).key ≠ -1
  omega
theorem rbefore_any (O : Option Addr) (n c : Nat) (K : Option Addr) (hs : List (List Int)) (m d i : Nat) (hm : Hid (hs.length = m)) (hi : i ≤ m) (hb2 : m ≤ 1000000) (w : World) (hK : Hid (Hs w K hs)) : Calls Tryd.prog 13 #[tlV O n c K m d, .int .i64 (i : Int)] w fun e' w' => e' = .returned (.agg (arr .u8 (befL hs i))) ∧ Below w.heap.size w w' := by
  cases i with
  | zero => exact rbefore_0 O n c K m d w
  | succ k => exact rbefore_s O n c K hs m d k hm (by omega) hb2 w hK
set_option maxHeartbeats 3200000 in
theorem rints_any (A : Option Addr) (l : List Int) (n c : Nat) (hn : Hid (l.length = n)) (hbig : n ≤ 1000000) (w : World) (hs : Hid (Sl w A l)) :
    Calls Tryd.prog 67 #[.slice A n c] w (ItOutS (.lst (l.map .int)) w) := by
  obtain ⟨i0, hi, hz0, hz1, hz2⟩ := info_parts itemInfo
  obtain ⟨W, hW⟩ : ∃ W, (w.alloc (.cells #[.int .i64 0, .int .i64 0, .slice none 0 0, .slice none 0 0] 69)).alloc (.cells #[.int .i64 3, .int .i64 0, .slice none 0 0, .slice none 0 0] 69) = W := ⟨_, rfl⟩
  have HBX : Hid (Below w.heap.size w W) := Lib.hid (by rw [← hW]; exact below_two (Below.refl _ _))
  have HSZ : Hid (W.heap.size = w.heap.size + 2) := Lib.hid (by rw [← hW]; simp)
  have hF : Four W (w.heap.size + 1) 0 ⟨3, 0, none, 0, 0, none, 0, 0⟩ := by
    rw [← hW]
    have h := heap_alloc2_new w (.cells #[.int .i64 0, .int .i64 0, .slice none 0 0, .slice none 0 0] 69) (.cells #[.int .i64 3, .int .i64 0, .slice none 0 0, .slice none 0 0] 69)
    exact ⟨cell_blk h 0, cell_blk h 1, cell_blk h 2, cell_blk h 3⟩
  have hf0 : ∀ j, W.frozen? ⟨w.heap.size + 1, j, none⟩ = false := by
    rw [← hW]
    exact fun j => frozen_blk (heap_alloc2_new _ _ _) j
  have HG : Hid ((Four W w.heap.size 0 ⟨0, 0, none, 0, 0, none, 0, 0⟩) ∧ ∀ j, W.frozen? ⟨w.heap.size, j, none⟩ = false) := Lib.hid (by
    rw [← hW]
    have h := heap_alloc2_old w (.cells #[.int .i64 0, .int .i64 0, .slice none 0 0, .slice none 0 0] 69) (.cells #[.int .i64 3, .int .i64 0, .slice none 0 0, .slice none 0 0] 69)
    exact ⟨⟨cell_blk h 0, cell_blk h 1, cell_blk h 2, cell_blk h 3⟩, fun j => frozen_blk h j⟩)
  have HGB : Hid (W.heap[w.heap.size]? = some (.cells #[.int .i64 0, .int .i64 0, .slice none 0 0, .slice none 0 0] 69 (0, 0))) := Lib.hid (by rw [← hW]; exact heap_alloc2_old w _ _)
  have HS := Lib.hid hs.out
  have HW := Lib.hid hW
  have HX : Hid (Own W ⟨w.heap.size + 1, 0, none⟩ (.int .i64 3) ∧ Own W ⟨w.heap.size + 1, 1, none⟩ (.int .i64 0) ∧ Own W ⟨w.heap.size + 1, 2, none⟩ (.slice none 0 0)) := Lib.hid ⟨⟨hF.1, hf0 0⟩, ⟨hF.2.1, hf0 1⟩, ⟨hF.2.2.1, hf0 2⟩⟩
  have HL : Hid (Own W ⟨w.heap.size + 1, 3, none⟩ (.slice none 0 0)) := Lib.hid ⟨hF.2.2.2, hf0 3⟩
  clear hW hs hF hf0
  go_enter Tryd.func67, Tryd.ntmps67
  go_wp2
  rw [HW.out]
  go_loopw [4] (fun i u => ∃ (k : Nat) (v : Value), k ≤ n ∧ i = .int .i64 k ∧ Hid (Own u ⟨w.heap.size + 1, 3, none⟩ v) ∧ Hid (OwnI u (w.heap.size + 2) v ((l.take k).map icInt)) ∧ Hid (Own u ⟨w.heap.size + 1, 0, none⟩ (.int .i64 3) ∧ Own u ⟨w.heap.size + 1, 1, none⟩ (.int .i64 0) ∧ Own u ⟨w.heap.size + 1, 2, none⟩ (.slice none 0 0)) ∧ Hid (Below (w.heap.size + 1) W u)) (fun i _ => n - (intOf i).toNat)
  case atStart => exact ⟨0, _, by omega, rfl, HL, Lib.hid (ownI_nil _ _), HX, Lib.hid (Below.refl _ _)⟩
  case round =>
    obtain ⟨k, v, hk, rfl, HV, HO, HX3, HBr⟩ := hrel
    by_cases hlt : k < n
    · have hkl : k < l.length := by rw [hn.out]; exact hlt
      obtain ⟨b, o, hA, hc⟩ := (HS.out.below (HBX.out.trans (HBr.out.mono (Nat.le_succ _)))) k hkl
      subst hA
      have HTK := Lib.hid (icInt_take hkl)
      obtain ⟨x, hx⟩ : ∃ x, l.getD k 0 = x := ⟨_, rfl⟩
      rw [hx] at hc HTK
      have HLN : Hid (((l.take k).map icInt).length = k) := Lib.hid (by rw [List.length_map, List.length_take]; omega)
      have hown : wr.ownsRow (w.heap.size + 2) 69 4 v k (((l.take k).map icInt).flatMap itemCells) := by have h := HO.out; unfold OwnI at h; rwa [HLN.out] at h
      have hbs : w.heap.size + 2 ≤ wr.heap.size := by have := HBr.out.size; have := HSZ.out; omega
      have hno : v.ownBlock ≠ some (w.heap.size + 1) := HO.out.no (by omega)
      obtain ⟨v3, v3f⟩ := HV.out
      have hS := Lib.hid (show ∀ u1 : World, Hid (Below wr.drew.heap.size wr.drew u1) → (u1.cell? ⟨w.heap.size + 1, 3, none⟩ = some v ∧ u1.cell? ⟨b, o + k, none⟩ = some (.int .i64 x) ∧ Hid (Below wr.drew.heap.size wr.drew u1)) from fun u1 h1 => ⟨cell_below (w := wr.drew) v3 h1.out, cell_below (w := wr.drew) hc h1.out, h1⟩)
      have HOWN := Lib.hid hown
      clear hx hkl hown v3 v3f hc
      go_wp2
      refine wp_region_T (S := fun w' => w'.cell? ⟨w.heap.size + 1, 3, none⟩ = some v ∧ w'.cell? ⟨b, o + k, none⟩ = some (.int .i64 x) ∧ Hid (Below wr.drew.heap.size wr.drew w')) (E := [8, 9, 10]) (by kernel_rfl) (hS.out _ (Lib.hid (Below.refl _ _))) (fun hHeld => ?_)
      refine tkV 0 ?_
      try simp only [qq1, qq2, qq3, Act.put, qq4, qq5, qq6]
      refine tkV 1 ?_
      try simp only [qq1, qq2, qq3, Act.put, qq4, qq5, qq6]
      refine tkV 2 ?_
      try simp only [qq1, qq2, qq3, Act.put, qq4, qq5, qq6]
      refine tkV 3 ?_
      try simp only [qq1, qq2, qq3, Act.put, qq4, qq5, qq6]
      refine tkV 4 ?_
      try simp only [qq1, qq2, qq3, Act.put, qq4, qq5, qq6]
      refine tkV 5 ?_
      try simp only [qq1, qq2, qq3, Act.put, qq4, qq5, qq6]
      refine tkV 6 ?_
      try simp only [qq1, qq2, qq3, Act.put, qq4, qq5, qq6]
      refine wpT_one (i := 7) (by kernel_rfl) rfl (fun K hK => ?_)
      go_simp
      refine hK.out _ _ ?_ (fun hHeld => ?_)
      · exact hS.out _ (Lib.hid (below_box0 _ _))
      clear hK K
      try simp only [qq1, qq2, qq3, Act.put, qq4, qq5, qq6]
      refine wpT_pass (i := 8) (by kernel_rfl) (by simp) rfl (fun K hK => ?_)
      refine step_append_lies _ (by rfl) _ _ _ (by rfl) (w.heap.size + 2) 69 i0 _ 4 64 Tryd.underlying67 hi hz0 hz1 hz2 rfl (by omega) v k (((l.take k).map icInt).flatMap itemCells) (by rfl) ((HOWN.out.alloc _).drew)
        ⟨wr.heap.size, 0, none⟩ 1 1 [.int .i64 1, .int .i64 x, .slice none 0 0, .slice none 0 0] (by rfl) (by rfl) (World.news_of_block (cs := #[.int .i64 1, .int .i64 x, .slice none 0 0, .slice none 0 0]) (t := 69) (fr := (0, 0)) (heap_alloc_new wr _)) (by simp [Value.oneCell'])
        (by omega) (by unfold maxLen; omega) (by omega) (by simp; omega) (wr.heap.size + 1) (by simp) ?_; intro gg cap wz hown1 hgrow hat hlt2
      have HVz := own_grown2 (w := (wr.alloc (.cells #[.int .i64 1, .int .i64 x, .slice none 0 0, .slice none 0 0] 69)).drew) (HV.out.below (below_box0 wr (.cells #[.int .i64 1, .int .i64 x, .slice none 0 0, .slice none 0 0] 69)).drew) hgrow hno
      have HVY := HVz
      obtain ⟨p2, f2⟩ := HVY
      refine hK.out _ _ ?_
      clear hK K
      try simp only [qq1, qq2, qq3, Act.put, qq4, qq5, qq6]
      refine wpT_pass (i := 9) (by kernel_rfl) (by simp) rfl (fun K hK => ?_)
      go_simp
      refine hK.out _ _ ?_
      clear hK K
      try simp only [qq1, qq2, qq3, Act.put, qq4, qq5, qq6]
      refine wpT_pass (i := 10) (by kernel_rfl) (by simp) rfl (fun K hK => ?_)
      go_simp
      refine hK.out _ _ ?_
      clear hK K
      try simp only [qq1, qq2, qq3, Act.put, qq4, qq5, qq6]
      refine wpT_done (by kernel_rfl) ?_ _
      have HB2 : Hid (Below (w.heap.size + 1) W wz) := Lib.hid (((HBr.out.alloc (by omega) (.cells #[.int .i64 1, .int .i64 x, .slice none 0 0, .slice none 0 0] 69)).drew).grown hgrow (by simp; omega) (fun j hj => by have := (World.ownsRow.lt HOWN.out j hj).1; omega))
      have HO2 : Hid (OwnI wz (w.heap.size + 2) (.slice (some ⟨gg, 0, none⟩) (k + 1) cap) ((l.take (k + 1)).map icInt)) := Lib.hid (by
        rw [HTK.out]
        exact OwnI.app HLN.out.symm hown1)
      have hd := (Below.refl wr.heap.size wr)
      have a0 := own_grown2 (w := (wr.alloc (.cells #[.int .i64 1, .int .i64 x, .slice none 0 0, .slice none 0 0] 69)).drew) (HX3.out.1.below (below_box0 wr (.cells #[.int .i64 1, .int .i64 x, .slice none 0 0, .slice none 0 0] 69)).drew) hgrow hno
      have a1 := own_grown2 (w := (wr.alloc (.cells #[.int .i64 1, .int .i64 x, .slice none 0 0, .slice none 0 0] 69)).drew) (HX3.out.2.1.below (below_box0 wr (.cells #[.int .i64 1, .int .i64 x, .slice none 0 0, .slice none 0 0] 69)).drew) hgrow hno
      have a2 := own_grown2 (w := (wr.alloc (.cells #[.int .i64 1, .int .i64 x, .slice none 0 0, .slice none 0 0] 69)).drew) (HX3.out.2.2.below (below_box0 wr (.cells #[.int .i64 1, .int .i64 x, .slice none 0 0, .slice none 0 0] 69)).drew) hgrow hno
      have HV4 : Hid (Own (wz.setCell ⟨w.heap.size + 1, 3, none⟩ (.slice (some ⟨gg, 0, none⟩) (k + 1) cap)) ⟨w.heap.size + 1, 3, none⟩ (.slice (some ⟨gg, 0, none⟩) (k + 1) cap)) := Lib.hid (own_set_eq2 HVz)
      have HO4 : Hid (OwnI (wz.setCell ⟨w.heap.size + 1, 3, none⟩ (.slice (some ⟨gg, 0, none⟩) (k + 1) cap)) (w.heap.size + 2) (.slice (some ⟨gg, 0, none⟩) (k + 1) cap) ((l.take (k + 1)).map icInt)) := Lib.hid (HO2.out.set (by omega))
      have HX4 : Hid (Own (wz.setCell ⟨w.heap.size + 1, 3, none⟩ (.slice (some ⟨gg, 0, none⟩) (k + 1) cap)) ⟨w.heap.size + 1, 0, none⟩ (.int .i64 3) ∧ Own (wz.setCell ⟨w.heap.size + 1, 3, none⟩ (.slice (some ⟨gg, 0, none⟩) (k + 1) cap)) ⟨w.heap.size + 1, 1, none⟩ (.int .i64 0) ∧ Own (wz.setCell ⟨w.heap.size + 1, 3, none⟩ (.slice (some ⟨gg, 0, none⟩) (k + 1) cap)) ⟨w.heap.size + 1, 2, none⟩ (.slice none 0 0)) :=
        Lib.hid ⟨own_set_ne2 a0 (by simp), own_set_ne2 a1 (by simp), own_set_ne2 a2 (by simp)⟩
      have HB4 : Hid (Below (w.heap.size + 1) W (wz.setCell ⟨w.heap.size + 1, 3, none⟩ (.slice (some ⟨gg, 0, none⟩) (k + 1) cap))) := Lib.hid (HB2.out.setCell (Nat.le_refl _) _)
      clear hown1 hgrow HO HX3 HV p2 f2 a0 a1 a2 HB2 HO2 HVz hd
      go_wp2
      go_roundw
      case rel => exact ⟨k + 1, _, by omega, by go_num, HV4, HO4, HX4, HB4⟩
      case measure => simp [intOf]; omega
    · have HO5 : Hid (OwnI wr (w.heap.size + 2) v (l.map icInt)) := Lib.hid (by
        have h := HO.out
        rwa [List.take_of_length_le (by have := hn.out; omega)] at h)
      obtain ⟨L, cl, hLe⟩ := HO5.out.len
      rw [List.length_map, hn.out] at hLe
      subst hLe
      obtain ⟨p0, p0f⟩ := HX3.out.1
      obtain ⟨p1, p1f⟩ := HX3.out.2.1
      obtain ⟨p2, p2f⟩ := HX3.out.2.2
      obtain ⟨p3, p3f⟩ := HV.out
      have HGr := HG.out
      have r0 := (HBr.out.cell (p := ⟨w.heap.size, 0, none⟩) (Nat.lt_succ_self _)).trans HG.out.1.1
      have r1 := (HBr.out.cell (p := ⟨w.heap.size, 1, none⟩) (Nat.lt_succ_self _)).trans HG.out.1.2.1
      have r2 := (HBr.out.cell (p := ⟨w.heap.size, 2, none⟩) (Nat.lt_succ_self _)).trans HG.out.1.2.2.1
      have r3 := (HBr.out.cell (p := ⟨w.heap.size, 3, none⟩) (Nat.lt_succ_self _)).trans HG.out.1.2.2.2
      have z0 := (HBr.out.frozen (p := ⟨w.heap.size, 0, none⟩) (Nat.lt_succ_self _)).trans (HG.out.2 0)
      have z1 := (HBr.out.frozen (p := ⟨w.heap.size, 1, none⟩) (Nat.lt_succ_self _)).trans (HG.out.2 1)
      have z2 := (HBr.out.frozen (p := ⟨w.heap.size, 2, none⟩) (Nat.lt_succ_self _)).trans (HG.out.2 2)
      have z3 := (HBr.out.frozen (p := ⟨w.heap.size, 3, none⟩) (Nat.lt_succ_self _)).trans (HG.out.2 3)
      have HBW := Lib.hid (HBX.out.trans (HBr.out.mono (Nat.le_succ _)))
      clear HX3 HV HO HGr
      obtain ⟨WF, hWF⟩ : ∃ u, (((wr.setCell ⟨w.heap.size, 0, none⟩ (.int .i64 3)).setCell ⟨w.heap.size, 1, none⟩ (.int .i64 0)).setCell ⟨w.heap.size, 2, none⟩ (.slice none 0 0)).setCell ⟨w.heap.size, 3, none⟩ (.slice L n cl) = u := ⟨_, rfl⟩
      have hgB : WF.heap[w.heap.size]? = some (.cells #[.int .i64 3, .int .i64 0, .slice none 0 0, .slice L n cl] 69 (0, 0)) := by
        have h0 := (HBr.out.block w.heap.size (Nat.lt_succ_self _)).trans HGB.out
        rw [← hWF, heap_setCell_same _ _ _ _ _ _ (heap_setCell_same _ _ _ _ _ _ (heap_setCell_same _ _ _ _ _ _ (heap_setCell_same _ _ _ _ _ _ h0)))]
        rfl
      have HO6 : Hid (OwnI WF (w.heap.size + 2) (.slice L n cl) (l.map icInt)) := Lib.hid (by
        rw [← hWF]
        exact (((HO5.out.set (by omega)).set (by omega)).set (by omega)).set (by omega))
      have HBF : Hid (Below w.heap.size w WF) := Lib.hid (by
        rw [← hWF]
        exact (((HBW.out.setCell (Nat.le_refl _) _).setCell (Nat.le_refl _) _).setCell (Nat.le_refl _) _).setCell (Nat.le_refl _) _)
      have hitr := its_ints (lo := w.heap.size) HO6.out (by omega)
      rw [hn.out] at hitr
      have HIT := Lib.hid hitr
      have HLD : Kp ((loadVar 69 ⟨w.heap.size, 0, none⟩).run Tryd.prog WF = .ok (.agg #[.int .i64 3, .int .i64 0, .slice none 0 0, .slice L n cl]) WF) := ⟨run_loadVar_row _ _ _ _ _ _ _ hgB Tryd.underlying69 rfl (by kernel_rfl)⟩
      have HWF := Lib.hid hWF
      clear hitr HO5 HO6 hgB hWF
      go_wp2
      rw [HWF.out]
      exact bodyPost_ret (v := .agg #[.int .i64 3, .int .i64 0, .slice none 0 0, .slice L n cl]) (results_cell1 (p := 2) (ty := 69) rfl _ _ ⟨w.heap.size, 0, none⟩ _ rfl HLD.out) rfl ⟨⟨3, 0, none, 0, 0, L, n, cl⟩, rfl, HIT.out, HBF.out⟩
set_option maxHeartbeats 6400000 in
theorem r31bytes_any (h : List Int) (hl : Hid (h.length = 32)) (w : World) :
    Calls Tryd.prog 35 #[.agg (arr .u8 h)] w (ItOutS (.byt h) w) := by
  obtain ⟨i1, hi1, hy0, hy1, hy2⟩ := info_parts byteInfo
  obtain ⟨W, hW⟩ : ∃ W, ((w.alloc (.cells (arr .u8 h) 43)).alloc (.cells #[.int .i64 0, .int .i64 0, .slice none 0 0, .slice none 0 0] 69)).alloc (.cells #[.int .i64 2, .int .i64 0, .slice none 0 0, .slice none 0 0] 69) = W := ⟨_, rfl⟩
  have HBX : Hid (Below w.heap.size w W) := Lib.hid (by rw [← hW]; exact below_ext (below_ext (below_box0 _ _) (below_box0 _ _)) (below_box0 _ _))
  have HSZ : Hid (W.heap.size = w.heap.size + 3) := Lib.hid (by rw [← hW]; simp)
  have HHB : Hid (Blk .u8 43 W w.heap.size h) := Lib.hid (by rw [← hW]; exact ((Blk.new w h).old _).old _)
  have HGB : Hid (W.heap[w.heap.size + 1]? = some (.cells #[.int .i64 0, .int .i64 0, .slice none 0 0, .slice none 0 0] 69)) := Lib.hid (by rw [← hW]; exact blk_below (heap_alloc2_new _ _ _) (below_box0 _ _))
  have hb2 : W.heap[w.heap.size + 2]? = some (.cells #[.int .i64 2, .int .i64 0, .slice none 0 0, .slice none 0 0] 69) := by rw [← hW]; exact heap_alloc3_new _ _ _ _
  have HX : Hid (Own W ⟨w.heap.size + 2, 0, none⟩ (.int .i64 2) ∧ Own W ⟨w.heap.size + 2, 1, none⟩ (.int .i64 0) ∧ Own W ⟨w.heap.size + 2, 3, none⟩ (.slice none 0 0)) := Lib.hid ⟨⟨cell_blk hb2 0, frozen_blk hb2 0⟩, ⟨cell_blk hb2 1, frozen_blk hb2 1⟩, ⟨cell_blk hb2 3, frozen_blk hb2 3⟩⟩
  have HL : Hid (Own W ⟨w.heap.size + 2, 2, none⟩ (.slice none 0 0)) := Lib.hid ⟨cell_blk hb2 2, frozen_blk hb2 2⟩
  have HW := Lib.hid hW
  clear hW hb2
  go_enter Tryd.func35, Tryd.ntmps35
  go_wp2
  rw [HW.out]
  go_loopw [4] (fun i u => ∃ (k : Nat) (v : Value), k ≤ 32 ∧ i = .int .i64 k ∧ Hid (Own u ⟨w.heap.size + 2, 2, none⟩ v) ∧ Hid (OwnK .u8 5 u (w.heap.size + 3) v (h.take k)) ∧ Hid (Own u ⟨w.heap.size + 2, 0, none⟩ (.int .i64 2) ∧ Own u ⟨w.heap.size + 2, 1, none⟩ (.int .i64 0) ∧ Own u ⟨w.heap.size + 2, 3, none⟩ (.slice none 0 0)) ∧ Hid (Below (w.heap.size + 2) W u)) (fun i _ => 32 - (intOf i).toNat)
  case atStart => exact ⟨0, _, by omega, rfl, HL, Lib.hid (ownK_nil _ _), HX, Lib.hid (Below.refl _ _)⟩
  case round =>
    obtain ⟨k, v, hk, rfl, HV, HO, HX3, HBr⟩ := hrel
    by_cases hlt : k < 32
    · have hc := (HBr.out.cell (p := ⟨w.heap.size, k, none⟩) (by simp)).trans (HHB.out.cell (j := k) (by rw [hl.out]; exact hlt))
      have HTK := Lib.hid (take_one (xs := h) (k := k) (by rw [hl.out]; exact hlt))
      obtain ⟨x, hx⟩ : ∃ x, h.getD k 0 = x := ⟨_, rfl⟩
      rw [hx] at hc HTK
      have HLN : Hid ((h.take k).length = k) := Lib.hid (by rw [List.length_take, hl.out]; omega)
      have hown : wr.ownsRow (w.heap.size + 3) 5 1 v k ((h.take k).map (Value.int .u8)) := HO.out.row HLN.out
      have hbs : w.heap.size + 3 ≤ wr.heap.size := by have := HBr.out.size; have := HSZ.out; omega
      have hno : v.ownBlock ≠ some (w.heap.size + 2) := fun e => by have := (HO.out.lt _ e).1; omega
      obtain ⟨v3, v3f⟩ := HV.out
      have hS := Lib.hid (show ∀ u1 : World, Hid (Below wr.drew.heap.size wr.drew u1) → (u1.cell? ⟨w.heap.size + 2, 2, none⟩ = some v ∧ u1.cell? ⟨w.heap.size, k, none⟩ = some (.int .u8 x) ∧ Hid (Below wr.drew.heap.size wr.drew u1)) from fun u1 h1 => ⟨cell_below (w := wr.drew) v3 h1.out, cell_below (w := wr.drew) hc h1.out, h1⟩)
      have HOWN := Lib.hid hown
      clear hx hown v3 v3f hc
      go_wp2
      refine wp_region_T (S := fun w' => w'.cell? ⟨w.heap.size + 2, 2, none⟩ = some v ∧ w'.cell? ⟨w.heap.size, k, none⟩ = some (.int .u8 x) ∧ Hid (Below wr.drew.heap.size wr.drew w')) (E := [6, 7, 8]) (by kernel_rfl) (hS.out _ (Lib.hid (Below.refl _ _))) (fun hHeld => ?_)
      refine tkV 0 ?_
      try simp only [qq1, qq2, qq3, Act.put, qq4, qq5, qq6]
      refine tkV 1 ?_
      try simp only [qq1, qq2, qq3, Act.put, qq4, qq5, qq6]
      refine tkV 2 ?_
      try simp only [qq1, qq2, qq3, Act.put, qq4, qq5, qq6]
      refine tkV 3 ?_
      try simp only [qq1, qq2, qq3, Act.put, qq4, qq5, qq6]
      refine tkV 4 ?_
      try simp only [qq1, qq2, qq3, Act.put, qq4, qq5, qq6]
      refine wpT_one (i := 5) (by kernel_rfl) rfl (fun K hK => ?_)
      go_simp
      refine hK.out _ _ ?_ (fun hHeld => ?_)
      · exact hS.out _ (Lib.hid (below_box0 _ _))
      clear hK K
      try simp only [qq1, qq2, qq3, Act.put, qq4, qq5, qq6]
      refine wpT_pass (i := 6) (by kernel_rfl) (by simp) rfl (fun K hK => ?_)
      refine step_append_lies _ (by rfl) _ _ _ (by rfl) (w.heap.size + 3) 5 i1 _ 1 1 Tryd.underlying65 hi1 hy0 hy1 hy2 rfl (by omega) v k ((h.take k).map (Value.int .u8)) (by rfl) ((HOWN.out.alloc _).drew)
        ⟨wr.heap.size, 0, none⟩ 1 1 [.int .u8 x] (by rfl) (by rfl) (World.news_of_block (cs := #[.int .u8 x]) (t := 5) (fr := (0, 0)) (heap_alloc_new wr _)) (by simp [Value.oneCell'])
        (by omega) (by unfold maxLen; omega) (by omega) (by simp; omega) (wr.heap.size + 1) (by simp) ?_; intro gg cap wz hown1 hgrow hat hlt2
      have HVz := own_grown2 (w := (wr.alloc (.cells #[.int .u8 x] 5)).drew) (HV.out.below (below_box0 wr (.cells #[.int .u8 x] 5)).drew) hgrow hno
      have HVY := HVz
      obtain ⟨p2, f2⟩ := HVY
      refine hK.out _ _ ?_
      clear hK K
      try simp only [qq1, qq2, qq3, Act.put, qq4, qq5, qq6]
      refine wpT_pass (i := 7) (by kernel_rfl) (by simp) rfl (fun K hK => ?_)
      go_simp
      refine hK.out _ _ ?_
      clear hK K
      try simp only [qq1, qq2, qq3, Act.put, qq4, qq5, qq6]
      refine wpT_pass (i := 8) (by kernel_rfl) (by simp) rfl (fun K hK => ?_)
      go_simp
      refine hK.out _ _ ?_
      clear hK K
      try simp only [qq1, qq2, qq3, Act.put, qq4, qq5, qq6]
      refine wpT_done (by kernel_rfl) ?_ _
      have HB2 : Hid (Below (w.heap.size + 2) W wz) := Lib.hid (((HBr.out.alloc (by omega) (.cells #[.int .u8 x] 5)).drew).grown hgrow (by simp; omega) (fun j hj => by have := (World.ownsRow.lt HOWN.out j hj).1; omega))
      have HO2 : Hid (OwnK .u8 5 wz (w.heap.size + 3) (.slice (some ⟨gg, 0, none⟩) (k + 1) cap) (h.take (k + 1))) := Lib.hid (by
        rw [HTK.out]
        exact OwnK.app HLN.out.symm rfl hown1)
      have a0 := own_grown2 (w := (wr.alloc (.cells #[.int .u8 x] 5)).drew) (HX3.out.1.below (below_box0 wr (.cells #[.int .u8 x] 5)).drew) hgrow hno
      have a1 := own_grown2 (w := (wr.alloc (.cells #[.int .u8 x] 5)).drew) (HX3.out.2.1.below (below_box0 wr (.cells #[.int .u8 x] 5)).drew) hgrow hno
      have a2 := own_grown2 (w := (wr.alloc (.cells #[.int .u8 x] 5)).drew) (HX3.out.2.2.below (below_box0 wr (.cells #[.int .u8 x] 5)).drew) hgrow hno
      have HV4 : Hid (Own (wz.setCell ⟨w.heap.size + 2, 2, none⟩ (.slice (some ⟨gg, 0, none⟩) (k + 1) cap)) ⟨w.heap.size + 2, 2, none⟩ (.slice (some ⟨gg, 0, none⟩) (k + 1) cap)) := Lib.hid (own_set_eq2 HVz)
      have HO4 : Hid (OwnK .u8 5 (wz.setCell ⟨w.heap.size + 2, 2, none⟩ (.slice (some ⟨gg, 0, none⟩) (k + 1) cap)) (w.heap.size + 3) (.slice (some ⟨gg, 0, none⟩) (k + 1) cap) (h.take (k + 1))) := Lib.hid (HO2.out.kept (grown_set2 _ _ _ _) (Or.inr (fun e => by have := (HO2.out.lt _ e).1; omega)))
      have HX4 : Hid (Own (wz.setCell ⟨w.heap.size + 2, 2, none⟩ (.slice (some ⟨gg, 0, none⟩) (k + 1) cap)) ⟨w.heap.size + 2, 0, none⟩ (.int .i64 2) ∧ Own (wz.setCell ⟨w.heap.size + 2, 2, none⟩ (.slice (some ⟨gg, 0, none⟩) (k + 1) cap)) ⟨w.heap.size + 2, 1, none⟩ (.int .i64 0) ∧ Own (wz.setCell ⟨w.heap.size + 2, 2, none⟩ (.slice (some ⟨gg, 0, none⟩) (k + 1) cap)) ⟨w.heap.size + 2, 3, none⟩ (.slice none 0 0)) := Lib.hid ⟨own_set_ne2 a0 (by simp), own_set_ne2 a1 (by simp), own_set_ne2 a2 (by simp)⟩
      have HB4 : Hid (Below (w.heap.size + 2) W (wz.setCell ⟨w.heap.size + 2, 2, none⟩ (.slice (some ⟨gg, 0, none⟩) (k + 1) cap))) := Lib.hid (HB2.out.setCell (Nat.le_refl _) _)
      clear hown1 hgrow HO HX3 HV p2 f2 a0 a1 a2 HB2 HO2 HVz
      go_wp2
      go_roundw
      case rel => exact ⟨k + 1, _, by omega, by go_num, HV4, HO4, HX4, HB4⟩
      case measure => simp [intOf]; omega
    · obtain rfl : k = 32 := by omega
      have HO5 : Hid (OwnK .u8 5 wr (w.heap.size + 3) v h) := Lib.hid (by
        have h9 := HO.out
        rwa [List.take_of_length_le (by rw [hl.out]; exact Nat.le_refl _)] at h9)
      obtain ⟨g, cap, hv, hg, -, -, hsk⟩ := HO5.out.cells (by rw [hl.out]; decide)
      rw [hl.out] at hv
      subst hv
      obtain ⟨p0, p0f⟩ := HX3.out.1
      obtain ⟨p1, p1f⟩ := HX3.out.2.1
      obtain ⟨p2, p2f⟩ := HX3.out.2.2
      obtain ⟨p3, p3f⟩ := HV.out
      have HSK := Lib.hid hsk
      have HRF : Hid (wr.heap[w.heap.size + 1]? = some (.cells #[.int .i64 0, .int .i64 0, .slice none 0 0, .slice none 0 0] 69)) := Lib.hid ((HBr.out.block _ (by omega)).trans HGB.out)
      have HBW := Lib.hid (HBX.out.trans (HBr.out.mono (by omega)))
      clear HX3 HV HO HO5 hsk
      go_wp2_with ((with_reducible show wpList _ _ _ (⟨none, _, _, _, _, _⟩ :: _) _ _); refine wpList_store_row rfl 69 _ _ rfl (w.heap.size + 1) (Ic.cs (icByt (some ⟨g, 0, none⟩) 32 cap)) rfl rfl _ _ HRF.out (ic_info _) rfl (ic_one _) ?_)
      have hit : ItS w.heap.size (wr.setRow (w.heap.size + 1) (Ic.cs (icByt (some ⟨g, 0, none⟩) 32 cap))) (.byt h) (icByt (some ⟨g, 0, none⟩) 32 cap) := its_byt (HSK.out.setRow (by omega)) (by omega) hl.out
      have hbF := below_setRow' HBW.out (cs := Ic.cs (icByt (some ⟨g, 0, none⟩) 32 cap)) (Nat.le_add_right w.heap.size 1)
      have hrw := setRow_heap _ _ _ (Ic.cs (icByt (some ⟨g, 0, none⟩) 32 cap)) _ _ HRF.out
      exact bodyPost_ret (v := (icByt (some ⟨g, 0, none⟩) 32 cap).val) (results_cell1 (p := 2) (ty := 69) rfl _ _ ⟨w.heap.size + 1, 0, none⟩ _ rfl (run_loadVar_row _ _ _ _ _ _ _ hrw Tryd.underlying69 rfl (ic_info _))) rfl ⟨_, rfl, hit, hbF⟩
set_option maxHeartbeats 1600000 in
theorem rinteger_it (n : Int) (w : World) :
    Calls Tryd.prog 44 #[.int .i64 n] w fun e w' => e = .returned (icInt n).val ∧ Below w.heap.size w w' := by
  have HR0 : Hid ((w.alloc (.cells #[.int .i64 0, .int .i64 0, .slice none 0 0, .slice none 0 0] 69)).heap[w.heap.size]? = some (.cells #[.int .i64 0, .int .i64 0, .slice none 0 0, .slice none 0 0] 69 (0, 0))) := Lib.hid (heap_alloc_new _ _)
  go_enter Tryd.func44, Tryd.ntmps44
  go_wp2_with ((with_reducible show wpList _ _ _ (⟨none, _, _, _, _, _⟩ :: _) _ _); refine wpList_store_row rfl 69 _ _ rfl w.heap.size (Ic.cs (icInt n)) rfl rfl _ _ HR0.out (ic_info _) rfl (ic_one _) ?_)
  have hrw := setRow_heap _ _ _ (Ic.cs (icInt n)) _ _ HR0.out
  exact bodyPost_ret (v := (icInt n).val) (results_cell1 (p := 2) (ty := 69) rfl _ _ ⟨w.heap.size, 0, none⟩ _ rfl (run_loadVar_row _ _ _ _ _ _ _ hrw Tryd.underlying69 rfl (ic_info _))) rfl ⟨rfl, below_setRow' (below_box0 _ _) (Nat.le_refl _)⟩
set_option maxHeartbeats 1600000 in
theorem rlist_it (L : Option Addr) (n c : Nat) (w : World) :
    Calls Tryd.prog 34 #[.slice L n c] w fun e w' => e = .returned (Ic.mk 3 0 none 0 0 L n c).val ∧ Below w.heap.size w w' := by
  have HR0 : Hid ((w.alloc (.cells #[.int .i64 0, .int .i64 0, .slice none 0 0, .slice none 0 0] 69)).heap[w.heap.size]? = some (.cells #[.int .i64 0, .int .i64 0, .slice none 0 0, .slice none 0 0] 69 (0, 0))) := Lib.hid (heap_alloc_new _ _)
  go_enter Tryd.func34, Tryd.ntmps34
  go_wp2_with ((with_reducible show wpList _ _ _ (⟨none, _, _, _, _, _⟩ :: _) _ _); refine wpList_store_row rfl 69 _ _ rfl w.heap.size (Ic.cs (Ic.mk 3 0 none 0 0 L n c)) rfl rfl _ _ HR0.out (ic_info _) rfl (ic_one _) ?_)
  have hrw := setRow_heap _ _ _ (Ic.cs (Ic.mk 3 0 none 0 0 L n c)) _ _ HR0.out
  exact bodyPost_ret (v := (Ic.mk 3 0 none 0 0 L n c).val) (results_cell1 (p := 2) (ty := 69) rfl _ _ ⟨w.heap.size, 0, none⟩ _ rfl (run_loadVar_row _ _ _ _ _ _ _ hrw Tryd.underlying69 rfl (ic_info _))) rfl ⟨rfl, below_setRow' (below_box0 _ _) (Nat.le_refl _)⟩
set_option maxHeartbeats 3200000 in
theorem rtext_it (s : ByteArray) (hs0 : 1 ≤ s.size) (hs1 : s.size ≤ 1000) (w : World) :
    Calls Tryd.prog 45 #[.string s] w (ItOutS (.byt (bys s)) w) := by
  have hcv := fun w => run_bytes_of_string (P := Tryd.prog) w 9 65 5 s Tryd.underlying9 Tryd.underlying65 Tryd.underlying5
  obtain ⟨W, hW⟩ : ∃ W, w.alloc (.cells #[.int .i64 0, .int .i64 0, .slice none 0 0, .slice none 0 0] 69) = W := ⟨_, rfl⟩
  have HSZ : Hid (W.heap.size = w.heap.size + 1) := Lib.hid (by rw [← hW]; simp)
  have HR0 : Hid (W.heap[w.heap.size]? = some (.cells #[.int .i64 0, .int .i64 0, .slice none 0 0, .slice none 0 0] 69 (0, 0))) := Lib.hid (by rw [← hW]; exact heap_alloc_new _ _)
  have HB0 : Hid (Below w.heap.size w W) := Lib.hid (by rw [← hW]; exact below_box0 _ _)
  have HW := Lib.hid hW
  clear hW
  obtain ⟨gc, hgc⟩ : ∃ g, grownCap W s.size 0 5 = g := ⟨_, rfl⟩
  obtain ⟨Wc, hWc⟩ : ∃ u, (W.alloc (.cells (bytesRow s gc) 5 ((bytesRow s gc).size, (bytesRow s gc).size + 1))).drew = u := ⟨_, rfl⟩
  have HBc : Hid (Below W.heap.size W Wc) := Lib.hid (by rw [← hWc]; exact (below_box0 _ _).drew)
  have HSc : Hid (Sk .u8 Wc (some ⟨W.heap.size, 0, none⟩) (bys s)) := Lib.hid (by rw [← hWc]; exact (bys_sk (heap_alloc_new W _)).below ((Below.refl _ _).drew))
  have HRc : Hid (Wc.heap[w.heap.size]? = some (.cells #[.int .i64 0, .int .i64 0, .slice none 0 0, .slice none 0 0] 69 (0, 0))) := Lib.hid (blk_below HR0.out HBc.out)
  go_enter Tryd.func45, Tryd.ntmps45
  go_upto_region 1 with (fail)
  rw [HW.out]
  go_wp2_with ((with_reducible show wpList _ _ _ (⟨none, _, _, _, _, _⟩ :: _) _ _); refine wpList_store_row rfl 69 _ _ rfl w.heap.size (Ic.cs (icByt (some ⟨W.heap.size, 0, none⟩) s.size gc)) rfl rfl _ _ HRc.out (ic_info _) rfl (ic_one _) ?_)
  have hit : ItS w.heap.size (Wc.setRow w.heap.size (Ic.cs (icByt (some ⟨W.heap.size, 0, none⟩) s.size gc))) (.byt (bys s)) (icByt (some ⟨W.heap.size, 0, none⟩) s.size gc) := its_byt (HSc.out.setRow (by have := HSZ.out; omega)) (by have := HSZ.out; omega) (bys_len s)
  have hbF := below_setRow' (below_ext HB0.out HBc.out) (cs := Ic.cs (icByt (some ⟨W.heap.size, 0, none⟩) s.size gc)) (Nat.le_refl w.heap.size)
  have hrw := setRow_heap _ _ _ (Ic.cs (icByt (some ⟨W.heap.size, 0, none⟩) s.size gc)) _ _ HRc.out
  exact bodyPost_ret (v := (icByt (some ⟨W.heap.size, 0, none⟩) s.size gc).val) (results_cell1 (p := 2) (ty := 69) rfl _ _ ⟨w.heap.size, 0, none⟩ _ rfl (run_loadVar_row _ _ _ _ _ _ _ hrw Tryd.underlying69 rfl (ic_info _))) rfl ⟨_, rfl, hit, hbF⟩
set_option maxHeartbeats 12800000 in
theorem reitem_any (E1 E2 : Int) (A : Option Addr) (na ca : Nat) (al : List Int) (C : Int) (Z : Option Addr) (nz cz : Nat) (zs : List Int) (hna : Hid (al.length = na)) (hnz : Hid (zs.length = nz)) (hb1 : na ≤ 1000) (hb2 : nz ≤ 1000) (w : World) (hA : Hid (Sl w A al)) (hZ : Hid (Sl w Z zs)) :
    Calls Tryd.prog 46 #[esV E1 E2 A na ca C Z nz cz] w (ItOutS (eIt E1 E2 al C zs) w) := by
  obtain ⟨w0, hW⟩ : ∃ W, ((w.alloc (esO E1 E2 A na ca C Z nz cz)).alloc (.cells #[.int .i64 0, .int .i64 0, .slice none 0 0, .slice none 0 0] 69)) = W := ⟨_, rfl⟩
  have HBw : Hid (Below w.heap.size w w0) := Lib.hid (by rw [← hW]; exact below_two (Below.refl _ _))
  have hc : w0.cell? ⟨w.heap.size, 0, none⟩ = some (.int .i64 E1) ∧ w0.cell? ⟨w.heap.size, 1, none⟩ = some (.int .i64 E2) ∧ w0.cell? ⟨w.heap.size, 2, none⟩ = some (.slice A na ca) ∧ w0.cell? ⟨w.heap.size, 3, none⟩ = some (.int .i64 C) ∧ w0.cell? ⟨w.heap.size, 4, none⟩ = some (.slice Z nz cz) ∧ Own w0 ⟨w.heap.size + 1, 0, none⟩ (.int .i64 0) ∧ Own w0 ⟨w.heap.size + 1, 1, none⟩ (.int .i64 0) ∧ Own w0 ⟨w.heap.size + 1, 2, none⟩ (.slice none 0 0) ∧ Own w0 ⟨w.heap.size + 1, 3, none⟩ (.slice none 0 0) := by rw [← hW]; exact ⟨cell_below (allocs_cell (by simp) (by rfl)) (below_box0 _ _), cell_below (allocs_cell (by simp) (by rfl)) (below_box0 _ _), cell_below (allocs_cell (by simp) (by rfl)) (below_box0 _ _), cell_below (allocs_cell (by simp) (by rfl)) (below_box0 _ _), cell_below (allocs_cell (by simp) (by rfl)) (below_box0 _ _), allocs_own (by simp) (by rfl), allocs_own (by simp) (by rfl), allocs_own (by simp) (by rfl), allocs_own (by simp) (by rfl)⟩
  have kC := Lib.hid (show ∀ u : World, Hid (Below w0.heap.size w0 u) → u.cell? ⟨w.heap.size, 0, none⟩ = some (.int .i64 E1) ∧ u.cell? ⟨w.heap.size, 1, none⟩ = some (.int .i64 E2) ∧ u.cell? ⟨w.heap.size, 2, none⟩ = some (.slice A na ca) ∧ u.cell? ⟨w.heap.size, 3, none⟩ = some (.int .i64 C) ∧ u.cell? ⟨w.heap.size, 4, none⟩ = some (.slice Z nz cz) ∧ Own u ⟨w.heap.size + 1, 0, none⟩ (.int .i64 0) ∧ Own u ⟨w.heap.size + 1, 1, none⟩ (.int .i64 0) ∧ Own u ⟨w.heap.size + 1, 2, none⟩ (.slice none 0 0) ∧ Own u ⟨w.heap.size + 1, 3, none⟩ (.slice none 0 0) from fun u h => ⟨cell_below hc.1 h.out, cell_below hc.2.1 h.out, cell_below hc.2.2.1 h.out, cell_below hc.2.2.2.1 h.out, cell_below hc.2.2.2.2.1 h.out, (hc.2.2.2.2.2.1).below h.out, (hc.2.2.2.2.2.2.1).below h.out, (hc.2.2.2.2.2.2.2.1).below h.out, (hc.2.2.2.2.2.2.2.2).below h.out⟩)
  have kA := Lib.hid (show ∀ u : World, Hid (Below w0.heap.size w0 u) → Hid (Sl u A al) from fun u h => Lib.hid ((hA.out.below) (below_ext HBw.out h.out)))
  have kZ := Lib.hid (show ∀ u : World, Hid (Below w0.heap.size w0 u) → Hid (Sl u Z zs) from fun u h => Lib.hid ((hZ.out.below) (below_ext HBw.out h.out)))
  have HB_0 : Hid (Below w0.heap.size w0 w0) := Lib.hid (Below.refl _ _)
  have HW := Lib.hid hW
  have kRB := Lib.hid (show ∀ u : World, Hid (Below w0.heap.size w0 u) → Hid (u.heap[w.heap.size + 1]? = some (.cells #[.int .i64 0, .int .i64 0, .slice none 0 0, .slice none 0 0] 69)) from fun u h => Lib.hid (blk_below (by rw [← hW]; exact heap_alloc2_new _ _ _) h.out))
  clear hW hc hA hZ
  go_enter Tryd.func46, Tryd.ntmps46
  go_wp2_with fail
  rw [HW.out]
  obtain ⟨zc0, zc1, zc2, zc3, zc4, ⟨zc5, zf5⟩, ⟨zc6, zf6⟩, ⟨zc7, zf7⟩, ⟨zc8, zf8⟩⟩ := kC.out _ HB_0
  have HSZ0 : Hid (w0.heap.size = w.heap.size + 2) := Lib.hid (by rw [← HW.out]; simp)
  go_upto_region 1 with (fail)
  clear zc0 zc1 zc2 zc3 zc4 zc5 zf5 zc6 zf6 zc7 zf7 zc8 zf8
  have hBx := Lib.hid (show ∀ u u2 : World, Hid (Below w0.heap.size w0 u) → Below u.heap.size u u2 → Hid (Below w0.heap.size w0 u2) from fun u u2 h1 h2 => Lib.hid (below_ext h1.out h2))
  have hS := Lib.hid (show ∀ u : World, Hid (Below w0.heap.size w0 u) → (u.cell? ⟨w.heap.size, 0, none⟩ = some (.int .i64 E1) ∧ u.cell? ⟨w.heap.size, 1, none⟩ = some (.int .i64 E2) ∧ u.cell? ⟨w.heap.size, 2, none⟩ = some (.slice A na ca) ∧ u.cell? ⟨w.heap.size, 3, none⟩ = some (.int .i64 C) ∧ u.cell? ⟨w.heap.size, 4, none⟩ = some (.slice Z nz cz) ∧ Own u ⟨w.heap.size + 1, 0, none⟩ (.int .i64 0) ∧ Own u ⟨w.heap.size + 1, 1, none⟩ (.int .i64 0) ∧ Own u ⟨w.heap.size + 1, 2, none⟩ (.slice none 0 0) ∧ Own u ⟨w.heap.size + 1, 3, none⟩ (.slice none 0 0)) from fun u h1 => by
    obtain ⟨y0, y1, y2, y3, y4, y5, y6, y7, y8⟩ := kC.out _ (Lib.hid h1.out)
    exact ⟨y0, y1, y2, y3, y4, y5, y6, y7, y8⟩)
  have HBA : Hid (Below w0.heap.size w0 w0) := Lib.hid HB_0.out
  have HBD := hBx.out _ _ HBA (Below.refl _ _).drew
  refine wp_region_T (S := fun w' => w'.cell? ⟨w.heap.size, 0, none⟩ = some (.int .i64 E1) ∧ w'.cell? ⟨w.heap.size, 1, none⟩ = some (.int .i64 E2) ∧ w'.cell? ⟨w.heap.size, 2, none⟩ = some (.slice A na ca) ∧ w'.cell? ⟨w.heap.size, 3, none⟩ = some (.int .i64 C) ∧ w'.cell? ⟨w.heap.size, 4, none⟩ = some (.slice Z nz cz) ∧ Own w' ⟨w.heap.size + 1, 0, none⟩ (.int .i64 0) ∧ Own w' ⟨w.heap.size + 1, 1, none⟩ (.int .i64 0) ∧ Own w' ⟨w.heap.size + 1, 2, none⟩ (.slice none 0 0) ∧ Own w' ⟨w.heap.size + 1, 3, none⟩ (.slice none 0 0)) (E := [20]) (by kernel_rfl) (hS.out _ HBD) (fun hHeld => ?_)
  obtain ⟨wD, hwD⟩ : ∃ u, w0.drew = u := ⟨_, rfl⟩
  rw [hwD] at HBD hHeld ⊢
  have HSZD : Hid (w0.heap.size ≤ wD.heap.size) := Lib.hid (by rw [← hwD]; exact Nat.le_refl _)
  clear hwD
  refine tkV 0 ?_
  try simp only [qq1, qq2, qq3, Act.put, qq4, qq5, qq6]
  refine tkV 1 ?_
  try simp only [qq1, qq2, qq3, Act.put, qq4, qq5, qq6]
  refine tkV 2 ?_
  try simp only [qq1, qq2, qq3, Act.put, qq4, qq5, qq6]
  refine tkV 3 ?_
  try simp only [qq1, qq2, qq3, Act.put, qq4, qq5, qq6]
  refine tkV 6 ?_
  try simp only [qq1, qq2, qq3, Act.put, qq4, qq5, qq6]
  refine tkV 7 ?_
  try simp only [qq1, qq2, qq3, Act.put, qq4, qq5, qq6]
  refine tkV 8 ?_
  try simp only [qq1, qq2, qq3, Act.put, qq4, qq5, qq6]
  refine tkV 10 ?_
  try simp only [qq1, qq2, qq3, Act.put, qq4, qq5, qq6]
  refine tkV 11 ?_
  try simp only [qq1, qq2, qq3, Act.put, qq4, qq5, qq6]
  refine tkV 12 ?_
  try simp only [qq1, qq2, qq3, Act.put, qq4, qq5, qq6]
  refine tkV 13 ?_
  try simp only [qq1, qq2, qq3, Act.put, qq4, qq5, qq6]
  refine tkV 14 ?_
  try simp only [qq1, qq2, qq3, Act.put, qq4, qq5, qq6]
  refine tkV 15 ?_
  try simp only [qq1, qq2, qq3, Act.put, qq4, qq5, qq6]
  refine tkV 16 ?_
  try simp only [qq1, qq2, qq3, Act.put, qq4, qq5, qq6]
  refine wpT_frame (fun T a0 hT ha0 => ?_)
  clear hHeld
  have G4_5_9_17_18 : ∀ (gE : Nat) (cE : Ic) (cA : Ic) (cZ : Ic) (gL : Nat) (u : World), (Hid (Below w0.heap.size w0 u)) → (Hid (IB2 u gE (E1) (E2))) → (Hid (ItS w0.heap.size u (.lst ([E1, E2].map .int)) cE)) → (Hid (ItS w0.heap.size u (.lst ((al).map .int)) cA)) → (Hid (ItS w0.heap.size u (.lst ((zs).map .int)) cZ)) → (Hid (u.heap[gL]? = some (.cells #[.int .i64 cE.kind, .int .i64 cE.n, .slice cE.B cE.nb cE.cb, .slice cE.L cE.nl cE.cl, .int .i64 cA.kind, .int .i64 cA.n, .slice cA.B cA.nb cA.cb, .slice cA.L cA.nl cA.cl, .int .i64 1, .int .i64 C, .slice none 0 0, .slice none 0 0, .int .i64 cZ.kind, .int .i64 cZ.n, .slice cZ.B cZ.nb cZ.cb, .slice cZ.L cZ.nl cZ.cl] 69))) → (Hid (w0.heap.size ≤ gL)) → T 2 #[true, true, true, true, true, true, true, true, true, true, true, true, true, true, true, true, true, true, true, false, false] (((((a0.put (some 7) (.slice (some ⟨gE, 0, none⟩) 2 2)).put (some 8) (.agg #[.int .i64 cE.kind, .int .i64 cE.n, .slice cE.B cE.nb cE.cb, .slice cE.L cE.nl cE.cl])).put (some 12) (.agg #[.int .i64 cA.kind, .int .i64 cA.n, .slice cA.B cA.nb cA.cb, .slice cA.L cA.nl cA.cl])).put (some 20) (.agg #[.int .i64 cZ.kind, .int .i64 cZ.n, .slice cZ.B cZ.nb cZ.cb, .slice cZ.L cZ.nl cZ.cl])).put (some 21) (.slice (some ⟨gL, 0, none⟩) 4 4)) u := by
    intro gE cE cA cZ gL u FB FE HE HA HZ FL FLl
    have hHeld := hS.out _ FB
    rw [hT, ha0]
    try simp only [qq1, qq2, qq3, Act.put, qq4, qq5, qq6]
    have HE_w0 := Lib.hid FB.out
    refine tkV 19 ?_
    try simp only [qq1, qq2, qq3, Act.put, qq4, qq5, qq6]
    have FNIL := kRB.out _ (Lib.hid FB.out)
    refine wpT_pass (i := 20) (by kernel_rfl) (by simp) rfl (fun K hK => ?_)
    rw [show (if Region.wanted _ _ = true then _ else _ : Prop) = _ from if_pos rfl]
    refine wp_store_row 69 _ _ rfl (w.heap.size + 1) (Ic.cs ⟨3, 0, none, 0, 0, some ⟨gL, 0, none⟩, 4, 4⟩) rfl rfl 69 _ FNIL.out (ic_info _) rfl (ic_one _) ?_
    refine hK.out _ _ ?_
    clear hK K
    try simp only [qq1, qq2, qq3, Act.put, qq4, qq5, qq6]
    refine wpT_done (by kernel_rfl) ?_ _
    have hit : ItS w0.heap.size u (eIt E1 E2 al C zs) ⟨3, 0, none, 0, 0, some ⟨gL, 0, none⟩, 4, 4⟩ := its_blk (fun k => match k with | 0 => cE | 1 => cA | 2 => icInt C | _ => cZ) FL.out FLl.out rfl (fun k hk => by
        rcases (show k = 0 ∨ k = 1 ∨ k = 2 ∨ k = 3 by omega) with rfl | rfl | rfl | rfl <;> exact ⟨rfl, rfl, rfl, rfl⟩) (fun k hk => by
        rcases (show k = 0 ∨ k = 1 ∨ k = 2 ∨ k = 3 by omega) with rfl | rfl | rfl | rfl
        · exact HE.out
        · exact HA.out
        · exact its_int _ _ _
        · exact HZ.out)
    have hit2 := (hit.setRow (g := w.heap.size + 1) (by have := HSZ0.out; omega) (Ic.cs ⟨3, 0, none, 0, 0, some ⟨gL, 0, none⟩, 4, 4⟩)).mono (lo' := w.heap.size) (by have := HSZ0.out; omega)
    have hbF := below_setRow' (below_ext HBw.out FB.out) (cs := Ic.cs ⟨3, 0, none, 0, 0, some ⟨gL, 0, none⟩, 4, 4⟩) (Nat.le_add_right w.heap.size 1)
    have hrw := setRow_heap _ _ _ (Ic.cs ⟨3, 0, none, 0, 0, some ⟨gL, 0, none⟩, 4, 4⟩) _ _ FNIL.out
    go_wp2
    exact bodyPost_ret (v := (Ic.mk 3 0 none 0 0 (some ⟨gL, 0, none⟩) 4 4).val) (results_cell1 (p := 2) (ty := 69) rfl _ _ ⟨w.heap.size + 1, 0, none⟩ _ rfl (run_loadVar_row _ _ _ _ _ _ _ hrw Tryd.underlying69 rfl (ic_info _))) rfl ⟨_, rfl, hit2, hbF⟩
  have G4_5_9_17 : ∀ (gE : Nat) (cE : Ic) (cA : Ic) (cZ : Ic) (u : World), (Hid (Below w0.heap.size w0 u)) → (Hid (IB2 u gE (E1) (E2))) → (Hid (ItS w0.heap.size u (.lst ([E1, E2].map .int)) cE)) → (Hid (ItS w0.heap.size u (.lst ((al).map .int)) cA)) → (Hid (ItS w0.heap.size u (.lst ((zs).map .int)) cZ)) → T 3 #[true, true, true, true, true, true, true, true, true, true, true, true, true, true, true, true, true, true, false, false, false] ((((a0.put (some 7) (.slice (some ⟨gE, 0, none⟩) 2 2)).put (some 8) (.agg #[.int .i64 cE.kind, .int .i64 cE.n, .slice cE.B cE.nb cE.cb, .slice cE.L cE.nl cE.cl])).put (some 12) (.agg #[.int .i64 cA.kind, .int .i64 cA.n, .slice cA.B cA.nb cA.cb, .slice cA.L cA.nl cA.cl])).put (some 20) (.agg #[.int .i64 cZ.kind, .int .i64 cZ.n, .slice cZ.B cZ.nb cZ.cb, .slice cZ.L cZ.nl cZ.cl])) u := by
    intro gE cE cA cZ u FB FE HE HA HZ
    have hHeld := hS.out _ FB
    rw [hT, ha0]
    try simp only [qq1, qq2, qq3, Act.put, qq4, qq5, qq6]
    refine wpT_one (i := 18) (by kernel_rfl) rfl (fun K hK => ?_)
    go_simp
    have FB2 := hBx.out _ _ FB (below_box0 u (.cells #[.int .i64 cE.kind, .int .i64 cE.n, .slice cE.B cE.nb cE.cb, .slice cE.L cE.nl cE.cl, .int .i64 cA.kind, .int .i64 cA.n, .slice cA.B cA.nb cA.cb, .slice cA.L cA.nl cA.cl, .int .i64 1, .int .i64 C, .slice none 0 0, .slice none 0 0, .int .i64 cZ.kind, .int .i64 cZ.n, .slice cZ.B cZ.nb cZ.cb, .slice cZ.L cZ.nl cZ.cl] 69))
    refine hK.out _ _ ?_ (fun hHeld => ?_)
    · exact hS.out _ FB2
    clear hK K hHeld
    try simp only [qq1, qq2, qq3, Act.put, qq4, qq5, qq6]
    have hG := G4_5_9_17_18 gE cE cA cZ u.heap.size (u.alloc (.cells #[.int .i64 cE.kind, .int .i64 cE.n, .slice cE.B cE.nb cE.cb, .slice cE.L cE.nl cE.cl, .int .i64 cA.kind, .int .i64 cA.n, .slice cA.B cA.nb cA.cb, .slice cA.L cA.nl cA.cl, .int .i64 1, .int .i64 C, .slice none 0 0, .slice none 0 0, .int .i64 cZ.kind, .int .i64 cZ.n, .slice cZ.B cZ.nb cZ.cb, .slice cZ.L cZ.nl cZ.cl] 69)) FB2 (Lib.hid (FE.out.below (below_box0 u (.cells #[.int .i64 cE.kind, .int .i64 cE.n, .slice cE.B cE.nb cE.cb, .slice cE.L cE.nl cE.cl, .int .i64 cA.kind, .int .i64 cA.n, .slice cA.B cA.nb cA.cb, .slice cA.L cA.nl cA.cl, .int .i64 1, .int .i64 C, .slice none 0 0, .slice none 0 0, .int .i64 cZ.kind, .int .i64 cZ.n, .slice cZ.B cZ.nb cZ.cb, .slice cZ.L cZ.nl cZ.cl] 69)))) (Lib.hid (HE.out.kept (below_box0 u (.cells #[.int .i64 cE.kind, .int .i64 cE.n, .slice cE.B cE.nb cE.cb, .slice cE.L cE.nl cE.cl, .int .i64 cA.kind, .int .i64 cA.n, .slice cA.B cA.nb cA.cb, .slice cA.L cA.nl cA.cl, .int .i64 1, .int .i64 C, .slice none 0 0, .slice none 0 0, .int .i64 cZ.kind, .int .i64 cZ.n, .slice cZ.B cZ.nb cZ.cb, .slice cZ.L cZ.nl cZ.cl] 69)))) (Lib.hid (HA.out.kept (below_box0 u (.cells #[.int .i64 cE.kind, .int .i64 cE.n, .slice cE.B cE.nb cE.cb, .slice cE.L cE.nl cE.cl, .int .i64 cA.kind, .int .i64 cA.n, .slice cA.B cA.nb cA.cb, .slice cA.L cA.nl cA.cl, .int .i64 1, .int .i64 C, .slice none 0 0, .slice none 0 0, .int .i64 cZ.kind, .int .i64 cZ.n, .slice cZ.B cZ.nb cZ.cb, .slice cZ.L cZ.nl cZ.cl] 69)))) (Lib.hid (HZ.out.kept (below_box0 u (.cells #[.int .i64 cE.kind, .int .i64 cE.n, .slice cE.B cE.nb cE.cb, .slice cE.L cE.nl cE.cl, .int .i64 cA.kind, .int .i64 cA.n, .slice cA.B cA.nb cA.cb, .slice cA.L cA.nl cA.cl, .int .i64 1, .int .i64 C, .slice none 0 0, .slice none 0 0, .int .i64 cZ.kind, .int .i64 cZ.n, .slice cZ.B cZ.nb cZ.cb, .slice cZ.L cZ.nl cZ.cl] 69)))) (Lib.hid (heap_alloc_new u _)) (Lib.hid (by have := FB.out.size; omega))
    rw [hT, ha0] at hG
    (try simp only [qq1, qq2, qq3, Act.put, qq4, qq5, qq6] at hG)
    exact hG
  have G4_5_9 : ∀ (gE : Nat) (cE : Ic) (cA : Ic) (u : World), (Hid (Below w0.heap.size w0 u)) → (Hid (IB2 u gE (E1) (E2))) → (Hid (ItS w0.heap.size u (.lst ([E1, E2].map .int)) cE)) → (Hid (ItS w0.heap.size u (.lst ((al).map .int)) cA)) → T 4 #[true, true, true, true, true, true, true, true, true, true, true, true, true, true, true, true, true, false, false, false, false] (((a0.put (some 7) (.slice (some ⟨gE, 0, none⟩) 2 2)).put (some 8) (.agg #[.int .i64 cE.kind, .int .i64 cE.n, .slice cE.B cE.nb cE.cb, .slice cE.L cE.nl cE.cl])).put (some 12) (.agg #[.int .i64 cA.kind, .int .i64 cA.n, .slice cA.B cA.nb cA.cb, .slice cA.L cA.nl cA.cl])) u := by
    intro gE cE cA u FB FE HE HA
    have hHeld := hS.out _ FB
    rw [hT, ha0]
    try simp only [qq1, qq2, qq3, Act.put, qq4, qq5, qq6]
    refine wpT_one (i := 17) (by kernel_rfl) rfl (fun K hK => ?_)
    go_simp
    refine (rints_any Z zs nz cz hnz (by omega) _ (kZ.out _ (Lib.hid FB.out))).mono ?_
    rintro e wB ⟨cB, rfl, hit, hq⟩
    have FB2 := hBx.out _ _ FB hq
    refine hK.out _ _ ?_ (fun hHeld => ?_)
    · exact hS.out _ FB2
    clear hK K hHeld
    try simp only [qq1, qq2, qq3, Act.put, qq4, qq5, qq6]
    have hG := G4_5_9_17 gE cE cA cB wB FB2 (Lib.hid (FE.out.below hq)) (Lib.hid (HE.out.kept hq)) (Lib.hid (HA.out.kept hq)) (Lib.hid (hit.mono (by have := FB.out.size; omega)))
    rw [hT, ha0] at hG
    (try simp only [qq1, qq2, qq3, Act.put, qq4, qq5, qq6] at hG)
    exact hG
  have G4_5 : ∀ (gE : Nat) (cE : Ic) (u : World), (Hid (Below w0.heap.size w0 u)) → (Hid (IB2 u gE (E1) (E2))) → (Hid (ItS w0.heap.size u (.lst ([E1, E2].map .int)) cE)) → T 5 #[true, true, true, true, true, true, true, true, true, false, true, true, true, true, true, true, true, false, false, false, false] ((a0.put (some 7) (.slice (some ⟨gE, 0, none⟩) 2 2)).put (some 8) (.agg #[.int .i64 cE.kind, .int .i64 cE.n, .slice cE.B cE.nb cE.cb, .slice cE.L cE.nl cE.cl])) u := by
    intro gE cE u FB FE HE
    have hHeld := hS.out _ FB
    rw [hT, ha0]
    try simp only [qq1, qq2, qq3, Act.put, qq4, qq5, qq6]
    refine wpT_one (i := 9) (by kernel_rfl) rfl (fun K hK => ?_)
    go_simp
    refine (rints_any A al na ca hna (by omega) _ (kA.out _ (Lib.hid FB.out))).mono ?_
    rintro e wB ⟨cB, rfl, hit, hq⟩
    have FB2 := hBx.out _ _ FB hq
    refine hK.out _ _ ?_ (fun hHeld => ?_)
    · exact hS.out _ FB2
    clear hK K hHeld
    try simp only [qq1, qq2, qq3, Act.put, qq4, qq5, qq6]
    have hG := G4_5_9 gE cE cB wB FB2 (Lib.hid (FE.out.below hq)) (Lib.hid (HE.out.kept hq)) (Lib.hid (hit.mono (by have := FB.out.size; omega)))
    rw [hT, ha0] at hG
    (try simp only [qq1, qq2, qq3, Act.put, qq4, qq5, qq6] at hG)
    exact hG
  have G4 : ∀ (gE : Nat) (u : World), (Hid (Below w0.heap.size w0 u)) → (Hid (IB2 u gE (E1) (E2))) → T 6 #[true, true, true, true, true, false, true, true, true, false, true, true, true, true, true, true, true, false, false, false, false] (a0.put (some 7) (.slice (some ⟨gE, 0, none⟩) 2 2)) u := by
    intro gE u FB FE
    have hHeld := hS.out _ FB
    rw [hT, ha0]
    try simp only [qq1, qq2, qq3, Act.put, qq4, qq5, qq6]
    refine wpT_one (i := 5) (by kernel_rfl) rfl (fun K hK => ?_)
    go_simp
    refine (rints_any (some ⟨gE, 0, none⟩) [E1, E2] 2 2 (Lib.hid rfl) (by omega) _ (Lib.hid FE.out.sl)).mono ?_
    rintro e wB ⟨cB, rfl, hit, hq⟩
    have FB2 := hBx.out _ _ FB hq
    refine hK.out _ _ ?_ (fun hHeld => ?_)
    · exact hS.out _ FB2
    clear hK K hHeld
    try simp only [qq1, qq2, qq3, Act.put, qq4, qq5, qq6]
    have hG := G4_5 gE cB wB FB2 (Lib.hid (FE.out.below hq)) (Lib.hid (hit.mono (by have := FB.out.size; omega)))
    rw [hT, ha0] at hG
    (try simp only [qq1, qq2, qq3, Act.put, qq4, qq5, qq6] at hG)
    exact hG
  have G0 : ∀  (u : World), (Hid (Below w0.heap.size w0 u)) → T 7 #[true, true, true, true, false, false, true, true, true, false, true, true, true, true, true, true, true, false, false, false, false] a0 u := by
    intro  u FB
    have hHeld := hS.out _ FB
    rw [hT, ha0]
    try simp only [qq1, qq2, qq3, Act.put, qq4, qq5, qq6]
    refine wpT_one (i := 4) (by kernel_rfl) rfl (fun K hK => ?_)
    go_simp
    have FB2 := hBx.out _ _ FB (below_box0 u (.cells #[.int .i64 (E1), .int .i64 (E2)] 3))
    refine hK.out _ _ ?_ (fun hHeld => ?_)
    · exact hS.out _ FB2
    clear hK K hHeld
    try simp only [qq1, qq2, qq3, Act.put, qq4, qq5, qq6]
    have hG := G4 u.heap.size (u.alloc (.cells #[.int .i64 (E1), .int .i64 (E2)] 3)) FB2 (Lib.hid (IB2.new u (E1) (E2)))
    rw [hT, ha0] at hG
    (try simp only [qq1, qq2, qq3, Act.put, qq4, qq5, qq6] at hG)
    exact hG
  exact G0 _ HBD
end Go.Proofs.YtpmjgkkcckhabaaDoor
