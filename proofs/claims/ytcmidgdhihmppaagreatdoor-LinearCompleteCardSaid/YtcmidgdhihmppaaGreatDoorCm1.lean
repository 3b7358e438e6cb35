/- Contracts and lemmas: Slk, Byt, OpR, OpP, TrF, DrA, OpD, LcB, LinG, LinH, LinL, TrI, TrJ, LcD, LinX, DrB, DrC, DrD. -/
import Derived.Deep.Slices
import Derived.Deep.MidRow
import Derived.Test.YtcmidgdhihmppaaGreatDoorShelf
import Derived.Test.YtcmidgdhihmppaaGreatDoorCk6
namespace Go.Proofs.YtcmidgdhihmppaaGreatDoor
open Go.RowKit SpM
set_option linter.unusedVariables false
set_option linter.unusedSimpArgs false
set_option maxRecDepth 100000
theorem sl0 (w : World) (A : Option Addr) : Sl w A [] := fun k hk => absurd hk (by simp)
theorem OwnL.sl {w : World} {B : Nat} {v : Value} {xs : List Int} (h : OwnL w B v xs) : ∃ A c, v = .slice A xs.length c ∧ Sl w A xs ∧ (0 < xs.length → ∃ g, A = some ⟨g, 0, none⟩ ∧ B ≤ g) := by
  by_cases h0 : 0 < xs.length
  · obtain ⟨g, cap, rfl, hg, hc⟩ := OwnL.cells h h0
    exact ⟨some ⟨g, 0, none⟩, cap, rfl, fun k hk => ⟨g, 0, rfl, by rw [Nat.zero_add]; exact hc k hk⟩, fun _ => ⟨g, rfl, hg⟩⟩
  · have e : xs = [] := List.eq_nil_of_length_eq_zero (by omega)
    subst e
    obtain ⟨_, h2⟩ := h
    rcases h2 with ⟨hv, _⟩ | ⟨g, cap, cur, hv, _⟩
    · exact ⟨none, 0, hv, sl0 _ _, fun h => absurd h (by simp)⟩
    · exact ⟨_, cap, hv, sl0 _ _, fun h => absurd h (by simp)⟩
end Go.Proofs.YtcmidgdhihmppaaGreatDoor
namespace Go.Proofs.YtcmidgdhihmppaaGreatDoor
open Go.RowKit SpM
set_option linter.unusedVariables false
set_option linter.unusedSimpArgs false
set_option maxRecDepth 100000
variable {K : IntKind}
theorem Sk.belowB {w w0 u : World} {B : Nat} {A : Option Addr} {xs : List Int} (h : Sk K w A xs) (h0 : Below w.heap.size w w0) (hB : w.heap.size ≤ B) (hu : Below B w0 u) : Sk K u A xs := h.below (h0.trans (hu.mono hB))
variable {T : TypeId}
end Go.Proofs.YtcmidgdhihmppaaGreatDoor
namespace Go.Proofs.YtcmidgdhihmppaaGreatDoor
open Go.ChangeShapes Go.WideShapes Go.ChangeAt Go.RowKit SpM
set_option linter.unusedVariables false
section
variable {H : Type} {enc : TypeId × Value → H} {w : World} {base : Nat} {held : Bool}
set_option maxRecDepth 100000 in
theorem open_sl {r : Reach} {b0 : Nat} {v : Value} {d : DataW H} {ps : List MemPlace} (hval : Value.okWide Tryz.prog w r b0 24 v) (hd : DataW.Trod enc Tryz.prog w base (fun _ => true) held 24 v d ps) :
    ∃ (A : Option Addr) (n c : Nat) (xs : List Int), v = .slice A n c ∧ xs.length = n ∧ Sl w A xs := by
  obtain ⟨a, len, cap, rfl⟩ := okWide_slice Tryz.underlying24 hval
  obtain ⟨n, h⟩ := hd
  rcases open_ints Tryz.underlying24 Tryz.underlying3 cellsInt h with ⟨h0, _⟩ | ⟨a', len', cap', zs, h0, _, hlc, _, hz, _, hcell, _⟩
  · simp [Value.cells] at h0
    obtain ⟨rfl, rfl, rfl⟩ := h0
    exact ⟨none, 0, 0, [], rfl, rfl, fun k hk => absurd hk (by simp)⟩
  · simp [Value.cells] at h0
    obtain ⟨rfl, rfl, rfl⟩ := h0
    simp at hz
    refine ⟨some a', len, cap, zs.take len, rfl, by rw [List.length_take]; omega, fun k hk => ?_⟩
    rw [List.length_take] at hk
    obtain ⟨b, off, rfl, hc⟩ := ints_at hcell (by omega)
    refine ⟨b, off, rfl, ?_⟩
    rw [hc k (by omega), List.getD_eq_getElem?_getD, List.getD_eq_getElem?_getD, List.getElem?_take_of_lt (by omega)]
end
section
variable {H : Type} {enc : TypeId × Value → H} {w : World} {base : Nat} {held : Bool}
end
end Go.Proofs.YtcmidgdhihmppaaGreatDoor
namespace Go.Proofs.YtcmidgdhihmppaaGreatDoor
open Go.ChangeShapes Go.WideShapes Go.ChangeAt Go.RowKit SpM
set_option linter.unusedVariables false
section
variable {H : Type} {enc : TypeId × Value → H} {w : World} {base : Nat} {held : Bool}
set_option maxRecDepth 100000
/-- a uint32 argument. -/
theorem open_u32 {r : Reach} {b0 : Nat} {v : Value} {d : DataW H} {ps : List MemPlace} (hval : Value.okWide Tryz.prog w r b0 35 v) (hd : DataW.Trod enc Tryz.prog w base (fun _ => true) held 35 v d ps) :
    ∃ n, v = .int .u32 n ∧ 0 ≤ n ∧ n ≤ 4294967295 := by
  obtain ⟨n, rfl, _, _, hw⟩ := open_int Tryz.underlying35 hval hd
  have h1 : 0 ≤ n ∧ n ≤ 4294967295 := by
    simp [Lit.wf, IntKind.min, IntKind.max, IntKind.signed, IntKind.bits] at hw
    omega
  exact ⟨n, rfl, h1.1, h1.2⟩
end
end Go.Proofs.YtcmidgdhihmppaaGreatDoor
namespace Go.Proofs.YtcmidgdhihmppaaGreatDoor
open Go.RowKit SpM
set_option linter.unusedVariables false
set_option linter.unusedSimpArgs false
set_option maxRecDepth 100000
theorem chN_lo {q : Int} (hq : 1 ≤ q) (h s : List Int) : 0 ≤ chN q h s ∧ chN q h s < q := numL_lo hq 16
end Go.Proofs.YtcmidgdhihmppaaGreatDoor
namespace Go.Proofs.YtcmidgdhihmppaaGreatDoor
open Go.RowKit SpM
set_option linter.unusedVariables false
set_option linter.unusedSimpArgs false
set_option maxRecDepth 100000
theorem infoD : (Tryz.prog.info? 39).map (·.size) = some 33 := by kernel_rfl
theorem dr_info {h : List Int} {c : Int} (hl : h.length = 32) : (Tryz.prog.info? 39).map (·.size) = some (tcs h c).size := infoD.trans (congrArg some (tcs_size hl).symm)
/-- a block that holds a draw. -/
def DBlk (w : World) (b : Nat) (h : List Int) (c : Int) : Prop := w.heap[b]? = some (.cells (tcs h c) 39 (0, 0))
theorem DBlk.below {w w' : World} {b : Nat} {h : List Int} {c : Int} (hh : DBlk w b h c) (hb : Below w.heap.size w w') : DBlk w' b h c := (hb.block b (Array.getElem?_eq_some_iff.1 hh).1).trans hh
theorem DBlk.new (w : World) (h : List Int) (c : Int) : DBlk (w.alloc (.cells (tcs h c) 39)) w.heap.size h c := heap_alloc_new _ _
theorem DBlk.lt {w : World} {b : Nat} {h : List Int} {c : Int} (hh : DBlk w b h c) : b < w.heap.size := (Array.getElem?_eq_some_iff.1 hh).1
theorem DBlk.count {w : World} {b : Nat} {h : List Int} {c : Int} (hh : DBlk w b h c) (hl : h.length = 32) : w.cell? ⟨b, 32, none⟩ = some (.int .i64 c) := by
  rw [cell_blk hh, tcs, Array.getElem?_append_right (by rw [arr_size, hl]; exact Nat.le_refl _), arr_size, hl]
  rfl
theorem DBlk.sk {w : World} {b : Nat} {h : List Int} {c : Int} (hh : DBlk w b h c) : Sk .u8 w (some ⟨b, 0, none⟩) h := fun j hj => ⟨b, 0, rfl, by
  rw [Nat.zero_add, cell_blk hh, tcs, Array.getElem?_append_left (by rw [arr_size]; exact hj)]
  exact arr_get hj⟩
theorem DBlk.setRow {w : World} {b : Nat} {h h' : List Int} {c c' : Int} (hh : DBlk w b h c) : DBlk (w.setRow b (tcs h' c')) b h' c' := setRow_heap w b _ _ _ _ hh
/-- which sources are valid. -/
def drB (c : Int) : Bool := decide (0 ≤ c) && decide (c ≤ 1099511627776)
theorem dvalid_any (h : List Int) (hl : Hid (h.length = 32)) (c : Int) (r : Bool) (hr : Hid (drB c = r)) (w : World) :
    Calls Tryz.prog 41 #[.agg (tcs h c)] w fun e w' => e = .returned (.bool r) ∧ Below w.heap.size w w' := by
  have hc := (DBlk.new w h c).count hl.out
  by_cases h0 : 0 ≤ c
  · have d1 : decide ((0 : Int) ≤ c) = true := by simp [h0]
    obtain ⟨t, ht⟩ : ∃ t, decide (c ≤ 1099511627776) = t := ⟨_, rfl⟩
    obtain rfl : t = r := by rw [← hr.out, drB, d1, ht]; rfl
    clear hr
    go_enter Tryz.func41, Tryz.ntmps41
    go_wp2
    go_ret
    exact ⟨by first | rfl | (rw [ht]), below_box0 _ _⟩
  · have d1 : decide ((0 : Int) ≤ c) = false := by simp; omega
    obtain rfl : r = false := by rw [← hr.out, drB, d1]; rfl
    clear hr
    go_enter Tryz.func41, Tryz.ntmps41
    go_wp2
    go_ret
    exact ⟨rfl, below_box0 _ _⟩
theorem dcheck_ok (h : List Int) (hl : Hid (h.length = 32)) (c : Int) (hv : Hid (drB c = true)) (n lo hi : Int) (h1 : lo ≤ n) (h2 : n ≤ hi) (w : World) :
    Calls Tryz.prog 92 #[.agg (tcs h c), .int .i64 n, .int .i64 lo, .int .i64 hi] w fun e w' => e = .returned (.int .i64 0) ∧ Below w.heap.size w w' := by
  have HT0 : Hid (DBlk (w.alloc (.cells (tcs h c) 39)) w.heap.size h c) := Lib.hid (DBlk.new _ _ _)
  have hb0 := below_box0 w (.cells (tcs h c) 39)
  obtain ⟨W, hW⟩ : ∃ W, w.alloc (.cells (tcs h c) 39) = W := ⟨_, rfl⟩
  rw [hW] at HT0 hb0
  have HB0 := Lib.hid hb0
  have HW := Lib.hid hW
  have d1 : decide (n < lo) = false := by simp; omega
  have d2 : decide (hi < n) = false := by simp; omega
  clear hW hb0
  go_enter Tryz.func92, Tryz.ntmps92
  go_upto_region 1 with (fail)
  rw [HW.out]
  clear HW
  go_wp2_with ((with_reducible show wpList _ _ _ (⟨some 10, _, _, _, _, _⟩ :: _) _ _); refine wpList_load_row rfl 39 _ rfl w.heap.size rfl _ _ _ _ HT0.out Tryz.underlying39 rfl (dr_info hl.out) ?_)
  refine (dvalid_any h hl c true hv _).mono ?_
  rintro e w1 ⟨rfl, hb1⟩
  have hbF := below_ext HB0.out hb1
  go_wp2
  go_ret
  exact ⟨rfl, hbF⟩
set_option maxHeartbeats 6400000 in
theorem dposition_any (h : List Int) (hl : Hid (h.length = 32)) (c : Int) (hc0 : 0 ≤ c) (hc1 : c ≤ 1099511627776) (w : World) :
    Calls Tryz.prog 147 #[.agg (tcs h c)] w (KOut .u8 5 (h ++ be8 c) w) := by
  obtain ⟨i1, hi1, hy0, hy1, hy2⟩ := info_parts byteInfo
  have HT0 : Hid (DBlk (w.alloc (.cells (tcs h c) 39)) w.heap.size h c) := Lib.hid (DBlk.new _ _ _)
  have hb0 := below_box0 w (.cells (tcs h c) 39)
  have HSZ : Hid ((w.alloc (.cells (tcs h c) 39)).heap.size = w.heap.size + 1) := Lib.hid (by simp)
  obtain ⟨W, hW⟩ : ∃ W, w.alloc (.cells (tcs h c) 39) = W := ⟨_, rfl⟩
  rw [hW] at HT0 hb0 HSZ
  have HB0 := Lib.hid hb0
  have HW := Lib.hid hW
  clear hW hb0
  go_enter Tryz.func147, Tryz.ntmps147
  go_upto_region 1 with (fail)
  rw [HW.out]
  clear HW
  have HT1 := Lib.hid (HT0.out.below (below_box0 W (.cells #[] 5)))
  have hrow : (W.alloc (.cells #[] 5)).ownsRow W.heap.size 5 1 (.slice (some ⟨W.heap.size, 0, none⟩) 0 0) 0 [] := ⟨rfl, Or.inr ⟨W.heap.size, 0, #[], rfl, Nat.le_refl _, heap_alloc_new _ _, Nat.le_refl _, by decide, rfl, rfl⟩⟩
  have b1 : 0 + 32 ≤ maxLen := by unfold maxLen; omega
  have b2 : (0 + 32) * 1 ≤ 140737488355328 := by omega
  have b3 : W.heap.size ≤ (W.alloc (.cells #[] 5)).heap.size := by simp
  have hlen : (h.map (Value.int .u8)).length = 32 * 1 := by simp [hl.out]
  go_upto_region 2 with (at_builtin; refine wpList_append_lies rfl _ _ 114 rfl W.heap.size 5 i1 (.int .u8 0) 1 1 Tryz.underlying114 hi1 hy0 hy1 hy2 rfl (by decide) (.slice (some ⟨W.heap.size, 0, none⟩) 0 0) _ _ rfl hrow ⟨w.heap.size, 0, none⟩ 32 32 (h.map (.int .u8)) rfl hlen HT1.out.sk.news (ints_oneCell .u8 _) (by decide) b1 b2 b3 _ rfl ?_; intro g1 cap1 w1 hown1 hgrow1 hat1 hlt1)
  have HOH : Hid (OwnK .u8 5 w1 W.heap.size (.slice (some ⟨g1, 0, none⟩) 32 cap1) (h ++ (be8 c).take 0)) := Lib.hid (by unfold OwnK; rw [List.take_zero, List.append_nil, hl.out]; simpa using hown1)
  have HB1 : Hid (Below W.heap.size W w1) := Lib.hid (((Below.refl W.heap.size W).alloc (Nat.le_refl _) (.cells #[] 5)).grown hgrow1 (by simp) (fun j hj => by cases hj; exact Nat.le_refl _))
  clear hown1 hgrow1 hat1 hlt1 hrow b1 b2 b3 hlen HT1
  go_wp2_with fail
  go_loopw [3, 4] (fun p i u => ∃ k : Nat, k ≤ 8 ∧ i = .int .i64 (56 - 8 * (k : Int)) ∧ Hid (OwnK .u8 5 u W.heap.size p (h ++ (be8 c).take k)) ∧ Hid (Below W.heap.size W u)) (fun _ i _ => (intOf i + 8).toNat)
  case atStart => exact ⟨0, by omega, by simp, HOH, HB1⟩
  case round =>
    obtain ⟨k, hk, rfl, HO, HBr⟩ := hrel
    by_cases hlt : k < 8
    · have d1 : decide ((0 : Int) ≤ 56 - 8 * (k : Int)) = true := by simp; omega
      obtain ⟨q, hq⟩ : ∃ q, c / 2 ^ (56 - 8 * k) = q := ⟨_, rfl⟩
      have HTK : Hid ((be8 c).take (k + 1) = (be8 c).take k ++ [q % 256]) := Lib.hid (by
        rw [take_one (show k < (be8 c).length by rw [be8_len]; exact hlt)]
        have h2 := bes_get (s := 8) (Or.inr rfl) c k hlt
        rw [show bes 8 c = be8 c from rfl] at h2
        rw [h2, ← hq, show 8 * (8 - 1 - k) = 56 - 8 * k by omega])
      have HLN : Hid ((h ++ (be8 c).take k).length = 32 + k) := Lib.hid (by rw [List.length_append, List.length_take, be8_len, hl.out]; omega)
      have j0 : (0 : Int) ≤ 56 - 8 * (k : Int) := by omega
      have j1 : (56 - 8 * (k : Int)).toNat = 56 - 8 * k := by omega
      have hown := HO.out.row HLN.out
      have hbs := HBr.out.size
      have hcnt := (HT0.out.below HBr.out).count hl.out
      have b1 : 32 + k + 1 ≤ maxLen := by unfold maxLen; omega
      have b2 : (32 + k + 1) * 1 ≤ 140737488355328 := by omega
      have b3 : W.heap.size ≤ (wr.alloc (.cells #[.int .u8 (q % 256)] 5)).heap.size := by simp; omega
      go_wp2_with (at_builtin; refine wpList_append_lies rfl _ _ 114 rfl W.heap.size 5 i1 (.int .u8 0) 1 1 Tryz.underlying114 hi1 hy0 hy1 hy2 rfl (by decide) u3 _ _ rfl (hown.alloc _) ⟨wr.heap.size, 0, none⟩ 1 1 [.int .u8 (q % 256)] rfl rfl (World.news_of_block (cs := #[.int .u8 (q % 256)]) (t := 5) (fr := (0, 0)) (heap_alloc_new wr _)) (by simp [Value.oneCell']) (by decide) b1 b2 b3 _ rfl ?_; intro gg cap wz hown1 hgrow hat hlt2)
      have HO2 : Hid (OwnK .u8 5 wz W.heap.size (.slice (some ⟨gg, 0, none⟩) (32 + k + 1) cap) (h ++ (be8 c).take (k + 1))) := Lib.hid (by
        rw [HTK.out, ← List.append_assoc]
        exact OwnK.app (ys := [q % 256]) HLN.out.symm rfl hown1)
      have HB2 : Hid (Below W.heap.size W wz) := Lib.hid ((HBr.out.alloc hbs (.cells #[.int .u8 (q % 256)] 5)).grown hgrow (by simp; omega) (fun j hj => (World.ownsRow.lt hown j hj).1))
      clear hown1 hgrow hown hat hlt2 b1 b2 b3 hcnt
      go_wp2
      go_roundw
      case rel => exact ⟨k + 1, by omega, by go_num, HO2, HB2⟩
      case measure => simp [intOf]; omega
    · obtain rfl : k = 8 := by omega
      have HF : Hid (OwnK .u8 5 wr W.heap.size u3 (h ++ be8 c)) := Lib.hid (by
        have h2 := HO.out
        rwa [List.take_of_length_le (by rw [be8_len]; exact Nat.le_refl _)] at h2)
      have hbF := below_ext HB0.out HBr.out
      have hz := HB0.out.size
      clear HO
      go_wp2
      go_ret
      exact ⟨_, rfl, HF.out.mono hz, hbF⟩
end Go.Proofs.YtcmidgdhihmppaaGreatDoor
namespace Go.Proofs.YtcmidgdhihmppaaGreatDoor
open Go.ChangeShapes Go.WideShapes Go.ChangeAt Go.RowKit SpM
set_option linter.unusedVariables false
/-- a draw for the witness. -/
def zDraw : Value := .agg (List.replicate 32 (Value.int .u8 0) ++ [Value.int .i64 0]).toArray
def zDrawD {H : Type} : DataW H := .agg [.agg (List.replicate 32 (.lit (Lit.int .u8 0))), .lit (Lit.int .i64 0)]
theorem cells_u8 {cl : List Value} : ∀ (k : Nat), (∀ i, i < k → ∃ z : Int, (cl.drop i).take 1 = [.int .u8 z] ∧ 0 ≤ z ∧ z < 256) → ∃ h : List Int, h.length = k ∧ cl.take k = h.map (.int .u8) ∧ bytesB h = true
  | 0, _ => ⟨[], rfl, by simp, rfl⟩
  | k + 1, hf => by
    obtain ⟨h, h1, h2, h3⟩ := cells_u8 k (fun i hi => hf i (by omega))
    obtain ⟨z, hz, z0, z1⟩ := hf k (by omega)
    refine ⟨h ++ [z], by simp [h1], by rw [List.take_add, h2, hz, List.map_append]; rfl, ?_⟩
    rw [bytesB_app, h3]
    simp [bytesB, z0, z1]
section
variable {H : Type} {enc : TypeId × Value → H} {w : World} {base : Nat} {held : Bool}
theorem cellsDraw : Tryz.prog.cellsOf 39 = 33 := by kernel_rfl
theorem cellsHash : Tryz.prog.cellsOf 37 = 32 := by kernel_rfl
set_option maxRecDepth 100000 in
theorem open_draw {r : Reach} {b0 : Nat} {v : Value} {d : DataW H} {ps : List MemPlace} (hval : Value.okWide Tryz.prog w r b0 39 v) (hd : DataW.Trod enc Tryz.prog w base (fun _ => true) held 39 v d ps) :
    ∃ (h : List Int) (c : Int), v = .agg (tcs h c) ∧ h.length = 32 ∧ bytesB h = true := by
  obtain ⟨cs, rfl, hsz⟩ := okWide_struct Tryz.underlying39 hval
  obtain ⟨n, h⟩ := hd
  obtain ⟨xs, m, rfl, _, hl, hxl, hf⟩ := DataW.trod_struct Tryz.underlying39 h
  rw [cellsDraw] at hl
  obtain ⟨cl⟩ := cs
  simp only [Value.cells] at hl hf
  have f0 : DataW.trod enc Tryz.prog w base (fun _ => true) held m 37 ((cl.drop 0).take (Tryz.prog.cellsOf 37)) = xs[0]? := hf 0 _ rfl
  have f1 : DataW.trod enc Tryz.prog w base (fun _ => true) held m 3 ((cl.drop 32).take (Tryz.prog.cellsOf 3)) = xs[1]? := hf 1 _ rfl
  rw [cellsHash, List.drop_zero] at f0
  rw [cellsInt] at f1
  have hl2 : xs.length = 2 := hxl
  match xs, hl2 with
  | [x0, x1], _ =>
    obtain ⟨c, hc, _, wc⟩ := DataW.trod_int Tryz.underlying3 f1
    obtain ⟨ys, m', _, _, _, hyl, hfy⟩ := DataW.trod_array Tryz.underlying37 f0
    obtain ⟨hh, h1, h2, h3⟩ := cells_u8 (cl := cl.take 32) 32 (fun i hi => by
      have fi := hfy i hi
      rw [cellsU8, Nat.mul_one, List.getElem?_eq_getElem (by rw [hyl]; exact hi)] at fi
      obtain ⟨z, hz, _, wz⟩ := DataW.trod_int Tryz.underlying5 fi
      refine ⟨z, hz, ?_⟩
      simp [Lit.wf, IntKind.min, IntKind.max, IntKind.signed, IntKind.bits] at wz
      omega)
    refine ⟨hh, c, ?_, h1, h3⟩
    rw [List.take_take, Nat.min_self] at h2
    have e : cl = hh.map (.int .u8) ++ [.int .i64 c] := by
      rw [← h2, ← hc, ← List.take_append_drop 32 cl]
      congr 1
      · simp [List.take_append_drop]
      · rw [List.take_append_drop, List.take_of_length_le (by rw [List.length_drop, hl]; exact Nat.le_refl _)]
    rw [e]
    congr 1
    apply Array.ext'
    simp [tcs, arr]
end
end Go.Proofs.YtcmidgdhihmppaaGreatDoor
namespace Go.Proofs.YtcmidgdhihmppaaGreatDoor
open Go.RowKit SpM
set_option linter.unusedVariables false
set_option linter.unusedSimpArgs false
set_option maxRecDepth 100000
theorem chalV_lo {P Q G : Int} (hq : 1 ≤ Q) (lb ys : List Int) (rows : List Row) (al : List Int) : 0 ≤ chalV P Q G lb ys rows al ∧ chalV P Q G lb ys rows al < Q := chN_lo hq _ _
end Go.Proofs.YtcmidgdhihmppaaGreatDoor
namespace Go.Proofs.YtcmidgdhihmppaaGreatDoor
open Go.RowKit SpM
set_option linter.unusedVariables false
set_option linter.unusedSimpArgs false
set_option maxRecDepth 20000
/-- two lists of one length. -/
def sameB : List Int → List Int → Bool
  | x :: xs, y :: ys => (x == y) && sameB xs ys
  | _, _ => true
theorem sameB_step {xs ys : List Int} {k : Nat} (hk : k < xs.length) (hy : k < ys.length) : sameB (xs.drop k) (ys.drop k) = ((xs.getD k 0 == ys.getD k 0) && sameB (xs.drop (k + 1)) (ys.drop (k + 1))) := by
  rw [List.drop_eq_getElem_cons hk, List.drop_eq_getElem_cons hy, sameB, List.getD_eq_getElem?_getD, List.getElem?_eq_getElem hk, List.getD_eq_getElem?_getD, List.getElem?_eq_getElem hy]
  rfl
theorem sameB_beq : ∀ {xs ys : List Int}, xs.length = ys.length → sameB xs ys = (xs == ys)
  | [], [], _ => rfl
  | x :: xs, y :: ys, h => by
    rw [sameB, sameB_beq (by simpa using h)]
    rfl
set_option maxHeartbeats 3200000 in
theorem rsame_any (A : Option Addr) (xs : List Int) (n c : Nat) (B : Option Addr) (ys : List Int) (d : Nat) (r : Bool) (hr : Hid (sameB xs ys = r)) (hn : Hid (xs.length = n)) (hm : Hid (ys.length = n)) (hbig : n < 1000000) (w : World) (hA : Hid (Sl w A xs)) (hB : Hid (Sl w B ys)) :
    Calls Tryz.prog 55 #[.slice A n c, .slice B n d] w fun e' w' => e' = .returned (.bool r) ∧ Below w.heap.size w w' := by
  go_enter Tryz.func55, Tryz.ntmps55
  go_wp2
  go_loopw [5] (fun i wr => ∃ k : Nat, k ≤ n ∧ i = .int .i64 k ∧ Hid (sameB (xs.drop k) (ys.drop k) = r) ∧ Hid (Below w.heap.size w wr)) (fun i _ => n - (intOf i).toNat)
  case atStart => exact ⟨0, by omega, rfl, Lib.hid (by rw [List.drop_zero, List.drop_zero]; exact hr.out), Lib.hid (Below.refl _ _)⟩
  case round =>
    obtain ⟨k, hk, rfl, HR, HBr⟩ := hrel
    by_cases hlt : k < n
    · have hkl : k < xs.length := by rw [hn.out]; exact hlt
      have hkm : k < ys.length := by rw [hm.out]; exact hlt
      obtain ⟨b, o, hA', hi⟩ := hA.out.below HBr.out k hkl
      obtain ⟨b2, o2, hB', hi2⟩ := hB.out.below HBr.out k hkm
      subst hA'
      subst hB'
      have hst := sameB_step hkl hkm
      obtain ⟨x, hx⟩ : ∃ x, xs.getD k 0 = x := ⟨_, rfl⟩
      obtain ⟨y, hy⟩ : ∃ x, ys.getD k 0 = x := ⟨_, rfl⟩
      rw [hx, hy] at hst
      rw [hx] at hi
      rw [hy] at hi2
      have HB2 := Lib.hid (fun q => below_drawN HBr.out q)
      cases hxy : x == y with
      | false =>
        obtain rfl : r = false := by rw [← HR.out, hst, hxy, Bool.false_and]
        have hne : ((x : Int) != y) = true := by rw [bne, hxy]; rfl
        clear hx hy hst HR hkl hkm
        go_wp2
        go_quiet (fail)
        go_wp2
        go_ret
        exact ⟨rfl, HB2.out _⟩
      | true =>
        have HR2 : Hid (sameB (xs.drop (k + 1)) (ys.drop (k + 1)) = r) := Lib.hid (by rw [← HR.out, hst, hxy, Bool.true_and])
        have hne : ((x : Int) != y) = false := by rw [bne, hxy]; rfl
        clear hx hy hst HR hkl hkm
        go_wp2
        go_quiet (fail)
        go_wp2
        go_roundw
        case rel => exact ⟨k + 1, by omega, by go_num, HR2, Lib.hid (HB2.out _)⟩
        case measure => simp [intOf]; omega
    · obtain rfl : k = n := by omega
      obtain rfl : r = true := by rw [← HR.out, ← hn.out, List.drop_length]; rfl
      have hbF := HBr.out
      clear HR hlt
      go_wp2
      go_ret
      exact ⟨rfl, hbF⟩
end Go.Proofs.YtcmidgdhihmppaaGreatDoor
namespace Go.Proofs.YtcmidgdhihmppaaGreatDoor
open Go.RowKit SpM
set_option linter.unusedVariables false
set_option linter.unusedSimpArgs false
set_option maxRecDepth 100000
theorem below_alloc' {W w : World} {o : Obj} (h : Hid (Below W.heap.size W w)) : Below W.heap.size W (w.alloc o) := h.out.alloc h.out.size _
set_option maxHeartbeats 12800000 in
theorem rcommit17_any (P Q G : Int) (Y : Option Addr) (yn yc : Nat) (A : Option Addr) (rows : List Row) (bc : Nat) (E : Option Addr) (es : List Int) (m d : Nat) (hn : Hid (rows.length = yn)) (hm : Hid (es.length = m)) (hbig : m < 1000000) (hbign : yn < 1000000)
    (hx : Hid (rows.all (rowB P Q m) = true)) (he : Hid (es.all (scB Q) = true)) (hp2 : 2 ≤ P) (hp : P < 2305843009213693952) (hQ : Q < 9223372036854775808) (w : World) (hA : Hid (Rw w A rows)) (hE : Hid (Sl w E es)) :
    Calls Tryz.prog 56 #[gv P Q G, relV Y yn yc A yn bc, .slice E m d] w (ListOut (rows.map fun r => prodF P 1 r.xs es) w) := by
  obtain ⟨i0, hi, hz0, hz1, hz2⟩ := info_parts intInfo
  obtain ⟨W, hW⟩ : ∃ W, (w.alloc (gObj P Q G)).alloc (relO Y yn yc A yn bc) = W := ⟨_, rfl⟩
  have HBX : Hid (Below w.heap.size w W) := Lib.hid (by rw [← hW]; exact below_two (Below.refl _ _))
  have HX0 : Hid (GBox W w.heap.size P Q G) := Lib.hid (by rw [← hW]; exact (gbox_alloc w P Q G).below (below_box0 _ _))
  have HR0 : Hid (RBox W (w.heap.size + 1) (.slice Y yn yc) (.slice A yn bc)) := Lib.hid (by rw [← hW]; exact rbox_alloc1 _ _ _ _ _)
  have HA0 := Lib.hid (hA.out.below HBX.out)
  have HE0 := Lib.hid (hE.out.below HBX.out)
  have HW := Lib.hid hW
  clear hW hA hE
  go_enter Tryz.func56, Tryz.ntmps56
  go_wp2
  rw [HW.out]
  go_loopw [7, 8] (fun v i wr => ∃ k : Nat, k ≤ yn ∧ i = .int .i64 k ∧ Hid (OwnL wr W.heap.size v ((rows.take k).map fun r => prodF P 1 r.xs es)) ∧ Hid (Below W.heap.size W wr)) (fun _ i _ => yn - (intOf i).toNat)
  case atStart => exact ⟨0, by omega, rfl, Lib.hid (ownL_nil _ _), Lib.hid (Below.refl _ _)⟩
  case round =>
    obtain ⟨k, hk, rfl, HO, HBr⟩ := hrel
    obtain ⟨wo, rfl⟩ : ∃ wo : World, wo = wr := ⟨_, rfl⟩
    obtain ⟨d0, d1⟩ := HR0.out.below HBr.out
    by_cases hlt : k < yn
    · have hkl : k < rows.length := by rw [hn.out]; exact hlt
      obtain ⟨⟨b, o, hA, hi0⟩, hok⟩ := HA0.out k hkl
      subst hA
      have hrb := rowAll_get hx.out hkl
      have HTS := Lib.hid (takeMap_succ (f := fun r => prodF P 1 r.xs es) hkl)
      obtain ⟨R, hR⟩ : ∃ R, rows.getD k noRow = R := ⟨_, rfl⟩
      rw [hR] at hi0 hrb hok HTS
      obtain ⟨p, rn, rc, xs⟩ := R
      simp only [rowB, Bool.and_eq_true, decide_eq_true_eq] at hrb
      obtain ⟨rfl, hmx⟩ := hrb
      have HL := Lib.hid hok.1
      have HS := Lib.hid hok.2
      have HMX := Lib.hid hmx
      obtain ⟨V, hV⟩ : ∃ V, prodF P 1 xs es = V := ⟨_, rfl⟩
      have HV_ := Lib.hid hV
      have HTS2 : Hid ((rows.take (k + 1)).map (fun r => prodF P 1 r.xs es) = (rows.take k).map (fun r => prodF P 1 r.xs es) ++ [V]) := Lib.hid (by rw [HTS.out, ← hV])
      have HTL := Lib.hid (takeMap_len (f := fun r => prodF P 1 r.xs es) (Nat.le_of_lt hkl))
      dsimp only [Row.val] at hi0
      have HI0 := Lib.hid hi0
      have hS := Lib.hid (show ∀ u1 : World, Below W.heap.size W u1 → (u1.cell? ⟨w.heap.size, 0, none⟩ = some (.int .i64 P) ∧ u1.cell? ⟨w.heap.size, 1, none⟩ = some (.int .i64 Q) ∧ u1.cell? ⟨w.heap.size, 2, none⟩ = some (.int .i64 G) ∧ u1.cell? ⟨w.heap.size + 1, 1, none⟩ = some (.slice (some ⟨b, o, none⟩) yn bc) ∧ u1.cell? ⟨b, o + k, none⟩ = some (.slice p rn rc) ∧ Hid (Below W.heap.size W u1)) from fun u1 h1 => ⟨(HX0.out.below h1).1, (HX0.out.below h1).2.1, (HX0.out.below h1).2.2, (HR0.out.below h1).2, cell_below HI0.out h1, Lib.hid h1⟩)
      have hOE := Lib.hid (show ∀ u1 : World, Hid (Below W.heap.size W u1) → Hid (Sl u1 E es) from fun u1 h1 => Lib.hid (HE0.out.below h1.out))
      have hOX := Lib.hid (show ∀ u1 : World, Hid (Below W.heap.size W u1) → Hid (Sl u1 p xs) from fun u1 h1 => Lib.hid (HS.out.below h1.out))
      have hbs := HBr.out.size
      have hOW := Lib.hid (show ∀ u1 : World, Below wo.drew.heap.size wo.drew u1 → OwnL u1 W.heap.size u7 ((rows.take k).map fun r => prodF P 1 r.xs es) from fun u1 h1 => OwnL.keep (w := wo.drew) HO.out h1)
      have hOR := Lib.hid (show ∀ u1 : World, Below wo.drew.heap.size wo.drew u1 → u1.ownsRow W.heap.size 3 1 u7 k (((rows.take k).map fun r => prodF P 1 r.xs es).map (Value.int .i64)) from fun u1 h1 => by
        have h3 := hOW.out u1 h1
        unfold OwnL at h3
        rwa [HTL.out] at h3)
      clear hR hok hmx hV hkl HTS hi0
      go_wp2
      go_region_held3 (fun w' => w'.cell? ⟨w.heap.size, 0, none⟩ = some (.int .i64 P) ∧ w'.cell? ⟨w.heap.size, 1, none⟩ = some (.int .i64 Q) ∧ w'.cell? ⟨w.heap.size, 2, none⟩ = some (.int .i64 G) ∧ w'.cell? ⟨w.heap.size + 1, 1, none⟩ = some (.slice (some ⟨b, o, none⟩) yn bc) ∧ w'.cell? ⟨b, o + k, none⟩ = some (.slice p rn rc) ∧ Hid (Below W.heap.size W w'))
        (first
          | exact hS.out _ HBr.out.drew
          | (go_split_ands; exact hS.out _ (HBr.out.drew.trans (hbA.mono HBr.out.size)))
          | (go_split_ands; exact hS.out _ (below_alloc' (by assumption)))
          | (go_split_ands; exact hS.out _ (OwnL.below (o := .cells #[.int .i64 V] 3) (hOW.out _ hbA) (HBr.out.drew.trans (hbA.mono HBr.out.size)) (by have h5 := hbA.size; have h6 : wo.drew.heap.size = wo.heap.size := rfl; omega) hgrow)))
        ((first
          | (go_at_call 53; (with_reducible refine (rproduct_any P Q G p xs rn rc E es rn d V HV_ HL hm (Nat.le_refl _) hbig HMX he hp2 hp hQ _ ?_ ?_).mono ?_); (go_split_ands; exact hOX.out _ (by assumption)); (go_split_ands; exact hOE.out _ (by assumption)); rintro e wA ⟨rfl, hbA⟩)
          | (refine step_append_lies _ (by rfl) _ _ _ (by rfl) W.heap.size 3 i0 _ 1 8 Tryz.underlying24 hi hz0 hz1 hz2 rfl (by omega) u7 k (((rows.take k).map fun r => prodF P 1 r.xs es).map (Value.int .i64)) (by rfl) ((hOR.out _ hbA).alloc _)
              ⟨wA.heap.size, 0, none⟩ 1 1 [.int .i64 V] (by rfl) (by rfl) (World.news_of_block (cs := #[.int .i64 V]) (t := 3) (fr := (0, 0)) (heap_alloc_new wA _)) (by simp [Value.oneCell'])
              (by omega) (by unfold maxLen; omega) (by omega) (by have h5 := hbA.size; have h6 : wo.drew.heap.size = wo.heap.size := rfl; simp; omega) (wA.heap.size + 1) (by simp) ?_; intro gg cap wz hown1 hgrow hat hlt2)))
      have HOA := hOW.out _ hbA
      have HBA := HBr.out.drew.trans (hbA.mono HBr.out.size)
      have HO2 : Hid (OwnL wz W.heap.size (.slice (some ⟨gg, 0, none⟩) (k + 1) cap) ((rows.take (k + 1)).map fun r => prodF P 1 r.xs es)) := Lib.hid (by
        rw [HTS2.out]
        exact OwnL.app HTL.out.symm hown1)
      have HB2 : Hid (Below W.heap.size W wz) := Lib.hid (OwnL.below (o := .cells #[.int .i64 V] 3) HOA HBA HBA.size hgrow)
      clear hown1 hgrow HOA HBA
      go_wp2
      go_roundw
      case rel => exact ⟨k + 1, by omega, by go_num, HO2, HB2⟩
      case measure => simp [intOf]; omega
    · obtain rfl : k = yn := by omega
      have HF : Hid (OwnL wo W.heap.size u7 (rows.map fun r => prodF P 1 r.xs es)) := Lib.hid (by
        have h3 := HO.out
        rwa [← hn.out, List.take_length] at h3)
      have hbF := below_ext HBX.out HBr.out
      have hsz := HBX.out.size
      clear HO hlt
      go_wp2
      go_ret
      exact ⟨_, rfl, HF.out.mono hsz, hbF⟩
end Go.Proofs.YtcmidgdhihmppaaGreatDoor
namespace Go.Proofs.YtcmidgdhihmppaaGreatDoor
open Go.RowKit SpM
set_option linter.unusedVariables false
set_option linter.unusedSimpArgs false
set_option maxRecDepth 100000
set_option maxHeartbeats 12800000 in
theorem rholds_v (P Q G : Int) (Y : Option Addr) (ys : List Int) (yn yc : Nat) (B : Option Addr) (rows : List Row) (bn bc : Nat) (L : Option Addr) (ls : List Int) (ln lc : Nat) (hyn : Hid (ys.length = yn)) (hbn : Hid (rows.length = bn)) (hln : Hid (ls.length = ln)) (hlb : ln < 1000000) (HVL : Hid (validR P Q G ys rows = false)) (hQ : Q < 9223372036854775808) (w : World) (hY : Hid (Sl w Y ys)) (hB : Hid (Rw w B rows)) (hL : Hid (Sl w L ls)) :
    Calls Tryz.prog 15 #[gv P Q G, relV Y yn yc B bn bc, .slice L ln lc] w fun e' w' => e' = .returned (.bool false) ∧ Below w.heap.size w w' := by
  obtain ⟨W, hW⟩ : ∃ W, (w.alloc (gObj P Q G)).alloc (relO Y yn yc B bn bc) = W := ⟨_, rfl⟩
  have HBw : Hid (Below w.heap.size w W) := Lib.hid (by rw [← hW]; exact below_two (Below.refl _ _))
  have HX0 : Hid (GBox W w.heap.size P Q G) := Lib.hid (by rw [← hW]; exact (gbox_alloc w P Q G).below (below_box0 _ _))
  have HR0 : Hid (RBox W (w.heap.size + 1) (.slice Y yn yc) (.slice B bn bc)) := Lib.hid (by rw [← hW]; exact rbox_alloc1 _ _ _ _ _)
  have hOY := Lib.hid (show ∀ u1 : World, Hid (Below W.heap.size W u1) → Hid (Sl u1 Y ys) from fun u1 h1 => Lib.hid (hY.out.below (below_ext HBw.out h1.out)))
  have hOB := Lib.hid (show ∀ u1 : World, Hid (Below W.heap.size W u1) → Hid (Rw u1 B rows) from fun u1 h1 => Lib.hid (hB.out.below (below_ext HBw.out h1.out)))
  have hOL := Lib.hid (show ∀ u1 : World, Hid (Below W.heap.size W u1) → Hid (Sl u1 L ls) from fun u1 h1 => Lib.hid (hL.out.below (below_ext HBw.out h1.out)))
  have hS := Lib.hid (show ∀ u1 u2 : World, Hid (Below W.heap.size W u1) → Below u1.heap.size u1 u2 → (u2.cell? ⟨w.heap.size, 0, none⟩ = some (.int .i64 P) ∧ u2.cell? ⟨w.heap.size, 1, none⟩ = some (.int .i64 Q) ∧ u2.cell? ⟨w.heap.size, 2, none⟩ = some (.int .i64 G) ∧ u2.cell? ⟨w.heap.size + 1, 0, none⟩ = some (.slice Y yn yc) ∧ u2.cell? ⟨w.heap.size + 1, 1, none⟩ = some (.slice B bn bc) ∧ Hid (Below W.heap.size W u2)) from fun u1 u2 h1 h2 => have h3 := below_ext h1.out h2; ⟨(HX0.out.below h3).1, (HX0.out.below h3).2.1, (HX0.out.below h3).2.2, (HR0.out.below h3).1, (HR0.out.below h3).2, Lib.hid h3⟩)
  have hR : Hid (Below W.heap.size W W) := Lib.hid (Below.refl _ _)
  have HW := Lib.hid hW
  clear hW hY hB hL
  go_enter Tryz.func15, Tryz.ntmps15
  go_wp2_with fail
  rw [HW.out]
  refine wp_region_held_drew (S := fun w' => w'.cell? ⟨w.heap.size, 0, none⟩ = some (.int .i64 P) ∧ w'.cell? ⟨w.heap.size, 1, none⟩ = some (.int .i64 Q) ∧ w'.cell? ⟨w.heap.size, 2, none⟩ = some (.int .i64 G) ∧ w'.cell? ⟨w.heap.size + 1, 0, none⟩ = some (.slice Y yn yc) ∧ w'.cell? ⟨w.heap.size + 1, 1, none⟩ = some (.slice B bn bc) ∧ Hid (Below W.heap.size W w')) (by kernel_rfl) (hS.out _ _ hR ((Below.refl W.heap.size W).drew)) (fun hHeld => ?_)
  refine wpAnyH_take (i := 0) (oi := _) (v := ?_) rfl (by kernel_rfl) (by kernel_rfl) (by kernel_rfl) (fun _ _ _ h => h) (Or.inl ⟨by rfl, ?_⟩) (by assumption) ?_
  rotate_left; (intro wS hSw; (try dsimp only at hSw); go_simp <;> with_reducible rfl)
  try simp only [List.getElem_toArray, List.getElem_cons_zero, List.getElem_cons_succ, Act.put, List.setIfInBounds_toArray, List.set_cons_zero, List.set_cons_succ]
  refine wpAnyH_take (i := 1) (oi := _) (v := ?_) rfl (by kernel_rfl) (by kernel_rfl) (by kernel_rfl) (fun _ _ _ h => h) (Or.inl ⟨by rfl, ?_⟩) (by assumption) ?_
  rotate_left; (intro wS hSw; (try dsimp only at hSw); go_simp <;> with_reducible rfl)
  try simp only [List.getElem_toArray, List.getElem_cons_zero, List.getElem_cons_succ, Act.put, List.setIfInBounds_toArray, List.set_cons_zero, List.set_cons_succ]
  refine wpAnyH_ready (rs := [2]) (by kernel_rfl) (by simp) ?_
  refine AllReadyH.cons rfl (fun K hK => ?_) AllReadyH.nil
  go_simp
  (with_reducible refine (rvalid17_any P Q G Y ys yn yc B rows bn bc false HVL hyn hbn hQ _ ?_ ?_).mono ?_); (go_split_ands; exact hOY.out _ (by assumption)); (go_split_ands; exact hOB.out _ (by assumption)); rintro e wA ⟨rfl, hbA⟩
  refine hK.out _ _ ?_ (fun hHeld => ?_)
  · (go_split_ands; exact hS.out _ _ (by assumption) hbA)
  clear hK K
  try simp only [List.getElem_toArray, List.getElem_cons_zero, List.getElem_cons_succ, Act.put, List.setIfInBounds_toArray, List.set_cons_zero, List.set_cons_succ]
  refine wpAnyH_take (i := 3) (oi := _) (v := ?_) rfl (by kernel_rfl) (by kernel_rfl) (by kernel_rfl) (fun _ _ _ h => h) (Or.inl ⟨by rfl, ?_⟩) (by assumption) ?_
  rotate_left; (intro wS hSw; (try dsimp only at hSw); go_simp <;> with_reducible rfl)
  try simp only [List.getElem_toArray, List.getElem_cons_zero, List.getElem_cons_succ, Act.put, List.setIfInBounds_toArray, List.set_cons_zero, List.set_cons_succ]
  refine wpAnyH_take (i := 4) (oi := _) (v := undef) rfl (by kernel_rfl) (by kernel_rfl) (by kernel_rfl) (fun _ _ _ h => h) (Or.inr ⟨by rfl, rfl⟩) (by assumption) ?_
  try simp only [List.getElem_toArray, List.getElem_cons_zero, List.getElem_cons_succ, Act.put, List.setIfInBounds_toArray, List.set_cons_zero, List.set_cons_succ]
  refine wpAnyH_take (i := 5) (oi := _) (v := undef) rfl (by kernel_rfl) (by kernel_rfl) (by kernel_rfl) (fun _ _ _ h => h) (Or.inr ⟨by rfl, rfl⟩) (by assumption) ?_
  try simp only [List.getElem_toArray, List.getElem_cons_zero, List.getElem_cons_succ, Act.put, List.setIfInBounds_toArray, List.set_cons_zero, List.set_cons_succ]
  refine wpAnyH_take (i := 6) (oi := _) (v := undef) rfl (by kernel_rfl) (by kernel_rfl) (by kernel_rfl) (fun _ _ _ h => h) (Or.inr ⟨by rfl, rfl⟩) (by assumption) ?_
  try simp only [List.getElem_toArray, List.getElem_cons_zero, List.getElem_cons_succ, Act.put, List.setIfInBounds_toArray, List.set_cons_zero, List.set_cons_succ]
  refine wpAnyH_take (i := 7) (oi := _) (v := undef) rfl (by kernel_rfl) (by kernel_rfl) (by kernel_rfl) (fun _ _ _ h => h) (Or.inr ⟨by rfl, rfl⟩) (by assumption) ?_
  try simp only [List.getElem_toArray, List.getElem_cons_zero, List.getElem_cons_succ, Act.put, List.setIfInBounds_toArray, List.set_cons_zero, List.set_cons_succ]
  refine wpAnyH_take (i := 8) (oi := _) (v := undef) rfl (by kernel_rfl) (by kernel_rfl) (by kernel_rfl) (fun _ _ _ h => h) (Or.inr ⟨by rfl, rfl⟩) (by assumption) ?_
  try simp only [List.getElem_toArray, List.getElem_cons_zero, List.getElem_cons_succ, Act.put, List.setIfInBounds_toArray, List.set_cons_zero, List.set_cons_succ]
  refine wpAnyH_take (i := 9) (oi := _) (v := ?_) rfl (by kernel_rfl) (by kernel_rfl) (by kernel_rfl) (fun _ _ _ h => h) (Or.inl ⟨by rfl, ?_⟩) (by assumption) ?_
  rotate_left; (intro wS hSw; (try dsimp only at hSw); go_simp <;> with_reducible rfl)
  try simp only [List.getElem_toArray, List.getElem_cons_zero, List.getElem_cons_succ, Act.put, List.setIfInBounds_toArray, List.set_cons_zero, List.set_cons_succ]
  refine wpAnyH_take (i := 10) (oi := _) (v := ?_) rfl (by kernel_rfl) (by kernel_rfl) (by kernel_rfl) (fun _ _ _ h => h) (Or.inl ⟨by rfl, ?_⟩) (by assumption) ?_
  rotate_left; (intro wS hSw; (try dsimp only at hSw); go_simp <;> with_reducible rfl)
  try simp only [List.getElem_toArray, List.getElem_cons_zero, List.getElem_cons_succ, Act.put, List.setIfInBounds_toArray, List.set_cons_zero, List.set_cons_succ]
  refine wpAnyH_take (i := 11) (oi := _) (v := undef) rfl (by kernel_rfl) (by kernel_rfl) (by kernel_rfl) (fun _ _ _ h => h) (Or.inr ⟨by rfl, rfl⟩) (by assumption) ?_
  try simp only [List.getElem_toArray, List.getElem_cons_zero, List.getElem_cons_succ, Act.put, List.setIfInBounds_toArray, List.set_cons_zero, List.set_cons_succ]
  refine wpAnyH_take (i := 12) (oi := _) (v := undef) rfl (by kernel_rfl) (by kernel_rfl) (by kernel_rfl) (fun _ _ _ h => h) (Or.inr ⟨by rfl, rfl⟩) (by assumption) ?_
  try simp only [List.getElem_toArray, List.getElem_cons_zero, List.getElem_cons_succ, Act.put, List.setIfInBounds_toArray, List.set_cons_zero, List.set_cons_succ]
  refine wpAnyH_take (i := 13) (oi := _) (v := undef) rfl (by kernel_rfl) (by kernel_rfl) (by kernel_rfl) (fun _ _ _ h => h) (Or.inr ⟨by rfl, rfl⟩) (by assumption) ?_
  try simp only [List.getElem_toArray, List.getElem_cons_zero, List.getElem_cons_succ, Act.put, List.setIfInBounds_toArray, List.set_cons_zero, List.set_cons_succ]
  refine wpAnyH_take (i := 14) (oi := _) (v := ?_) rfl (by kernel_rfl) (by kernel_rfl) (by kernel_rfl) (fun _ _ _ h => h) (Or.inl ⟨by rfl, ?_⟩) (by assumption) ?_
  rotate_left; (intro wS hSw; (try dsimp only at hSw); go_simp <;> with_reducible rfl)
  try simp only [List.getElem_toArray, List.getElem_cons_zero, List.getElem_cons_succ, Act.put, List.setIfInBounds_toArray, List.set_cons_zero, List.set_cons_succ]
  refine wpAnyH_take (i := 15) (oi := _) (v := ?_) rfl (by kernel_rfl) (by kernel_rfl) (by kernel_rfl) (fun _ _ _ h => h) (Or.inl ⟨by rfl, ?_⟩) (by assumption) ?_
  rotate_left; (intro wS hSw; (try dsimp only at hSw); go_simp <;> with_reducible rfl)
  try simp only [List.getElem_toArray, List.getElem_cons_zero, List.getElem_cons_succ, Act.put, List.setIfInBounds_toArray, List.set_cons_zero, List.set_cons_succ]
  refine wpAnyH_take (i := 16) (oi := _) (v := undef) rfl (by kernel_rfl) (by kernel_rfl) (by kernel_rfl) (fun _ _ _ h => h) (Or.inr ⟨by rfl, rfl⟩) (by assumption) ?_
  try simp only [List.getElem_toArray, List.getElem_cons_zero, List.getElem_cons_succ, Act.put, List.setIfInBounds_toArray, List.set_cons_zero, List.set_cons_succ]
  refine wpAnyH_take (i := 17) (oi := _) (v := undef) rfl (by kernel_rfl) (by kernel_rfl) (by kernel_rfl) (fun _ _ _ h => h) (Or.inr ⟨by rfl, rfl⟩) (by assumption) ?_
  try simp only [List.getElem_toArray, List.getElem_cons_zero, List.getElem_cons_succ, Act.put, List.setIfInBounds_toArray, List.set_cons_zero, List.set_cons_succ]
  refine wpAnyH_take (i := 18) (oi := _) (v := undef) rfl (by kernel_rfl) (by kernel_rfl) (by kernel_rfl) (fun _ _ _ h => h) (Or.inr ⟨by rfl, rfl⟩) (by assumption) ?_
  try simp only [List.getElem_toArray, List.getElem_cons_zero, List.getElem_cons_succ, Act.put, List.setIfInBounds_toArray, List.set_cons_zero, List.set_cons_succ]
  refine wpAnyH_take (i := 19) (oi := _) (v := undef) rfl (by kernel_rfl) (by kernel_rfl) (by kernel_rfl) (fun _ _ _ h => h) (Or.inr ⟨by rfl, rfl⟩) (by assumption) ?_
  try simp only [List.getElem_toArray, List.getElem_cons_zero, List.getElem_cons_succ, Act.put, List.setIfInBounds_toArray, List.set_cons_zero, List.set_cons_succ]
  refine wpAnyH_take (i := 20) (oi := _) (v := undef) rfl (by kernel_rfl) (by kernel_rfl) (by kernel_rfl) (fun _ _ _ h => h) (Or.inr ⟨by rfl, rfl⟩) (by assumption) ?_
  try simp only [List.getElem_toArray, List.getElem_cons_zero, List.getElem_cons_succ, Act.put, List.setIfInBounds_toArray, List.set_cons_zero, List.set_cons_succ]
  refine wpAnyH_take (i := 21) (oi := _) (v := undef) rfl (by kernel_rfl) (by kernel_rfl) (by kernel_rfl) (fun _ _ _ h => h) (Or.inr ⟨by rfl, rfl⟩) (by assumption) ?_
  try simp only [List.getElem_toArray, List.getElem_cons_zero, List.getElem_cons_succ, Act.put, List.setIfInBounds_toArray, List.set_cons_zero, List.set_cons_succ]
  refine wpAnyH_take (i := 22) (oi := _) (v := undef) rfl (by kernel_rfl) (by kernel_rfl) (by kernel_rfl) (fun _ _ _ h => h) (Or.inr ⟨by rfl, rfl⟩) (by assumption) ?_
  try simp only [List.getElem_toArray, List.getElem_cons_zero, List.getElem_cons_succ, Act.put, List.setIfInBounds_toArray, List.set_cons_zero, List.set_cons_succ]
  refine wpAnyH_take (i := 23) (oi := _) (v := ?_) rfl (by kernel_rfl) (by kernel_rfl) (by kernel_rfl) (fun _ _ _ h => h) (Or.inl ⟨by rfl, ?_⟩) (by assumption) ?_
  rotate_left; (intro wS hSw; (try dsimp only at hSw); go_simp <;> with_reducible rfl)
  try simp only [List.getElem_toArray, List.getElem_cons_zero, List.getElem_cons_succ, Act.put, List.setIfInBounds_toArray, List.set_cons_zero, List.set_cons_succ]
  refine wpAnyH_take (i := 24) (oi := _) (v := ?_) rfl (by kernel_rfl) (by kernel_rfl) (by kernel_rfl) (fun _ _ _ h => h) (Or.inl ⟨by rfl, ?_⟩) (by assumption) ?_
  rotate_left; (intro wS hSw; (try dsimp only at hSw); go_simp <;> with_reducible rfl)
  try simp only [List.getElem_toArray, List.getElem_cons_zero, List.getElem_cons_succ, Act.put, List.setIfInBounds_toArray, List.set_cons_zero, List.set_cons_succ]
  refine wpAnyH_done (by kernel_rfl) ?_ _
  obtain ⟨x0, x1, x2, x3, x4, HBA⟩ := hHeld
  have hbF := below_ext HBw.out HBA.out
  go_wp2
  go_ret
  exact ⟨rfl, hbF⟩
set_option maxHeartbeats 12800000 in
theorem rholds_n (P Q G : Int) (Y : Option Addr) (ys : List Int) (yn yc : Nat) (B : Option Addr) (rows : List Row) (bn bc : Nat) (L : Option Addr) (ls : List Int) (ln lc : Nat) (hyn : Hid (ys.length = yn)) (hbn : Hid (rows.length = bn)) (hln : Hid (ls.length = ln)) (hlb : ln < 1000000) (HVL : Hid (validR P Q G ys rows = true)) (hlen : ls.length ≠ rowN rows) (hQ : Q < 9223372036854775808) (w : World) (hY : Hid (Sl w Y ys)) (hB : Hid (Rw w B rows)) (hL : Hid (Sl w L ls)) :
    Calls Tryz.prog 15 #[gv P Q G, relV Y yn yc B bn bc, .slice L ln lc] w fun e' w' => e' = .returned (.bool false) ∧ Below w.heap.size w w' := by
  obtain ⟨W, hW⟩ : ∃ W, (w.alloc (gObj P Q G)).alloc (relO Y yn yc B bn bc) = W := ⟨_, rfl⟩
  have HBw : Hid (Below w.heap.size w W) := Lib.hid (by rw [← hW]; exact below_two (Below.refl _ _))
  have HX0 : Hid (GBox W w.heap.size P Q G) := Lib.hid (by rw [← hW]; exact (gbox_alloc w P Q G).below (below_box0 _ _))
  have HR0 : Hid (RBox W (w.heap.size + 1) (.slice Y yn yc) (.slice B bn bc)) := Lib.hid (by rw [← hW]; exact rbox_alloc1 _ _ _ _ _)
  have hOY := Lib.hid (show ∀ u1 : World, Hid (Below W.heap.size W u1) → Hid (Sl u1 Y ys) from fun u1 h1 => Lib.hid (hY.out.below (below_ext HBw.out h1.out)))
  have hOB := Lib.hid (show ∀ u1 : World, Hid (Below W.heap.size W u1) → Hid (Rw u1 B rows) from fun u1 h1 => Lib.hid (hB.out.below (below_ext HBw.out h1.out)))
  have hOL := Lib.hid (show ∀ u1 : World, Hid (Below W.heap.size W u1) → Hid (Sl u1 L ls) from fun u1 h1 => Lib.hid (hL.out.below (below_ext HBw.out h1.out)))
  have hS := Lib.hid (show ∀ u1 u2 : World, Hid (Below W.heap.size W u1) → Below u1.heap.size u1 u2 → (u2.cell? ⟨w.heap.size, 0, none⟩ = some (.int .i64 P) ∧ u2.cell? ⟨w.heap.size, 1, none⟩ = some (.int .i64 Q) ∧ u2.cell? ⟨w.heap.size, 2, none⟩ = some (.int .i64 G) ∧ u2.cell? ⟨w.heap.size + 1, 0, none⟩ = some (.slice Y yn yc) ∧ u2.cell? ⟨w.heap.size + 1, 1, none⟩ = some (.slice B bn bc) ∧ Hid (Below W.heap.size W u2)) from fun u1 u2 h1 h2 => have h3 := below_ext h1.out h2; ⟨(HX0.out.below h3).1, (HX0.out.below h3).2.1, (HX0.out.below h3).2.2, (HR0.out.below h3).1, (HR0.out.below h3).2, Lib.hid h3⟩)
  have hR : Hid (Below W.heap.size W W) := Lib.hid (Below.refl _ _)
  have HW := Lib.hid hW
  clear hW hY hB hL
  obtain ⟨v1, v2, v3, v4, v5, v6, v7, v8⟩ := validR_parts HVL.out
  have hbp : 0 < bn := by rw [← hbn.out]; omega
  obtain ⟨n0, hn0⟩ : ∃ n, rowN rows = n := ⟨_, rfl⟩
  have HN := Lib.hid hn0
  have heq : ((ln : Int) == (n0 : Int)) = false := by rw [← hln.out, ← hn0]; simp; omega
  clear v1 v2 v3 v4 v5 v6 v7 v8 hn0 hlen
  go_enter Tryz.func15, Tryz.ntmps15
  go_wp2_with fail
  rw [HW.out]
  refine wp_region_held_drew (S := fun w' => w'.cell? ⟨w.heap.size, 0, none⟩ = some (.int .i64 P) ∧ w'.cell? ⟨w.heap.size, 1, none⟩ = some (.int .i64 Q) ∧ w'.cell? ⟨w.heap.size, 2, none⟩ = some (.int .i64 G) ∧ w'.cell? ⟨w.heap.size + 1, 0, none⟩ = some (.slice Y yn yc) ∧ w'.cell? ⟨w.heap.size + 1, 1, none⟩ = some (.slice B bn bc) ∧ Hid (Below W.heap.size W w')) (by kernel_rfl) (hS.out _ _ hR ((Below.refl W.heap.size W).drew)) (fun hHeld => ?_)
  refine wpAnyH_take (i := 0) (oi := _) (v := ?_) rfl (by kernel_rfl) (by kernel_rfl) (by kernel_rfl) (fun _ _ _ h => h) (Or.inl ⟨by rfl, ?_⟩) (by assumption) ?_
  rotate_left; (intro wS hSw; (try dsimp only at hSw); go_simp <;> with_reducible rfl)
  try simp only [List.getElem_toArray, List.getElem_cons_zero, List.getElem_cons_succ, Act.put, List.setIfInBounds_toArray, List.set_cons_zero, List.set_cons_succ]
  refine wpAnyH_take (i := 1) (oi := _) (v := ?_) rfl (by kernel_rfl) (by kernel_rfl) (by kernel_rfl) (fun _ _ _ h => h) (Or.inl ⟨by rfl, ?_⟩) (by assumption) ?_
  rotate_left; (intro wS hSw; (try dsimp only at hSw); go_simp <;> with_reducible rfl)
  try simp only [List.getElem_toArray, List.getElem_cons_zero, List.getElem_cons_succ, Act.put, List.setIfInBounds_toArray, List.set_cons_zero, List.set_cons_succ]
  refine wpAnyH_ready (rs := [2]) (by kernel_rfl) (by simp) ?_
  refine AllReadyH.cons rfl (fun K hK => ?_) AllReadyH.nil
  go_simp
  (with_reducible refine (rvalid17_any P Q G Y ys yn yc B rows bn bc true HVL hyn hbn hQ _ ?_ ?_).mono ?_); (go_split_ands; exact hOY.out _ (by assumption)); (go_split_ands; exact hOB.out _ (by assumption)); rintro e wA ⟨rfl, hbA⟩
  refine hK.out _ _ ?_ (fun hHeld => ?_)
  · (go_split_ands; exact hS.out _ _ (by assumption) hbA)
  clear hK K
  try simp only [List.getElem_toArray, List.getElem_cons_zero, List.getElem_cons_succ, Act.put, List.setIfInBounds_toArray, List.set_cons_zero, List.set_cons_succ]
  refine wpAnyH_take (i := 3) (oi := _) (v := ?_) rfl (by kernel_rfl) (by kernel_rfl) (by kernel_rfl) (fun _ _ _ h => h) (Or.inl ⟨by rfl, ?_⟩) (by assumption) ?_
  rotate_left; (intro wS hSw; (try dsimp only at hSw); go_simp <;> with_reducible rfl)
  try simp only [List.getElem_toArray, List.getElem_cons_zero, List.getElem_cons_succ, Act.put, List.setIfInBounds_toArray, List.set_cons_zero, List.set_cons_succ]
  refine wpAnyH_take (i := 4) (oi := _) (v := ?_) rfl (by kernel_rfl) (by kernel_rfl) (by kernel_rfl) (fun _ _ _ h => h) (Or.inl ⟨by rfl, ?_⟩) (by assumption) ?_
  rotate_left; (intro wS hSw; (try dsimp only at hSw); go_simp <;> with_reducible rfl)
  try simp only [List.getElem_toArray, List.getElem_cons_zero, List.getElem_cons_succ, Act.put, List.setIfInBounds_toArray, List.set_cons_zero, List.set_cons_succ]
  refine wpAnyH_take (i := 5) (oi := _) (v := ?_) rfl (by kernel_rfl) (by kernel_rfl) (by kernel_rfl) (fun _ _ _ h => h) (Or.inl ⟨by rfl, ?_⟩) (by assumption) ?_
  rotate_left; (intro wS hSw; (try dsimp only at hSw); go_simp <;> with_reducible rfl)
  try simp only [List.getElem_toArray, List.getElem_cons_zero, List.getElem_cons_succ, Act.put, List.setIfInBounds_toArray, List.set_cons_zero, List.set_cons_succ]
  refine wpAnyH_take (i := 6) (oi := _) (v := ?_) rfl (by kernel_rfl) (by kernel_rfl) (by kernel_rfl) (fun _ _ _ h => h) (Or.inl ⟨by rfl, ?_⟩) (by assumption) ?_
  rotate_left; (intro wS hSw; (try dsimp only at hSw); go_simp <;> with_reducible rfl)
  try simp only [List.getElem_toArray, List.getElem_cons_zero, List.getElem_cons_succ, Act.put, List.setIfInBounds_toArray, List.set_cons_zero, List.set_cons_succ]
  refine wpAnyH_ready (rs := [7]) (by kernel_rfl) (by simp) ?_
  refine AllReadyH.cons rfl (fun K hK => ?_) AllReadyH.nil
  go_simp
  (with_reducible refine (runknowns_any Y yn yc B rows bn bc n0 hbn hbp HN _ ?_).mono ?_); (go_split_ands; exact hOB.out _ (by assumption)); rintro e wA ⟨rfl, hbA⟩
  refine hK.out _ _ ?_ (fun hHeld => ?_)
  · (go_split_ands; exact hS.out _ _ (by assumption) hbA)
  clear hK K
  try simp only [List.getElem_toArray, List.getElem_cons_zero, List.getElem_cons_succ, Act.put, List.setIfInBounds_toArray, List.set_cons_zero, List.set_cons_succ]
  refine wpAnyH_take (i := 8) (oi := _) (v := ?_) rfl (by kernel_rfl) (by kernel_rfl) (by kernel_rfl) (fun _ _ _ h => h) (Or.inl ⟨by rfl, ?_⟩) (by assumption) ?_
  rotate_left; (intro wS hSw; (try dsimp only at hSw); go_simp <;> with_reducible rfl)
  try simp only [List.getElem_toArray, List.getElem_cons_zero, List.getElem_cons_succ, Act.put, List.setIfInBounds_toArray, List.set_cons_zero, List.set_cons_succ]
  refine wpAnyH_take (i := 9) (oi := _) (v := ?_) rfl (by kernel_rfl) (by kernel_rfl) (by kernel_rfl) (fun _ _ _ h => h) (Or.inl ⟨by rfl, ?_⟩) (by assumption) ?_
  rotate_left; (intro wS hSw; (try dsimp only at hSw); go_simp <;> with_reducible rfl)
  try simp only [List.getElem_toArray, List.getElem_cons_zero, List.getElem_cons_succ, Act.put, List.setIfInBounds_toArray, List.set_cons_zero, List.set_cons_succ]
  refine wpAnyH_take (i := 10) (oi := _) (v := ?_) rfl (by kernel_rfl) (by kernel_rfl) (by kernel_rfl) (fun _ _ _ h => h) (Or.inl ⟨by rfl, ?_⟩) (by assumption) ?_
  rotate_left; (intro wS hSw; (try dsimp only at hSw); go_simp <;> with_reducible rfl)
  try simp only [List.getElem_toArray, List.getElem_cons_zero, List.getElem_cons_succ, Act.put, List.setIfInBounds_toArray, List.set_cons_zero, List.set_cons_succ]
  refine wpAnyH_take (i := 11) (oi := _) (v := undef) rfl (by kernel_rfl) (by kernel_rfl) (by kernel_rfl) (fun _ _ _ h => h) (Or.inr ⟨by rfl, rfl⟩) (by assumption) ?_
  try simp only [List.getElem_toArray, List.getElem_cons_zero, List.getElem_cons_succ, Act.put, List.setIfInBounds_toArray, List.set_cons_zero, List.set_cons_succ]
  refine wpAnyH_take (i := 12) (oi := _) (v := undef) rfl (by kernel_rfl) (by kernel_rfl) (by kernel_rfl) (fun _ _ _ h => h) (Or.inr ⟨by rfl, rfl⟩) (by assumption) ?_
  try simp only [List.getElem_toArray, List.getElem_cons_zero, List.getElem_cons_succ, Act.put, List.setIfInBounds_toArray, List.set_cons_zero, List.set_cons_succ]
  refine wpAnyH_take (i := 13) (oi := _) (v := undef) rfl (by kernel_rfl) (by kernel_rfl) (by kernel_rfl) (fun _ _ _ h => h) (Or.inr ⟨by rfl, rfl⟩) (by assumption) ?_
  try simp only [List.getElem_toArray, List.getElem_cons_zero, List.getElem_cons_succ, Act.put, List.setIfInBounds_toArray, List.set_cons_zero, List.set_cons_succ]
  refine wpAnyH_take (i := 14) (oi := _) (v := ?_) rfl (by kernel_rfl) (by kernel_rfl) (by kernel_rfl) (fun _ _ _ h => h) (Or.inl ⟨by rfl, ?_⟩) (by assumption) ?_
  rotate_left; (intro wS hSw; (try dsimp only at hSw); go_simp <;> with_reducible rfl)
  try simp only [List.getElem_toArray, List.getElem_cons_zero, List.getElem_cons_succ, Act.put, List.setIfInBounds_toArray, List.set_cons_zero, List.set_cons_succ]
  refine wpAnyH_take (i := 15) (oi := _) (v := ?_) rfl (by kernel_rfl) (by kernel_rfl) (by kernel_rfl) (fun _ _ _ h => h) (Or.inl ⟨by rfl, ?_⟩) (by assumption) ?_
  rotate_left; (intro wS hSw; (try dsimp only at hSw); go_simp <;> with_reducible rfl)
  try simp only [List.getElem_toArray, List.getElem_cons_zero, List.getElem_cons_succ, Act.put, List.setIfInBounds_toArray, List.set_cons_zero, List.set_cons_succ]
  refine wpAnyH_take (i := 16) (oi := _) (v := undef) rfl (by kernel_rfl) (by kernel_rfl) (by kernel_rfl) (fun _ _ _ h => h) (Or.inr ⟨by rfl, rfl⟩) (by assumption) ?_
  try simp only [List.getElem_toArray, List.getElem_cons_zero, List.getElem_cons_succ, Act.put, List.setIfInBounds_toArray, List.set_cons_zero, List.set_cons_succ]
  refine wpAnyH_take (i := 17) (oi := _) (v := undef) rfl (by kernel_rfl) (by kernel_rfl) (by kernel_rfl) (fun _ _ _ h => h) (Or.inr ⟨by rfl, rfl⟩) (by assumption) ?_
  try simp only [List.getElem_toArray, List.getElem_cons_zero, List.getElem_cons_succ, Act.put, List.setIfInBounds_toArray, List.set_cons_zero, List.set_cons_succ]
  refine wpAnyH_take (i := 18) (oi := _) (v := undef) rfl (by kernel_rfl) (by kernel_rfl) (by kernel_rfl) (fun _ _ _ h => h) (Or.inr ⟨by rfl, rfl⟩) (by assumption) ?_
  try simp only [List.getElem_toArray, List.getElem_cons_zero, List.getElem_cons_succ, Act.put, List.setIfInBounds_toArray, List.set_cons_zero, List.set_cons_succ]
  refine wpAnyH_take (i := 19) (oi := _) (v := undef) rfl (by kernel_rfl) (by kernel_rfl) (by kernel_rfl) (fun _ _ _ h => h) (Or.inr ⟨by rfl, rfl⟩) (by assumption) ?_
  try simp only [List.getElem_toArray, List.getElem_cons_zero, List.getElem_cons_succ, Act.put, List.setIfInBounds_toArray, List.set_cons_zero, List.set_cons_succ]
  refine wpAnyH_take (i := 20) (oi := _) (v := undef) rfl (by kernel_rfl) (by kernel_rfl) (by kernel_rfl) (fun _ _ _ h => h) (Or.inr ⟨by rfl, rfl⟩) (by assumption) ?_
  try simp only [List.getElem_toArray, List.getElem_cons_zero, List.getElem_cons_succ, Act.put, List.setIfInBounds_toArray, List.set_cons_zero, List.set_cons_succ]
  refine wpAnyH_take (i := 21) (oi := _) (v := undef) rfl (by kernel_rfl) (by kernel_rfl) (by kernel_rfl) (fun _ _ _ h => h) (Or.inr ⟨by rfl, rfl⟩) (by assumption) ?_
  try simp only [List.getElem_toArray, List.getElem_cons_zero, List.getElem_cons_succ, Act.put, List.setIfInBounds_toArray, List.set_cons_zero, List.set_cons_succ]
  refine wpAnyH_take (i := 22) (oi := _) (v := undef) rfl (by kernel_rfl) (by kernel_rfl) (by kernel_rfl) (fun _ _ _ h => h) (Or.inr ⟨by rfl, rfl⟩) (by assumption) ?_
  try simp only [List.getElem_toArray, List.getElem_cons_zero, List.getElem_cons_succ, Act.put, List.setIfInBounds_toArray, List.set_cons_zero, List.set_cons_succ]
  refine wpAnyH_take (i := 23) (oi := _) (v := ?_) rfl (by kernel_rfl) (by kernel_rfl) (by kernel_rfl) (fun _ _ _ h => h) (Or.inl ⟨by rfl, ?_⟩) (by assumption) ?_
  rotate_left; (intro wS hSw; (try dsimp only at hSw); go_simp <;> with_reducible rfl)
  try simp only [List.getElem_toArray, List.getElem_cons_zero, List.getElem_cons_succ, Act.put, List.setIfInBounds_toArray, List.set_cons_zero, List.set_cons_succ]
  refine wpAnyH_take (i := 24) (oi := _) (v := ?_) rfl (by kernel_rfl) (by kernel_rfl) (by kernel_rfl) (fun _ _ _ h => h) (Or.inl ⟨by rfl, ?_⟩) (by assumption) ?_
  rotate_left; (intro wS hSw; (try dsimp only at hSw); go_simp <;> with_reducible rfl)
  try simp only [List.getElem_toArray, List.getElem_cons_zero, List.getElem_cons_succ, Act.put, List.setIfInBounds_toArray, List.set_cons_zero, List.set_cons_succ]
  refine wpAnyH_done (by kernel_rfl) ?_ _
  obtain ⟨x0, x1, x2, x3, x4, HBA⟩ := hHeld
  have hbF := below_ext HBw.out HBA.out
  go_wp2
  go_ret
  exact ⟨rfl, hbF⟩
set_option maxHeartbeats 12800000 in
theorem rholds_s (P Q G : Int) (Y : Option Addr) (ys : List Int) (yn yc : Nat) (B : Option Addr) (rows : List Row) (bn bc : Nat) (L : Option Addr) (ls : List Int) (ln lc : Nat) (hyn : Hid (ys.length = yn)) (hbn : Hid (rows.length = bn)) (hln : Hid (ls.length = ln)) (hlb : ln < 1000000) (HVL : Hid (validR P Q G ys rows = true)) (hlen : ls.length = rowN rows) (Hl : Hid (ls.all (scB Q) = false)) (hQ : Q < 9223372036854775808) (w : World) (hY : Hid (Sl w Y ys)) (hB : Hid (Rw w B rows)) (hL : Hid (Sl w L ls)) :
    Calls Tryz.prog 15 #[gv P Q G, relV Y yn yc B bn bc, .slice L ln lc] w fun e' w' => e' = .returned (.bool false) ∧ Below w.heap.size w w' := by
  obtain ⟨W, hW⟩ : ∃ W, (w.alloc (gObj P Q G)).alloc (relO Y yn yc B bn bc) = W := ⟨_, rfl⟩
  have HBw : Hid (Below w.heap.size w W) := Lib.hid (by rw [← hW]; exact below_two (Below.refl _ _))
  have HX0 : Hid (GBox W w.heap.size P Q G) := Lib.hid (by rw [← hW]; exact (gbox_alloc w P Q G).below (below_box0 _ _))
  have HR0 : Hid (RBox W (w.heap.size + 1) (.slice Y yn yc) (.slice B bn bc)) := Lib.hid (by rw [← hW]; exact rbox_alloc1 _ _ _ _ _)
  have hOY := Lib.hid (show ∀ u1 : World, Hid (Below W.heap.size W u1) → Hid (Sl u1 Y ys) from fun u1 h1 => Lib.hid (hY.out.below (below_ext HBw.out h1.out)))
  have hOB := Lib.hid (show ∀ u1 : World, Hid (Below W.heap.size W u1) → Hid (Rw u1 B rows) from fun u1 h1 => Lib.hid (hB.out.below (below_ext HBw.out h1.out)))
  have hOL := Lib.hid (show ∀ u1 : World, Hid (Below W.heap.size W u1) → Hid (Sl u1 L ls) from fun u1 h1 => Lib.hid (hL.out.below (below_ext HBw.out h1.out)))
  have hS := Lib.hid (show ∀ u1 u2 : World, Hid (Below W.heap.size W u1) → Below u1.heap.size u1 u2 → (u2.cell? ⟨w.heap.size, 0, none⟩ = some (.int .i64 P) ∧ u2.cell? ⟨w.heap.size, 1, none⟩ = some (.int .i64 Q) ∧ u2.cell? ⟨w.heap.size, 2, none⟩ = some (.int .i64 G) ∧ u2.cell? ⟨w.heap.size + 1, 0, none⟩ = some (.slice Y yn yc) ∧ u2.cell? ⟨w.heap.size + 1, 1, none⟩ = some (.slice B bn bc) ∧ Hid (Below W.heap.size W u2)) from fun u1 u2 h1 h2 => have h3 := below_ext h1.out h2; ⟨(HX0.out.below h3).1, (HX0.out.below h3).2.1, (HX0.out.below h3).2.2, (HR0.out.below h3).1, (HR0.out.below h3).2, Lib.hid h3⟩)
  have hR : Hid (Below W.heap.size W W) := Lib.hid (Below.refl _ _)
  have HW := Lib.hid hW
  clear hW hY hB hL
  obtain ⟨v1, v2, v3, v4, v5, v6, v7, v8⟩ := validR_parts HVL.out
  have hbp : 0 < bn := by rw [← hbn.out]; omega
  obtain ⟨n0, hn0⟩ : ∃ n, rowN rows = n := ⟨_, rfl⟩
  have HN := Lib.hid hn0
  have heq : ((ln : Int) == (n0 : Int)) = true := by rw [← hln.out, ← hn0]; simp; omega
  clear v1 v2 v3 v4 v5 v6 v7 v8 hn0 hlen
  go_enter Tryz.func15, Tryz.ntmps15
  go_wp2_with fail
  rw [HW.out]
  refine wp_region_held_drew (S := fun w' => w'.cell? ⟨w.heap.size, 0, none⟩ = some (.int .i64 P) ∧ w'.cell? ⟨w.heap.size, 1, none⟩ = some (.int .i64 Q) ∧ w'.cell? ⟨w.heap.size, 2, none⟩ = some (.int .i64 G) ∧ w'.cell? ⟨w.heap.size + 1, 0, none⟩ = some (.slice Y yn yc) ∧ w'.cell? ⟨w.heap.size + 1, 1, none⟩ = some (.slice B bn bc) ∧ Hid (Below W.heap.size W w')) (by kernel_rfl) (hS.out _ _ hR ((Below.refl W.heap.size W).drew)) (fun hHeld => ?_)
  refine wpAnyH_take (i := 0) (oi := _) (v := ?_) rfl (by kernel_rfl) (by kernel_rfl) (by kernel_rfl) (fun _ _ _ h => h) (Or.inl ⟨by rfl, ?_⟩) (by assumption) ?_
  rotate_left; (intro wS hSw; (try dsimp only at hSw); go_simp <;> with_reducible rfl)
  try simp only [List.getElem_toArray, List.getElem_cons_zero, List.getElem_cons_succ, Act.put, List.setIfInBounds_toArray, List.set_cons_zero, List.set_cons_succ]
  refine wpAnyH_take (i := 1) (oi := _) (v := ?_) rfl (by kernel_rfl) (by kernel_rfl) (by kernel_rfl) (fun _ _ _ h => h) (Or.inl ⟨by rfl, ?_⟩) (by assumption) ?_
  rotate_left; (intro wS hSw; (try dsimp only at hSw); go_simp <;> with_reducible rfl)
  try simp only [List.getElem_toArray, List.getElem_cons_zero, List.getElem_cons_succ, Act.put, List.setIfInBounds_toArray, List.set_cons_zero, List.set_cons_succ]
  refine wpAnyH_ready (rs := [2]) (by kernel_rfl) (by simp) ?_
  refine AllReadyH.cons rfl (fun K hK => ?_) AllReadyH.nil
  go_simp
  (with_reducible refine (rvalid17_any P Q G Y ys yn yc B rows bn bc true HVL hyn hbn hQ _ ?_ ?_).mono ?_); (go_split_ands; exact hOY.out _ (by assumption)); (go_split_ands; exact hOB.out _ (by assumption)); rintro e wA ⟨rfl, hbA⟩
  refine hK.out _ _ ?_ (fun hHeld => ?_)
  · (go_split_ands; exact hS.out _ _ (by assumption) hbA)
  clear hK K
  try simp only [List.getElem_toArray, List.getElem_cons_zero, List.getElem_cons_succ, Act.put, List.setIfInBounds_toArray, List.set_cons_zero, List.set_cons_succ]
  refine wpAnyH_take (i := 3) (oi := _) (v := ?_) rfl (by kernel_rfl) (by kernel_rfl) (by kernel_rfl) (fun _ _ _ h => h) (Or.inl ⟨by rfl, ?_⟩) (by assumption) ?_
  rotate_left; (intro wS hSw; (try dsimp only at hSw); go_simp <;> with_reducible rfl)
  try simp only [List.getElem_toArray, List.getElem_cons_zero, List.getElem_cons_succ, Act.put, List.setIfInBounds_toArray, List.set_cons_zero, List.set_cons_succ]
  refine wpAnyH_take (i := 4) (oi := _) (v := ?_) rfl (by kernel_rfl) (by kernel_rfl) (by kernel_rfl) (fun _ _ _ h => h) (Or.inl ⟨by rfl, ?_⟩) (by assumption) ?_
  rotate_left; (intro wS hSw; (try dsimp only at hSw); go_simp <;> with_reducible rfl)
  try simp only [List.getElem_toArray, List.getElem_cons_zero, List.getElem_cons_succ, Act.put, List.setIfInBounds_toArray, List.set_cons_zero, List.set_cons_succ]
  refine wpAnyH_take (i := 5) (oi := _) (v := ?_) rfl (by kernel_rfl) (by kernel_rfl) (by kernel_rfl) (fun _ _ _ h => h) (Or.inl ⟨by rfl, ?_⟩) (by assumption) ?_
  rotate_left; (intro wS hSw; (try dsimp only at hSw); go_simp <;> with_reducible rfl)
  try simp only [List.getElem_toArray, List.getElem_cons_zero, List.getElem_cons_succ, Act.put, List.setIfInBounds_toArray, List.set_cons_zero, List.set_cons_succ]
  refine wpAnyH_take (i := 6) (oi := _) (v := ?_) rfl (by kernel_rfl) (by kernel_rfl) (by kernel_rfl) (fun _ _ _ h => h) (Or.inl ⟨by rfl, ?_⟩) (by assumption) ?_
  rotate_left; (intro wS hSw; (try dsimp only at hSw); go_simp <;> with_reducible rfl)
  try simp only [List.getElem_toArray, List.getElem_cons_zero, List.getElem_cons_succ, Act.put, List.setIfInBounds_toArray, List.set_cons_zero, List.set_cons_succ]
  refine wpAnyH_ready (rs := [7]) (by kernel_rfl) (by simp) ?_
  refine AllReadyH.cons rfl (fun K hK => ?_) AllReadyH.nil
  go_simp
  (with_reducible refine (runknowns_any Y yn yc B rows bn bc n0 hbn hbp HN _ ?_).mono ?_); (go_split_ands; exact hOB.out _ (by assumption)); rintro e wA ⟨rfl, hbA⟩
  refine hK.out _ _ ?_ (fun hHeld => ?_)
  · (go_split_ands; exact hS.out _ _ (by assumption) hbA)
  clear hK K
  try simp only [List.getElem_toArray, List.getElem_cons_zero, List.getElem_cons_succ, Act.put, List.setIfInBounds_toArray, List.set_cons_zero, List.set_cons_succ]
  refine wpAnyH_take (i := 8) (oi := _) (v := ?_) rfl (by kernel_rfl) (by kernel_rfl) (by kernel_rfl) (fun _ _ _ h => h) (Or.inl ⟨by rfl, ?_⟩) (by assumption) ?_
  rotate_left; (intro wS hSw; (try dsimp only at hSw); go_simp <;> with_reducible rfl)
  try simp only [List.getElem_toArray, List.getElem_cons_zero, List.getElem_cons_succ, Act.put, List.setIfInBounds_toArray, List.set_cons_zero, List.set_cons_succ]
  refine wpAnyH_take (i := 9) (oi := _) (v := ?_) rfl (by kernel_rfl) (by kernel_rfl) (by kernel_rfl) (fun _ _ _ h => h) (Or.inl ⟨by rfl, ?_⟩) (by assumption) ?_
  rotate_left; (intro wS hSw; (try dsimp only at hSw); go_simp <;> with_reducible rfl)
  try simp only [List.getElem_toArray, List.getElem_cons_zero, List.getElem_cons_succ, Act.put, List.setIfInBounds_toArray, List.set_cons_zero, List.set_cons_succ]
  refine wpAnyH_take (i := 10) (oi := _) (v := ?_) rfl (by kernel_rfl) (by kernel_rfl) (by kernel_rfl) (fun _ _ _ h => h) (Or.inl ⟨by rfl, ?_⟩) (by assumption) ?_
  rotate_left; (intro wS hSw; (try dsimp only at hSw); go_simp <;> with_reducible rfl)
  try simp only [List.getElem_toArray, List.getElem_cons_zero, List.getElem_cons_succ, Act.put, List.setIfInBounds_toArray, List.set_cons_zero, List.set_cons_succ]
  refine wpAnyH_take (i := 11) (oi := _) (v := ?_) rfl (by kernel_rfl) (by kernel_rfl) (by kernel_rfl) (fun _ _ _ h => h) (Or.inl ⟨by rfl, ?_⟩) (by assumption) ?_
  rotate_left; (intro wS hSw; (try dsimp only at hSw); go_simp <;> with_reducible rfl)
  try simp only [List.getElem_toArray, List.getElem_cons_zero, List.getElem_cons_succ, Act.put, List.setIfInBounds_toArray, List.set_cons_zero, List.set_cons_succ]
  refine wpAnyH_take (i := 12) (oi := _) (v := ?_) rfl (by kernel_rfl) (by kernel_rfl) (by kernel_rfl) (fun _ _ _ h => h) (Or.inl ⟨by rfl, ?_⟩) (by assumption) ?_
  rotate_left; (intro wS hSw; (try dsimp only at hSw); go_simp <;> with_reducible rfl)
  try simp only [List.getElem_toArray, List.getElem_cons_zero, List.getElem_cons_succ, Act.put, List.setIfInBounds_toArray, List.set_cons_zero, List.set_cons_succ]
  refine wpAnyH_ready (rs := [13]) (by kernel_rfl) (by simp) ?_
  refine AllReadyH.cons rfl (fun K hK => ?_) AllReadyH.nil
  go_simp
  (with_reducible refine (rscalars_any P Q G L ls ln lc false Hl hln hlb _ ?_).mono ?_); (go_split_ands; exact hOL.out _ (by assumption)); rintro e wA ⟨rfl, hbA⟩
  refine hK.out _ _ ?_ (fun hHeld => ?_)
  · (go_split_ands; exact hS.out _ _ (by assumption) hbA)
  clear hK K
  try simp only [List.getElem_toArray, List.getElem_cons_zero, List.getElem_cons_succ, Act.put, List.setIfInBounds_toArray, List.set_cons_zero, List.set_cons_succ]
  refine wpAnyH_take (i := 14) (oi := _) (v := ?_) rfl (by kernel_rfl) (by kernel_rfl) (by kernel_rfl) (fun _ _ _ h => h) (Or.inl ⟨by rfl, ?_⟩) (by assumption) ?_
  rotate_left; (intro wS hSw; (try dsimp only at hSw); go_simp <;> with_reducible rfl)
  try simp only [List.getElem_toArray, List.getElem_cons_zero, List.getElem_cons_succ, Act.put, List.setIfInBounds_toArray, List.set_cons_zero, List.set_cons_succ]
  refine wpAnyH_take (i := 15) (oi := _) (v := ?_) rfl (by kernel_rfl) (by kernel_rfl) (by kernel_rfl) (fun _ _ _ h => h) (Or.inl ⟨by rfl, ?_⟩) (by assumption) ?_
  rotate_left; (intro wS hSw; (try dsimp only at hSw); go_simp <;> with_reducible rfl)
  try simp only [List.getElem_toArray, List.getElem_cons_zero, List.getElem_cons_succ, Act.put, List.setIfInBounds_toArray, List.set_cons_zero, List.set_cons_succ]
  refine wpAnyH_take (i := 16) (oi := _) (v := undef) rfl (by kernel_rfl) (by kernel_rfl) (by kernel_rfl) (fun _ _ _ h => h) (Or.inr ⟨by rfl, rfl⟩) (by assumption) ?_
  try simp only [List.getElem_toArray, List.getElem_cons_zero, List.getElem_cons_succ, Act.put, List.setIfInBounds_toArray, List.set_cons_zero, List.set_cons_succ]
  refine wpAnyH_take (i := 17) (oi := _) (v := undef) rfl (by kernel_rfl) (by kernel_rfl) (by kernel_rfl) (fun _ _ _ h => h) (Or.inr ⟨by rfl, rfl⟩) (by assumption) ?_
  try simp only [List.getElem_toArray, List.getElem_cons_zero, List.getElem_cons_succ, Act.put, List.setIfInBounds_toArray, List.set_cons_zero, List.set_cons_succ]
  refine wpAnyH_take (i := 18) (oi := _) (v := undef) rfl (by kernel_rfl) (by kernel_rfl) (by kernel_rfl) (fun _ _ _ h => h) (Or.inr ⟨by rfl, rfl⟩) (by assumption) ?_
  try simp only [List.getElem_toArray, List.getElem_cons_zero, List.getElem_cons_succ, Act.put, List.setIfInBounds_toArray, List.set_cons_zero, List.set_cons_succ]
  refine wpAnyH_take (i := 19) (oi := _) (v := undef) rfl (by kernel_rfl) (by kernel_rfl) (by kernel_rfl) (fun _ _ _ h => h) (Or.inr ⟨by rfl, rfl⟩) (by assumption) ?_
  try simp only [List.getElem_toArray, List.getElem_cons_zero, List.getElem_cons_succ, Act.put, List.setIfInBounds_toArray, List.set_cons_zero, List.set_cons_succ]
  refine wpAnyH_take (i := 20) (oi := _) (v := undef) rfl (by kernel_rfl) (by kernel_rfl) (by kernel_rfl) (fun _ _ _ h => h) (Or.inr ⟨by rfl, rfl⟩) (by assumption) ?_
  try simp only [List.getElem_toArray, List.getElem_cons_zero, List.getElem_cons_succ, Act.put, List.setIfInBounds_toArray, List.set_cons_zero, List.set_cons_succ]
  refine wpAnyH_take (i := 21) (oi := _) (v := undef) rfl (by kernel_rfl) (by kernel_rfl) (by kernel_rfl) (fun _ _ _ h => h) (Or.inr ⟨by rfl, rfl⟩) (by assumption) ?_
  try simp only [List.getElem_toArray, List.getElem_cons_zero, List.getElem_cons_succ, Act.put, List.setIfInBounds_toArray, List.set_cons_zero, List.set_cons_succ]
  refine wpAnyH_take (i := 22) (oi := _) (v := undef) rfl (by kernel_rfl) (by kernel_rfl) (by kernel_rfl) (fun _ _ _ h => h) (Or.inr ⟨by rfl, rfl⟩) (by assumption) ?_
  try simp only [List.getElem_toArray, List.getElem_cons_zero, List.getElem_cons_succ, Act.put, List.setIfInBounds_toArray, List.set_cons_zero, List.set_cons_succ]
  refine wpAnyH_take (i := 23) (oi := _) (v := ?_) rfl (by kernel_rfl) (by kernel_rfl) (by kernel_rfl) (fun _ _ _ h => h) (Or.inl ⟨by rfl, ?_⟩) (by assumption) ?_
  rotate_left; (intro wS hSw; (try dsimp only at hSw); go_simp <;> with_reducible rfl)
  try simp only [List.getElem_toArray, List.getElem_cons_zero, List.getElem_cons_succ, Act.put, List.setIfInBounds_toArray, List.set_cons_zero, List.set_cons_succ]
  refine wpAnyH_take (i := 24) (oi := _) (v := ?_) rfl (by kernel_rfl) (by kernel_rfl) (by kernel_rfl) (fun _ _ _ h => h) (Or.inl ⟨by rfl, ?_⟩) (by assumption) ?_
  rotate_left; (intro wS hSw; (try dsimp only at hSw); go_simp <;> with_reducible rfl)
  try simp only [List.getElem_toArray, List.getElem_cons_zero, List.getElem_cons_succ, Act.put, List.setIfInBounds_toArray, List.set_cons_zero, List.set_cons_succ]
  refine wpAnyH_done (by kernel_rfl) ?_ _
  obtain ⟨x0, x1, x2, x3, x4, HBA⟩ := hHeld
  have hbF := below_ext HBw.out HBA.out
  go_wp2
  go_ret
  exact ⟨rfl, hbF⟩
set_option maxHeartbeats 12800000 in
theorem rholds_e (P Q G : Int) (Y : Option Addr) (ys : List Int) (yn yc : Nat) (B : Option Addr) (rows : List Row) (bn bc : Nat) (L : Option Addr) (ls : List Int) (ln lc : Nat) (hyn : Hid (ys.length = yn)) (hbn : Hid (rows.length = bn)) (hln : Hid (ls.length = ln)) (hlb : ln < 1000000) (HVL : Hid (validR P Q G ys rows = true)) (hlen : ls.length = rowN rows) (Hl : Hid (ls.all (scB Q) = true)) (hQ : Q < 9223372036854775808) (w : World) (hY : Hid (Sl w Y ys)) (hB : Hid (Rw w B rows)) (hL : Hid (Sl w L ls)) :
    Calls Tryz.prog 15 #[gv P Q G, relV Y yn yc B bn bc, .slice L ln lc] w fun e' w' => e' = .returned (.bool ((rows.map fun r => prodF P 1 r.xs ls) == ys)) ∧ Below w.heap.size w w' := by
  obtain ⟨W, hW⟩ : ∃ W, (w.alloc (gObj P Q G)).alloc (relO Y yn yc B bn bc) = W := ⟨_, rfl⟩
  have HBw : Hid (Below w.heap.size w W) := Lib.hid (by rw [← hW]; exact below_two (Below.refl _ _))
  have HX0 : Hid (GBox W w.heap.size P Q G) := Lib.hid (by rw [← hW]; exact (gbox_alloc w P Q G).below (below_box0 _ _))
  have HR0 : Hid (RBox W (w.heap.size + 1) (.slice Y yn yc) (.slice B bn bc)) := Lib.hid (by rw [← hW]; exact rbox_alloc1 _ _ _ _ _)
  have hOY := Lib.hid (show ∀ u1 : World, Hid (Below W.heap.size W u1) → Hid (Sl u1 Y ys) from fun u1 h1 => Lib.hid (hY.out.below (below_ext HBw.out h1.out)))
  have hOB := Lib.hid (show ∀ u1 : World, Hid (Below W.heap.size W u1) → Hid (Rw u1 B rows) from fun u1 h1 => Lib.hid (hB.out.below (below_ext HBw.out h1.out)))
  have hOL := Lib.hid (show ∀ u1 : World, Hid (Below W.heap.size W u1) → Hid (Sl u1 L ls) from fun u1 h1 => Lib.hid (hL.out.below (below_ext HBw.out h1.out)))
  have hS := Lib.hid (show ∀ u1 u2 : World, Hid (Below W.heap.size W u1) → Below u1.heap.size u1 u2 → (u2.cell? ⟨w.heap.size, 0, none⟩ = some (.int .i64 P) ∧ u2.cell? ⟨w.heap.size, 1, none⟩ = some (.int .i64 Q) ∧ u2.cell? ⟨w.heap.size, 2, none⟩ = some (.int .i64 G) ∧ u2.cell? ⟨w.heap.size + 1, 0, none⟩ = some (.slice Y yn yc) ∧ u2.cell? ⟨w.heap.size + 1, 1, none⟩ = some (.slice B bn bc) ∧ Hid (Below W.heap.size W u2)) from fun u1 u2 h1 h2 => have h3 := below_ext h1.out h2; ⟨(HX0.out.below h3).1, (HX0.out.below h3).2.1, (HX0.out.below h3).2.2, (HR0.out.below h3).1, (HR0.out.below h3).2, Lib.hid h3⟩)
  have hR : Hid (Below W.heap.size W W) := Lib.hid (Below.refl _ _)
  have HW := Lib.hid hW
  clear hW hY hB hL
  obtain ⟨v1, v2, v3, v4, v5, v6, v7, v8⟩ := validR_parts HVL.out
  have hbp : 0 < bn := by rw [← hbn.out]; omega
  obtain ⟨n0, hn0⟩ : ∃ n, rowN rows = n := ⟨_, rfl⟩
  have HN := Lib.hid hn0
  have heq : ((ln : Int) == (n0 : Int)) = true := by rw [← hln.out, ← hn0]; simp; omega
  obtain ⟨hp2, hp, hq3, hqp⟩ := validG_P v1
  rw [← hlen, hln.out] at v8
  have HRB := Lib.hid v8
  have hby : bn = yn := by rw [← hbn.out, ← hyn.out]; exact v4
  have hb8 : bn ≤ 8 := by rw [← hbn.out]; omega
  subst hby
  have hzl : (rows.map fun r => prodF P 1 r.xs ls).length = bn := by rw [List.length_map]; exact hbn.out
  clear v1 v2 v3 v4 v5 v6 v7 v8 hn0 hlen
  go_enter Tryz.func15, Tryz.ntmps15
  go_wp2_with fail
  rw [HW.out]
  go_region_held3 (fun w' => w'.cell? ⟨w.heap.size, 0, none⟩ = some (.int .i64 P) ∧ w'.cell? ⟨w.heap.size, 1, none⟩ = some (.int .i64 Q) ∧ w'.cell? ⟨w.heap.size, 2, none⟩ = some (.int .i64 G) ∧ w'.cell? ⟨w.heap.size + 1, 0, none⟩ = some (.slice Y bn yc) ∧ w'.cell? ⟨w.heap.size + 1, 1, none⟩ = some (.slice B bn bc) ∧ Hid (Below W.heap.size W w'))
    (first | exact hS.out _ _ hR ((Below.refl W.heap.size W).drew) | (go_split_ands; exact hS.out _ _ (by assumption) hbA) | go_keep)
    ((first
      | (go_at_call 49; (with_reducible refine (rvalid17_any P Q G Y ys bn yc B rows bn bc true HVL hyn hbn hQ _ ?_ ?_).mono ?_); (go_split_ands; exact hOY.out _ (by assumption)); (go_split_ands; exact hOB.out _ (by assumption)); rintro e wA ⟨rfl, hbA⟩)
      | (go_at_call 50; (with_reducible refine (runknowns_any Y bn yc B rows bn bc n0 hbn hbp HN _ ?_).mono ?_); (go_split_ands; exact hOB.out _ (by assumption)); rintro e wA ⟨rfl, hbA⟩)
      | (go_at_call 16; (with_reducible refine (rscalars_any P Q G L ls ln lc true Hl hln hlb _ ?_).mono ?_); (go_split_ands; exact hOL.out _ (by assumption)); rintro e wA ⟨rfl, hbA⟩)
      | (go_at_call 56; (with_reducible refine (rcommit17_any P Q G Y bn yc B rows bc L ls ln lc hbn hln hlb (by omega) HRB Hl hp2 hp hQ _ ?_ ?_).mono ?_); (go_split_ands; exact hOB.out _ (by assumption)); (go_split_ands; exact hOL.out _ (by assumption)); (intro e wA hA; obtain ⟨g, cap, rfl, hcA, hbA⟩ := hA.cells hzl hbp))
      | (go_at_call 55; (with_reducible refine (rsame_any (some ⟨g, 0, none⟩) (rows.map fun r => prodF P 1 r.xs ls) bn cap Y ys yc _ (Lib.hid (sameB_beq (hzl.trans hyn.out.symm))) (Lib.hid hzl) hyn (by omega) _ (Cells.toSl hcA) ?_).mono ?_); (go_split_ands; exact hOY.out _ (by assumption)); rintro e wA ⟨rfl, hbA⟩)))
  rename_i hHeld
  obtain ⟨x0, x1, x2, x3, x4, HBA⟩ := hHeld
  have hbF := below_ext HBw.out HBA.out
  go_wp2
  go_ret
  exact ⟨rfl, hbF⟩
theorem rholds_any (P Q G : Int) (Y : Option Addr) (ys : List Int) (yn yc : Nat) (B : Option Addr) (rows : List Row) (bn bc : Nat) (L : Option Addr) (ls : List Int) (ln lc : Nat) (r : Bool) (hr : Hid (holdsB P Q G ys rows ls = r)) (hyn : Hid (ys.length = yn)) (hbn : Hid (rows.length = bn)) (hln : Hid (ls.length = ln)) (hlb : ln < 1000000) (hQ : Q < 9223372036854775808) (w : World) (hY : Hid (Sl w Y ys)) (hB : Hid (Rw w B rows)) (hL : Hid (Sl w L ls)) :
    Calls Tryz.prog 15 #[gv P Q G, relV Y yn yc B bn bc, .slice L ln lc] w fun e' w' => e' = .returned (.bool r) ∧ Below w.heap.size w w' := by
  have hr' := hr.out
  unfold holdsB at hr'
  cases h1 : validR P Q G ys rows with
  | false =>
    obtain rfl : r = false := by rw [← hr', h1, Bool.false_and]
    exact rholds_v P Q G Y ys yn yc B rows bn bc L ls ln lc hyn hbn hln hlb (Lib.hid h1) hQ w hY hB hL
  | true =>
    rw [h1, Bool.true_and] at hr'
    by_cases h2 : ls.length = rowN rows
    · rw [decide_eq_true h2, Bool.true_and] at hr'
      cases h3 : ls.all (scB Q) with
      | false =>
        obtain rfl : r = false := by rw [← hr', h3, Bool.false_and]
        exact rholds_s P Q G Y ys yn yc B rows bn bc L ls ln lc hyn hbn hln hlb (Lib.hid h1) h2 (Lib.hid h3) hQ w hY hB hL
      | true =>
        rw [h3, Bool.true_and] at hr'
        rw [← hr']
        exact rholds_e P Q G Y ys yn yc B rows bn bc L ls ln lc hyn hbn hln hlb (Lib.hid h1) h2 (Lib.hid h3) hQ w hY hB hL
    · obtain rfl : r = false := by rw [← hr', decide_eq_false h2, Bool.false_and]
      exact rholds_n P Q G Y ys yn yc B rows bn bc L ls ln lc hyn hbn hln hlb (Lib.hid h1) h2 hQ w hY hB hL
end Go.Proofs.YtcmidgdhihmppaaGreatDoor
namespace Go.Proofs.YtcmidgdhihmppaaGreatDoor
open Go.RowKit SpM
set_option linter.unusedVariables false
set_option linter.unusedSimpArgs false
set_option maxRecDepth 100000
theorem lab_pos {s : ByteArray} (h : labB (bys s) = true) : 1 ≤ s.size := by
  rw [labB, bys_len] at h
  simp at h
  exact h.1.1
theorem frame_fits {h : List Int} (hl : h.length = 32) (hb : bytesB h = true) {s : ByteArray} (hs0 : 1 ≤ s.size) (hs : s.size ≤ 1000) {item : It} (hf : fits 7 item) : fits 8 (.lst [.byt h, .byt (bys s), item]) := by
  refine ⟨by simp, fun x hx => ?_⟩
  rcases (by simpa using hx : x = .byt h ∨ x = .byt (bys s) ∨ x = item) with rfl | rfl | rfl
  · exact ⟨⟨by rw [hl]; decide, by rw [hl]; decide⟩, hb⟩
  · exact ⟨⟨by rw [bys_len]; omega, by rw [bys_len]; omega⟩, bys_bytes s⟩
  · exact hf
theorem frame_fits0 {h : List Int} (hl : h.length = 32) (hb : bytesB h = true) {s : ByteArray} (hs0 : 1 ≤ s.size) (hs : s.size ≤ 1000) : fits 8 (.lst [.byt h, .byt (bys s)]) := by
  refine ⟨by simp, fun x hx => ?_⟩
  rcases (by simpa using hx : x = .byt h ∨ x = .byt (bys s)) with rfl | rfl
  · exact ⟨⟨by rw [hl]; decide, by rw [hl]; decide⟩, hb⟩
  · exact ⟨⟨by rw [bys_len]; omega, by rw [bys_len]; omega⟩, bys_bytes s⟩
theorem frame_len {h : List Int} (hl : h.length = 32) {s : ByteArray} (hs : s.size ≤ 1000) {item : It} (hle : (enc item).length ≤ 14000) : (enc (.lst [.byt h, .byt (bys s), item])).length ≤ 16384 := by
  rw [enc_lst]
  simp only [encL, enc_byt, List.length_cons, List.length_append, be4_len, hl, bys_len, List.length_nil]
  omega
theorem frame_len0 {h : List Int} (hl : h.length = 32) {s : ByteArray} (hs : s.size ≤ 1000) : (enc (.lst [.byt h, .byt (bys s)])).length ≤ 16384 := by
  rw [enc_lst]
  simp only [encL, enc_byt, List.length_cons, List.length_append, be4_len, hl, bys_len, List.length_nil]
  omega
theorem yields_built {P : Program} {S : World → Prop} {o : Oper} {a : Act} (t : TypeId) (l : List (Nat × Operand)) (ho : o.op = .build t l.toArray) (cells : Array Value)
    (hf : P.built t (l.map fun x => (x.1, a.eval x.2)) = some cells) : ∀ w, S w → (execOp a.eval o).run P w = .ok (.value (.agg cells)) w := by
  intro w _
  have e : (l.toArray.map fun (x : Nat × Operand) => (x.1, a.eval x.2)).toList = l.map fun x => (x.1, a.eval x.2) := by simp
  unfold execOp
  simp only [ho]
  have h := run_build w t (l.toArray.map fun (x : Nat × Operand) => (x.1, a.eval x.2)) cells (by rw [e]; exact hf)
  simp only [Sem.run_bind, h, Result.andThen_ok, Sem.run_pure]
set_option maxHeartbeats 6400000 in
theorem rabsorb_ok (h : List Int) (hl : Hid (h.length = 32)) (hb : Hid (bytesB h = true)) (c : Int) (hc0 : 0 ≤ c) (hc1 : c < 1000) (s : ByteArray) (hs : s.size ≤ 1000) (hr : Hid (labB (bys s) = true)) (item : It) (cI : Ic) (w : World) (hI : Hid (ItR w item cI)) (hfi : Hid (fits 7 item)) (hle : Hid ((enc item).length ≤ 14000)) :
    Calls Tryz.prog 96 #[.agg (tcs h c), .string s, .agg #[.int .i64 cI.kind, .int .i64 cI.n, .slice cI.B cI.nb cI.cb, .slice cI.L cI.nl cI.cl]] w fun e w' => e = .returned (TrE (abL h (bys s) item) (c + 1) 0) ∧ Below w.heap.size w w' := by
  have hs0 : 1 ≤ s.size := lab_pos hr.out
  obtain ⟨W, hW⟩ : ∃ W, ((w.alloc (.cells (tcs h c) 87)).alloc (.cells #[.int .i64 cI.kind, .int .i64 cI.n, .slice cI.B cI.nb cI.cb, .slice cI.L cI.nl cI.cl] 126)).alloc (.cells #[.int .u8 0, .int .u8 0, .int .u8 0, .int .u8 0, .int .u8 0, .int .u8 0, .int .u8 0, .int .u8 0, .int .u8 0, .int .u8 0, .int .u8 0, .int .u8 0, .int .u8 0, .int .u8 0, .int .u8 0, .int .u8 0, .int .u8 0, .int .u8 0, .int .u8 0, .int .u8 0, .int .u8 0, .int .u8 0, .int .u8 0, .int .u8 0, .int .u8 0, .int .u8 0, .int .u8 0, .int .u8 0, .int .u8 0, .int .u8 0, .int .u8 0, .int .u8 0, .int .i64 0] 87) = W := ⟨_, rfl⟩
  have HBX : Hid (Below w.heap.size w W) := Lib.hid (by rw [← hW]; exact below_ext (below_two (Below.refl _ _)) (below_box0 _ _))
  have HT0 : Hid (TBlk W w.heap.size h c) := Lib.hid (by rw [← hW]; exact ((TBlk.new _ _ _).below (below_box0 _ _)).below (below_box0 _ _))
  have HIB : Hid (W.heap[w.heap.size + 1]? = some (.cells #[.int .i64 cI.kind, .int .i64 cI.n, .slice cI.B cI.nb cI.cb, .slice cI.L cI.nl cI.cl] 126 (0, 0))) := Lib.hid (by rw [← hW, ← (show (w.alloc (.cells (tcs h c) 87)).heap.size = w.heap.size + 1 by simp)]; exact heap_alloc2_old _ _ _)
  have HR0 : Hid (TBlk W (w.heap.size + 1 + 1) (zer 32) 0) := Lib.hid (by rw [← hW, ztr, show w.heap.size + 1 + 1 = (w.alloc (.cells (tcs h c) 87)).heap.size + 1 by simp]; exact heap_alloc2_new _ _ _)
  have HSZ : Hid (W.heap.size = w.heap.size + 3) := Lib.hid (by rw [← hW]; simp)
  have HII := Lib.hid (hI.out.kept HBX.out)
  have HF0 : Hid (Four W (w.heap.size + 1) 0 cI) := Lib.hid (four_cells HIB.out)
  have HW := Lib.hid hW
  clear hW
  go_enter Tryz.func96, Tryz.ntmps96
  go_upto_region 1 with (fail)
  rw [HW.out]
  clear HW
  go_wp2_with ((with_reducible show wpList _ _ _ (⟨some 10, _, _, _, _, _⟩ :: _) _ _); refine wpList_load_row rfl 87 _ rfl w.heap.size rfl _ _ _ _ HT0.out Tryz.underlying87 rfl (tr_info hl.out) ?_)
  refine (rtvalid_any h hl c hc0 (by omega) _).mono ?_
  rintro e w1 ⟨rfl, hb1⟩
  have HB1 := Lib.hid (below_ext HBX.out hb1)
  have HT1 := Lib.hid (HT0.out.below hb1)
  have HI1 := Lib.hid (HII.out.kept hb1)
  have HR1 := Lib.hid (HR0.out.below hb1)
  have HF1 := Lib.hid (HF0.out.below hb1)
  clear hb1 HT0 HII HR0 HIB HBX HF0
  go_wp2_with fail
  refine (rlabel_any s hs true hr _).mono ?_
  rintro e w2 ⟨rfl, rfl⟩
  obtain ⟨f0, f1, f2, f3⟩ := HF1.out
  go_wp2_with ((with_reducible show wpList _ _ _ (⟨some 19, _, _, _, _, _⟩ :: _) _ _); refine wpList_load_row rfl 87 _ rfl w.heap.size rfl _ _ _ _ HT1.out Tryz.underlying87 rfl (tr_info hl.out) ?_)
  clear f0 f1 f2 f3
  obtain ⟨W3, hW3⟩ : ∃ u, w1.alloc (.cells #[.int .i64 cI.kind, .int .i64 cI.n, .slice cI.B cI.nb cI.cb, .slice cI.L cI.nl cI.cl] 126) = u := ⟨_, rfl⟩
  have HF3 : Hid (Four W3 w1.heap.size 0 cI) := Lib.hid (by rw [← hW3]; exact four_cells (heap_alloc_new _ _))
  have hb3 : Below w1.heap.size w1 W3 := by rw [← hW3]; exact below_box0 _ _
  rw [hW3]
  have HI3 := Lib.hid (HI1.out.kept hb3)
  refine (rframe1 h hl hb c s hs0 hs item cI w1.heap.size 1 W3 HF3 HI3).mono ?_
  rintro e w4 ⟨cf, rfl, hcf, hb4⟩
  have HT4 := Lib.hid ((HT1.out.below hb3).below hb4)
  have HR4 := Lib.hid ((HR1.out.below hb3).below hb4)
  have HB4 := Lib.hid (below_ext (below_ext HB1.out hb3) hb4)
  have HC4 := Lib.hid hcf
  rw [show cf.val = .agg cf.cs from rfl]
  clear hb3 hb4 hW3 HF3 HI3 HT1 HR1 HB1 HF1 HI1 hcf
  go_upto_region 4 with ((with_reducible show wpList _ _ _ (⟨none, _, _, _, _, _⟩ :: _) _ _); refine wpList_store_row rfl 126 _ _ rfl w4.heap.size cf.cs rfl rfl _ _ (heap_alloc_new _ _) (ic_info _) rfl (ic_one _) ?_)
  rw [World.setRow_alloc_new]
  try simp only [Act.put]
  have HK5 : Hid ((w4.alloc (.cells cf.cs 126)).heap[w4.heap.size]? = some (.cells cf.cs 126 (0, 0))) := Lib.hid (heap_alloc_new _ _)
  have HT5 := Lib.hid (HT4.out.below (below_box0 w4 (.cells cf.cs 126)))
  have HR5 := Lib.hid (HR4.out.below (below_box0 w4 (.cells cf.cs 126)))
  have HB5 := Lib.hid (below_ext HB4.out (below_box0 w4 (.cells cf.cs 126)))
  have HC5 := Lib.hid (HC4.out.kept (below_box0 w4 (.cells cf.cs 126)))
  have HZ5 : Hid (w4.heap.size < (w4.alloc (.cells cf.cs 126)).heap.size) := Lib.hid (by simp)
  obtain ⟨W5, hW5⟩ : ∃ u, w4.alloc (.cells cf.cs 126) = u := ⟨_, rfl⟩
  rw [hW5] at HK5 HT5 HR5 HB5 HC5 HZ5 ⊢
  clear hW5 HT4 HR4 HB4 HC4
  obtain ⟨bt, hbt⟩ : ∃ b, w4.heap.size = b := ⟨_, rfl⟩
  rw [hbt] at HK5 HZ5 ⊢
  clear hbt
  go_wp2_with ((with_reducible show wpList _ _ _ (⟨some 24, _, _, _, _, _⟩ :: _) _ _); refine wpList_load_row rfl 126 _ rfl bt rfl _ _ _ _ HK5.out Tryz.underlying126 rfl (ic_info _) ?_)
  have HFIT : Hid (fits 8 (.lst [.byt h, .byt (bys s), item])) := Lib.hid (frame_fits hl.out hb.out hs0 hs hfi.out)
  have HLEN : Hid ((enc (.lst [.byt h, .byt (bys s), item])).length ≤ 16384) := Lib.hid (frame_len hl.out hs hle.out)
  rw [show (Value.agg cf.cs) = cf.val from rfl]
  refine (rvalid07_any _ cf _ HFIT.out HC5.out).mono ?_
  rintro e w6 ⟨rfl, hb6⟩
  have HT6 := Lib.hid (HT5.out.below hb6)
  have HR6 := Lib.hid (HR5.out.below hb6)
  have HB6 := Lib.hid (below_ext HB5.out hb6)
  have HC6 := Lib.hid (HC5.out.kept hb6)
  have HK6 := Lib.hid ((hb6.block _ HZ5.out).trans HK5.out)
  clear hb6 HT5 HR5 HB5 HC5 HK5 HZ5
  rw [show cf.val = .agg cf.cs from rfl]
  go_wp2_with ((with_reducible show wpList _ _ _ (⟨some 28, _, _, _, _, _⟩ :: _) _ _); refine wpList_load_row rfl 126 _ rfl bt rfl _ _ _ _ HK6.out Tryz.underlying126 rfl (ic_info _) ?_)
  rw [show (Value.agg cf.cs) = cf.val from rfl]
  refine (renc_any 8 _ cf _ HFIT.out HC6.out HLEN.out).mono ?_
  rintro e w7 ⟨v7, rfl, ho7, hb7⟩
  obtain ⟨E, hE⟩ : ∃ E, enc (.lst [.byt h, .byt (bys s), item]) = E := ⟨_, rfl⟩
  have HEB : Hid (bytesB E = true) := Lib.hid (by rw [← hE]; exact enc_bytes HFIT.out)
  have HEL : Hid (0 < E.length ∧ E.length ≤ 16384) := Lib.hid (by rw [← hE]; exact ⟨enc_pos _, HLEN.out⟩)
  rw [hE] at ho7
  obtain ⟨g7, cap7, e7, hg7, -, -, hsk7⟩ := ho7.cells HEL.out.1
  obtain ⟨n7, hn7⟩ : ∃ n, E.length = n := ⟨_, rfl⟩
  rw [hn7] at e7 HEL
  subst e7
  have HN7 := Lib.hid hn7
  have HS7 := Lib.hid hsk7
  have HT7 := Lib.hid (HT6.out.below hb7)
  have HR7 := Lib.hid (HR6.out.below hb7)
  have HB7 := Lib.hid (below_ext HB6.out hb7)
  have HEE : Kp (enc (.lst [.byt h, .byt (bys s), item]) = E) := ⟨hE⟩
  clear hE hsk7 ho7 hb7 hn7 HFIT HLEN HT6 HR6 HB6 HC6 HK6
  rw [show cf.val = .agg cf.cs from rfl]
  obtain ⟨he0, he1⟩ := HEL.out
  have hcn : ¬ (c = 1000) := by omega
  have hwr : IntKind.i64.wrap (c + 1) = c + 1 := IntWalk.i64_in _ (by omega)
  have hnb : decide ((16384 : Int) < (n7 : Int)) = false := by simp; omega
  have hcnt := HT7.out.count hl.out
  go_wp2_with fail
  clear hcnt
  refine wp_region_T (S := fun w' => w'.cell? ⟨w.heap.size, 32, none⟩ = some (.int .i64 c)) (E := [6, 7]) (by kernel_rfl) (((HT7.out.below (Below.refl _ _).drew)).count hl.out) (fun hHeld => ?_)
  refine wpT_take (i := 0) (oi := _) (v := ?_) rfl (by kernel_rfl) (by kernel_rfl) (by kernel_rfl) (by kernel_rfl) (fun _ _ _ h => h) (Or.inl ⟨by rfl, ?_⟩) (by assumption) ?_
  rotate_left; (intro wS hSw; (try dsimp only at hSw); go_simp <;> with_reducible rfl)
  try simp only [List.getElem_toArray, List.getElem_cons_zero, List.getElem_cons_succ, Act.put, List.setIfInBounds_toArray, List.set_cons_zero, List.set_cons_succ]
  refine wpT_take (i := 2) (oi := _) (v := ?_) rfl (by kernel_rfl) (by kernel_rfl) (by kernel_rfl) (by kernel_rfl) (fun _ _ _ h => h) (Or.inl ⟨by rfl, ?_⟩) (by assumption) ?_
  rotate_left; (intro wS hSw; (try dsimp only at hSw); go_simp <;> with_reducible rfl)
  try simp only [List.getElem_toArray, List.getElem_cons_zero, List.getElem_cons_succ, Act.put, List.setIfInBounds_toArray, List.set_cons_zero, List.set_cons_succ]
  refine wpT_take (i := 3) (oi := _) (v := ?_) rfl (by kernel_rfl) (by kernel_rfl) (by kernel_rfl) (by kernel_rfl) (fun _ _ _ h => h) (Or.inl ⟨by rfl, ?_⟩) (by assumption) ?_
  rotate_left; (intro wS hSw; (try dsimp only at hSw); go_simp <;> with_reducible rfl)
  try simp only [List.getElem_toArray, List.getElem_cons_zero, List.getElem_cons_succ, Act.put, List.setIfInBounds_toArray, List.set_cons_zero, List.set_cons_succ]
  refine wpT_take (i := 4) (oi := _) (v := ?_) rfl (by kernel_rfl) (by kernel_rfl) (by kernel_rfl) (by kernel_rfl) (fun _ _ _ h => h) (Or.inl ⟨by rfl, ?_⟩) (by assumption) ?_
  rotate_left; (intro wS hSw; (try dsimp only at hSw); go_simp <;> with_reducible rfl)
  try simp only [List.getElem_toArray, List.getElem_cons_zero, List.getElem_cons_succ, Act.put, List.setIfInBounds_toArray, List.set_cons_zero, List.set_cons_succ]
  refine wpT_one (i := 1) (by kernel_rfl) rfl (fun K hK => ?_)
  go_simp
  refine (rtagged_any tagAb (by decide) (by decide) g7 0 cap7 E n7 HN7 he0 (by omega) HEB _ (Lib.hid (HS7.out.below (Below.refl _ _).drew))).mono ?_
  rintro e w8 ⟨rfl, hb8⟩
  have HR8 := Lib.hid ((HR7.out.below (Below.refl _ _).drew).below hb8)
  have HT8 := Lib.hid ((HT7.out.below (Below.refl _ _).drew).below hb8)
  have HB8 := Lib.hid (below_ext (below_ext HB7.out (Below.refl _ _).drew) hb8)
  obtain ⟨R, hR⟩ : ∃ R, tagged (bys tagAb) E = R := ⟨_, rfl⟩
  have hRl : R.length = 32 := by rw [← hR]; exact tagged_len _ _
  have HNN : Kp (abL h (bys s) item = R) := ⟨by rw [abL, HEE.1]; exact hR⟩
  have HRL := Lib.hid hRl
  rw [hR]
  clear hR hRl
  refine hK.out _ _ ?_ (fun hHeld => ?_)
  · exact HT8.out.count hl.out
  clear hK K
  try simp only [List.getElem_toArray, List.getElem_cons_zero, List.getElem_cons_succ, Act.put, List.setIfInBounds_toArray, List.set_cons_zero, List.set_cons_succ]
  refine wpT_take (i := 5) (oi := _) (v := (.agg (tcs R (c + 1)))) rfl (by kernel_rfl) (by kernel_rfl) (by kernel_rfl) (by kernel_rfl) (fun _ _ _ h => h) (Or.inl ⟨by rfl, yields_built 87 _ rfl _ (built2 R HRL.out (c + 1))⟩) (by assumption) ?_
  try simp only [List.getElem_toArray, List.getElem_cons_zero, List.getElem_cons_succ, Act.put, List.setIfInBounds_toArray, List.set_cons_zero, List.set_cons_succ]
  refine wpT_pass (i := 6) (by kernel_rfl) (by simp) rfl (fun K hK => ?_)
  rw [show (if Region.wanted _ _ = true then _ else _ : Prop) = _ from if_pos rfl]
  refine wp_store_row 87 _ _ rfl (w.heap.size + 1 + 1) (tcs R (c + 1)) rfl rfl 87 _ HR8.out (tr_info HRL.out) (tcs_sz rfl HRL.out) (tcs_one _ _) ?_
  refine hK.out _ _ ?_
  clear hK K
  try simp only [List.getElem_toArray, List.getElem_cons_zero, List.getElem_cons_succ, Act.put, List.setIfInBounds_toArray, List.set_cons_zero, List.set_cons_succ]
  refine wpT_pass (i := 7) (by kernel_rfl) (by simp) rfl (fun K hK => ?_)
  go_simp
  refine hK.out _ _ ?_
  clear hK K
  try simp only [List.getElem_toArray, List.getElem_cons_zero, List.getElem_cons_succ, Act.put, List.setIfInBounds_toArray, List.set_cons_zero, List.set_cons_succ]
  refine wpT_done (by kernel_rfl) ?_ _
  have HRR : Hid (TBlk (w8.setRow (w.heap.size + 1 + 1) (tcs R (c + 1))) (w.heap.size + 1 + 1) R (c + 1)) := Lib.hid HR8.out.setRow
  have HBF : Below w.heap.size w (w8.setRow (w.heap.size + 1 + 1) (tcs R (c + 1))) := below_setRow' HB8.out (by omega)
  go_wp2
  exact bodyPost_ret (v := TrE R (c + 1) 0) (results_cell_tmp2 (p := 6) (q := 7) (ty := 87) rfl _ _ ⟨w.heap.size + 1 + 1, 0, none⟩ _ _ rfl rfl (run_loadVar_row _ _ _ _ _ _ _ HRR.out Tryz.underlying87 rfl (tr_info HRL.out))) rfl ⟨by rw [HNN.1], HBF⟩
end Go.Proofs.YtcmidgdhihmppaaGreatDoor
namespace Go.Proofs.YtcmidgdhihmppaaGreatDoor
open Go.RowKit SpM
set_option linter.unusedVariables false
set_option linter.unusedSimpArgs false
set_option maxRecDepth 100000
set_option maxHeartbeats 3200000 in
theorem rints_ok (h : List Int) (hl : Hid (h.length = 32)) (hb : Hid (bytesB h = true)) (c : Int) (hc0 : 0 ≤ c) (hc1 : c < 1000) (s : ByteArray) (hs : s.size ≤ 1000) (hr : Hid (labB (bys s) = true)) (A : Option Addr) (l : List Int) (n cA : Nat) (hn : Hid (l.length = n)) (hbig : n ≤ 1000) (w : World) (hS : Hid (Sl w A l)) (hfi : Hid (fits 7 (.lst (l.map .int)))) (hle : Hid ((enc (.lst (l.map .int))).length ≤ 14000)) :
    Calls Tryz.prog 65 #[.agg (tcs h c), .string s, .slice A n cA] w fun e w' => e = .returned (TrE (abL h (bys s) (.lst (l.map .int))) (c + 1) 0) ∧ Below w.heap.size w w' := by
  obtain ⟨W, hW⟩ : ∃ W, (w.alloc (.cells (tcs h c) 87)).alloc (.cells #[.int .u8 0, .int .u8 0, .int .u8 0, .int .u8 0, .int .u8 0, .int .u8 0, .int .u8 0, .int .u8 0, .int .u8 0, .int .u8 0, .int .u8 0, .int .u8 0, .int .u8 0, .int .u8 0, .int .u8 0, .int .u8 0, .int .u8 0, .int .u8 0, .int .u8 0, .int .u8 0, .int .u8 0, .int .u8 0, .int .u8 0, .int .u8 0, .int .u8 0, .int .u8 0, .int .u8 0, .int .u8 0, .int .u8 0, .int .u8 0, .int .u8 0, .int .u8 0, .int .i64 0] 87) = W := ⟨_, rfl⟩
  have HBX : Hid (Below w.heap.size w W) := Lib.hid (by rw [← hW]; exact below_two (Below.refl _ _))
  have HT0 : Hid (TBlk W w.heap.size h c) := Lib.hid (by rw [← hW]; exact heap_alloc2_old _ _ _)
  have HR0 : Hid (TBlk W (w.heap.size + 1) (zer 32) 0) := Lib.hid (by rw [← hW, ztr]; exact heap_alloc2_new _ _ _)
  have HSL := Lib.hid (hS.out.below HBX.out)
  have HW := Lib.hid hW
  clear hW
  go_enter Tryz.func65, Tryz.ntmps65
  go_upto_region 1 with (fail)
  rw [HW.out]
  clear HW
  have HBd := Lib.hid ((Below.refl W.heap.size W).drew)
  have HTd := Lib.hid (HT0.out.below HBd.out)
  have HRd := Lib.hid (HR0.out.below HBd.out)
  have HSd := Lib.hid (HSL.out.below HBd.out)
  have HB3 := Lib.hid (below_ext HBX.out HBd.out)
  obtain ⟨Wd, hWd⟩ : ∃ u, W.drew = u := ⟨_, rfl⟩
  refine wp_region_T (S := fun w' => w'.heap[w.heap.size]? = some (.cells (tcs h c) 87 (0, 0))) (E := [7, 8]) (by kernel_rfl) (HTd.out) (fun hHeld => ?_)
  refine wpT_take (i := 0) (oi := _) (v := (.agg (tcs h c))) rfl (by kernel_rfl) (by kernel_rfl) (by kernel_rfl) (by kernel_rfl) (fun _ _ _ h => h) (Or.inl ⟨by rfl, yields_row 87 _ rfl w.heap.size rfl _ _ _ _ (fun _ h => h) Tryz.underlying87 rfl (tr_info hl.out)⟩) (by assumption) ?_
  try simp only [List.getElem_toArray, List.getElem_cons_zero, List.getElem_cons_succ, Act.put, List.setIfInBounds_toArray, List.set_cons_zero, List.set_cons_succ]
  refine wpT_take (i := 1) (oi := _) (v := ?_) rfl (by kernel_rfl) (by kernel_rfl) (by kernel_rfl) (by kernel_rfl) (fun _ _ _ h => h) (Or.inl ⟨by rfl, ?_⟩) (by assumption) ?_
  rotate_left; (intro wS hSw; (try dsimp only at hSw); go_simp <;> with_reducible rfl)
  try simp only [List.getElem_toArray, List.getElem_cons_zero, List.getElem_cons_succ, Act.put, List.setIfInBounds_toArray, List.set_cons_zero, List.set_cons_succ]
  refine wpT_take (i := 2) (oi := _) (v := ?_) rfl (by kernel_rfl) (by kernel_rfl) (by kernel_rfl) (by kernel_rfl) (fun _ _ _ h => h) (Or.inl ⟨by rfl, ?_⟩) (by assumption) ?_
  rotate_left; (intro wS hSw; (try dsimp only at hSw); go_simp <;> with_reducible rfl)
  try simp only [List.getElem_toArray, List.getElem_cons_zero, List.getElem_cons_succ, Act.put, List.setIfInBounds_toArray, List.set_cons_zero, List.set_cons_succ]
  refine wpT_one (i := 3) (by kernel_rfl) rfl (fun K hK => ?_)
  go_simp
  try rw [hWd]
  rw [hWd] at HBd HTd HRd HSd HB3
  refine (rlist_any A l n cA hn (by omega) _ HSd).mono ?_
  rintro e w4 ⟨cI, rfl, hI4, hb4⟩
  refine hK.out _ _ ?_ (fun hHeld => ?_)
  · exact HTd.out.below hb4
  clear hK K
  try simp only [List.getElem_toArray, List.getElem_cons_zero, List.getElem_cons_succ, Act.put, List.setIfInBounds_toArray, List.set_cons_zero, List.set_cons_succ]
  refine wpT_one (i := 4) (by kernel_rfl) rfl (fun K hK => ?_)
  go_simp
  rw [show cI.val = (.agg #[.int .i64 cI.kind, .int .i64 cI.n, .slice cI.B cI.nb cI.cb, .slice cI.L cI.nl cI.cl] : Value) from rfl]
  refine (rabsorb_ok h hl hb c hc0 hc1 s hs hr _ cI _ (Lib.hid hI4) hfi hle).mono ?_
  rintro e w5 ⟨rfl, hb5⟩
  have HR5 := Lib.hid ((HRd.out.below hb4).below hb5)
  have HB5 := Lib.hid (below_ext (below_ext HB3.out hb4) hb5)
  obtain ⟨R, hR⟩ : ∃ R, abL h (bys s) (.lst (l.map .int)) = R := ⟨_, rfl⟩
  have hRl : R.length = 32 := by rw [← hR]; exact abL_len _ _ _
  have HN : Kp (abL h (bys s) (.lst (l.map .int)) = R) := ⟨hR⟩
  have HRL := Lib.hid hRl
  rw [hR, show TrE R (c + 1) 0 = .tuple #[.agg (tcs R (c + 1)), .int .i64 0] from rfl]
  refine hK.out _ _ ?_ (fun hHeld => ?_)
  · exact (HTd.out.below hb4).below hb5
  clear hK K
  try simp only [List.getElem_toArray, List.getElem_cons_zero, List.getElem_cons_succ, Act.put, List.setIfInBounds_toArray, List.set_cons_zero, List.set_cons_succ]
  refine wpT_take (i := 5) (oi := _) (v := ?_) rfl (by kernel_rfl) (by kernel_rfl) (by kernel_rfl) (by kernel_rfl) (fun _ _ _ h => h) (Or.inl ⟨by rfl, ?_⟩) (by assumption) ?_
  rotate_left; (intro wS hSw; (try dsimp only at hSw); go_simp <;> with_reducible rfl)
  try simp only [List.getElem_toArray, List.getElem_cons_zero, List.getElem_cons_succ, Act.put, List.setIfInBounds_toArray, List.set_cons_zero, List.set_cons_succ]
  refine wpT_take (i := 6) (oi := _) (v := ?_) rfl (by kernel_rfl) (by kernel_rfl) (by kernel_rfl) (by kernel_rfl) (fun _ _ _ h => h) (Or.inl ⟨by rfl, ?_⟩) (by assumption) ?_
  rotate_left; (intro wS hSw; (try dsimp only at hSw); go_simp <;> with_reducible rfl)
  try simp only [List.getElem_toArray, List.getElem_cons_zero, List.getElem_cons_succ, Act.put, List.setIfInBounds_toArray, List.set_cons_zero, List.set_cons_succ]
  refine wpT_pass (i := 7) (by kernel_rfl) (by simp) rfl (fun K hK => ?_)
  rw [show (if Region.wanted _ _ = true then _ else _ : Prop) = _ from if_pos rfl]
  refine wp_store_row 87 _ _ rfl (w.heap.size + 1) (tcs R (c + 1)) rfl rfl 87 _ HR5.out (tr_info HRL.out) (tcs_sz rfl HRL.out) (tcs_one _ _) ?_
  refine hK.out _ _ ?_
  clear hK K
  try simp only [List.getElem_toArray, List.getElem_cons_zero, List.getElem_cons_succ, Act.put, List.setIfInBounds_toArray, List.set_cons_zero, List.set_cons_succ]
  refine wpT_pass (i := 8) (by kernel_rfl) (by simp) rfl (fun K hK => ?_)
  go_simp
  refine hK.out _ _ ?_
  clear hK K
  try simp only [List.getElem_toArray, List.getElem_cons_zero, List.getElem_cons_succ, Act.put, List.setIfInBounds_toArray, List.set_cons_zero, List.set_cons_succ]
  refine wpT_done (by kernel_rfl) ?_ _
  have HRR : Hid (TBlk (w5.setRow (w.heap.size + 1) (tcs R (c + 1))) (w.heap.size + 1) R (c + 1)) := Lib.hid HR5.out.setRow
  have HBF : Below w.heap.size w (w5.setRow (w.heap.size + 1) (tcs R (c + 1))) := below_setRow' HB5.out (by omega)
  clear hR hRl hb4 hb5 hI4 HB5 HR5 hWd
  go_wp2
  exact bodyPost_ret (v := TrE R (c + 1) 0) (results_cell_tmp2 (p := 6) (q := 7) (ty := 87) rfl _ _ ⟨w.heap.size + 1, 0, none⟩ _ _ rfl rfl (run_loadVar_row _ _ _ _ _ _ _ HRR.out Tryz.underlying87 rfl (tr_info HRL.out))) rfl ⟨by rw [HN.out], HBF⟩
set_option maxHeartbeats 6400000 in
theorem rchal_ok (h : List Int) (hl : Hid (h.length = 32)) (hb : Hid (bytesB h = true)) (c : Int) (hc0 : 0 ≤ c) (hc1 : c < 1000) (s : ByteArray) (hs : s.size ≤ 1000) (hr : Hid (labB (bys s) = true)) (q : Int) (hq1 : 2 ≤ q) (hq2 : q < 2305843009213693952) (w : World) :
    Calls Tryz.prog 66 #[.agg (tcs h c), .string s, .int .i64 q] w fun e w' => e = .returned (ChE (chL q h (bys s)) (c + 1) (chN q h (bys s)) 0) ∧ Below w.heap.size w w' := by
  have hs0 : 1 ≤ s.size := lab_pos hr.out
  obtain ⟨W, hW⟩ : ∃ W, (w.alloc (.cells (tcs h c) 87)).alloc (.cells #[.int .u8 0, .int .u8 0, .int .u8 0, .int .u8 0, .int .u8 0, .int .u8 0, .int .u8 0, .int .u8 0, .int .u8 0, .int .u8 0, .int .u8 0, .int .u8 0, .int .u8 0, .int .u8 0, .int .u8 0, .int .u8 0, .int .u8 0, .int .u8 0, .int .u8 0, .int .u8 0, .int .u8 0, .int .u8 0, .int .u8 0, .int .u8 0, .int .u8 0, .int .u8 0, .int .u8 0, .int .u8 0, .int .u8 0, .int .u8 0, .int .u8 0, .int .u8 0, .int .i64 0] 87) = W := ⟨_, rfl⟩
  have HBX : Hid (Below w.heap.size w W) := Lib.hid (by rw [← hW]; exact below_two (Below.refl _ _))
  have HT0 : Hid (TBlk W w.heap.size h c) := Lib.hid (by rw [← hW]; exact heap_alloc2_old _ _ _)
  have HR0 : Hid (TBlk W (w.heap.size + 1) (zer 32) 0) := Lib.hid (by rw [← hW, ztr]; exact heap_alloc2_new _ _ _)
  have HW := Lib.hid hW
  have hcn : ¬ (c = 1000) := by omega
  have hqa : ¬ (q < 2) := by omega
  have hqb : ¬ (2305843009213693952 ≤ q) := by omega
  clear hW
  go_enter Tryz.func66, Tryz.ntmps66
  go_upto_region 1 with (fail)
  rw [HW.out]
  clear HW
  go_wp2_with ((with_reducible show wpList _ _ _ (⟨some 12, _, _, _, _, _⟩ :: _) _ _); refine wpList_load_row rfl 87 _ rfl w.heap.size rfl _ _ _ _ HT0.out Tryz.underlying87 rfl (tr_info hl.out) ?_)
  refine (rtvalid_any h hl c hc0 (by omega) _).mono ?_
  rintro e w1 ⟨rfl, hb1⟩
  have HB1 := Lib.hid (below_ext HBX.out hb1)
  have HT1 := Lib.hid (HT0.out.below hb1)
  have HR1 := Lib.hid (HR0.out.below hb1)
  clear hb1 HT0 HR0 HBX
  go_wp2_with fail
  refine (rlabel_any s hs true hr _).mono ?_
  rintro e w2 ⟨rfl, rfl⟩
  have hcnt := HT1.out.count hl.out
  go_wp2_with ((with_reducible show wpList _ _ _ (⟨some 32, _, _, _, _, _⟩ :: _) _ _); refine wpList_load_row rfl 87 _ rfl w.heap.size rfl _ _ _ _ HT1.out Tryz.underlying87 rfl (tr_info hl.out) ?_)
  clear hcnt
  refine (rframe0 h hl hb c s hs0 hs _).mono ?_
  rintro e w2 ⟨cf, rfl, hcf, hb2⟩
  have HFIT : Hid (fits 8 (.lst [.byt h, .byt (bys s)])) := Lib.hid (frame_fits0 hl.out hb.out hs0 hs)
  have HLEN : Hid ((enc (.lst [.byt h, .byt (bys s)])).length ≤ 16384) := Lib.hid (frame_len0 hl.out hs)
  have HT2 := Lib.hid (HT1.out.below hb2)
  have HR2 := Lib.hid (HR1.out.below hb2)
  have HB2 := Lib.hid (below_ext HB1.out hb2)
  have HC2 := Lib.hid hcf
  rw [show cf.val = .agg cf.cs from rfl]
  clear hb2 HT1 HR1 HB1 hcf
  go_wp2_with fail
  rw [show (Value.agg cf.cs) = cf.val from rfl]
  refine (renc_any 8 _ cf _ HFIT.out HC2.out HLEN.out).mono ?_
  rintro e w3 ⟨v3, rfl, ho3, hb3⟩
  obtain ⟨E, hE⟩ : ∃ E, enc (.lst [.byt h, .byt (bys s)]) = E := ⟨_, rfl⟩
  have HEB : Hid (bytesB E = true) := Lib.hid (by rw [← hE]; exact enc_bytes HFIT.out)
  have HEL : Hid (0 < E.length ∧ E.length ≤ 16384) := Lib.hid (by rw [← hE]; exact ⟨enc_pos _, HLEN.out⟩)
  rw [hE] at ho3
  obtain ⟨g3, cap3, e3, hg3, -, -, hsk3⟩ := ho3.cells HEL.out.1
  obtain ⟨n3, hn3⟩ : ∃ n, E.length = n := ⟨_, rfl⟩
  rw [hn3] at e3 HEL
  subst e3
  have HN3 := Lib.hid hn3
  have HS3 := Lib.hid hsk3
  have HT3 := Lib.hid (HT2.out.below hb3)
  have HR3 := Lib.hid (HR2.out.below hb3)
  have HB3 := Lib.hid (below_ext HB2.out hb3)
  have HEE : Kp (enc (.lst [.byt h, .byt (bys s)]) = E) := ⟨hE⟩
  clear hE hsk3 ho3 hb3 hn3 HFIT HLEN HT2 HR2 HB2 HC2
  rw [show cf.val = .agg cf.cs from rfl]
  obtain ⟨he0, he1⟩ := HEL.out
  go_wp2_with fail
  refine (rtagged_any tagCh (by decide) (by decide) g3 0 cap3 E n3 HN3 he0 (by omega) HEB _ HS3).mono ?_
  rintro e w4 ⟨rfl, hb4⟩
  have HT4 := Lib.hid (HT3.out.below hb4)
  have HR4 := Lib.hid (HR3.out.below hb4)
  have HB4 := Lib.hid (below_ext HB3.out hb4)
  obtain ⟨R, hR⟩ : ∃ R, tagged (bys tagCh) E = R := ⟨_, rfl⟩
  have hRl : R.length = 32 := by rw [← hR]; exact tagged_len _ _
  have HRB : Hid (bytesB R = true) := Lib.hid (by rw [← hR]; exact sha_bytes _)
  have HN : Kp (chD h (bys s) = R) := ⟨by rw [chD, HEE.1]; exact hR⟩
  have HRL := Lib.hid hRl
  rw [hR]
  clear hb4 hR hRl HT3 HR3 HB3
  go_wp2_with fail
  refine (rnumber_any R HRL HRB q (by omega) hq2 _).mono ?_
  rintro e w6 ⟨rfl, hb6⟩
  have HT6 := Lib.hid (HT4.out.below hb6)
  have HR6 := Lib.hid (HR4.out.below hb6)
  have HB6 := Lib.hid (below_ext HB4.out hb6)
  obtain ⟨n, hn⟩ : ∃ n, numv q R = n := ⟨_, rfl⟩
  have hn0 : 0 ≤ n ∧ n < q := by rw [← hn]; exact numL_lo (by omega) 16
  obtain ⟨hn1, hn2⟩ := hn0
  have HNN : Kp (chN q h (bys s) = n) := ⟨by rw [chN, HN.1]; exact hn⟩
  rw [hn]
  clear hb6 hn HT4 HR4 HB4
  go_wp2_with ((with_reducible show wpList _ _ _ (⟨some 40, _, _, _, _, _⟩ :: _) _ _); refine wpList_load_row rfl 87 _ rfl w.heap.size rfl _ _ _ _ HT6.out Tryz.underlying87 rfl (tr_info hl.out) ?_)
  refine (rabsorb_ok h hl hb c hc0 hc1 s hs hr (.int n) ⟨1, n, none, 0, 0, none, 0, 0⟩ _ (Lib.hid (.int n _ rfl rfl rfl rfl)) (Lib.hid ⟨by omega, by omega⟩) (Lib.hid (by rw [enc_int, List.length_cons, be8_len]; decide))).mono ?_
  rintro e w7 ⟨rfl, hb7⟩
  have HR7 := Lib.hid (HR6.out.below hb7)
  have HB7 := Lib.hid (below_ext HB6.out hb7)
  obtain ⟨G, hG⟩ : ∃ G, abL h (bys s) (.int n) = G := ⟨_, rfl⟩
  have HGL : Hid (G.length = 32) := Lib.hid (by rw [← hG]; exact abL_len _ _ _)
  have HNG : Kp (chL q h (bys s) = G) := ⟨by rw [chL, HNN.1]; exact hG⟩
  rw [hG, show TrE G (c + 1) 0 = .tuple #[.agg (tcs G (c + 1)), .int .i64 0] from rfl]
  clear hb7 hG HR6 HB6 HT6
  go_upto_region 9 with ((with_reducible show wpList _ _ _ (⟨none, _, _, _, _, _⟩ :: _) _ _); refine wpList_store_row rfl 87 _ _ rfl w7.heap.size (tcs G (c + 1)) rfl rfl _ _ (heap_alloc_new _ _) (tr_info HGL.out) (tcs_sz (h := zer 32) (c := 0) rfl HGL.out) (tcs_one _ _) ?_)
  rw [World.setRow_alloc_new]
  try simp only [Act.put]
  have HK8 : Hid (TBlk (w7.alloc (.cells (tcs G (c + 1)) 87)) w7.heap.size G (c + 1)) := Lib.hid (TBlk.new _ _ _)
  have HR8 := Lib.hid (HR7.out.below (below_box0 w7 (.cells (tcs G (c + 1)) 87)))
  have HB8 := Lib.hid (below_ext HB7.out (below_box0 w7 (.cells (tcs G (c + 1)) 87)))
  obtain ⟨W8, hW8⟩ : ∃ u, w7.alloc (.cells (tcs G (c + 1)) 87) = u := ⟨_, rfl⟩
  rw [hW8] at HK8 HR8 HB8 ⊢
  clear hW8 HR7 HB7
  go_wp2_with (first
    | ((with_reducible show wpList _ _ _ (⟨some 47, _, _, _, _, _⟩ :: _) _ _); refine wpList_load_row rfl 87 _ rfl w7.heap.size rfl _ _ _ _ HK8.out Tryz.underlying87 rfl (tr_info HGL.out) ?_)
    | ((with_reducible show wpList _ _ _ (⟨none, _, _, _, _, _⟩ :: _) _ _); refine wpList_store_row rfl 87 _ _ rfl (w.heap.size + 1) (tcs G (c + 1)) rfl rfl _ _ HR8.out (tr_info HGL.out) (tcs_sz rfl HGL.out) (tcs_one _ _) ?_))
  have HRR : Hid (TBlk (W8.setRow (w.heap.size + 1) (tcs G (c + 1))) (w.heap.size + 1) G (c + 1)) := Lib.hid HR8.out.setRow
  have HBF : Below w.heap.size w (W8.setRow (w.heap.size + 1) (tcs G (c + 1))) := below_setRow' HB8.out (by omega)
  exact bodyPost_ret (v := ChE G (c + 1) n 0) (results_cell_tmp3 (p := 6) (q := 7) (r := 8) (ty := 87) rfl _ _ ⟨w.heap.size + 1, 0, none⟩ _ _ _ rfl rfl rfl (run_loadVar_row _ _ _ _ _ _ _ HRR.out Tryz.underlying87 rfl (tr_info HGL.out))) rfl ⟨by rw [HNG.out, HNN.out], HBF⟩
end Go.Proofs.YtcmidgdhihmppaaGreatDoor
namespace Go.Proofs.YtcmidgdhihmppaaGreatDoor
open Go.RowKit SpM
set_option linter.unusedVariables false
set_option linter.unusedSimpArgs false
set_option maxRecDepth 100000
/-- what stands while the reference absorbs. -/
def RcI (W : World) (a : Nat) (h : List Int) (c : Int) (u : World) : Prop := TBlk u a h c ∧ Below W.heap.size W u
theorem RcI.step {W : World} {a : Nat} {h h' : List Int} {c c' : Int} {u u' : World} (hI : RcI W a h c u) (hb : Below u.heap.size u u') (hWa : W.heap.size ≤ a) : RcI W a h' c' (u'.setRow a (tcs h' c')) :=
  ⟨(hI.1.below hb).setRow, below_setRow' (below_ext hI.2 hb) hWa⟩
theorem rints_st (W : World) (a : Nat) (h : List Int) (hst : Hid (St32 h)) (c : Int) (hc0 : 0 ≤ c) (hc1 : c < 1000) (s : ByteArray) (hs : s.size ≤ 1000) (hr : Hid (labB (bys s) = true)) (A : Option Addr) (l : List Int) (n cA : Nat) (hn : Hid (l.length = n)) (hok : Hid (okL l)) (u : World) (hS : Hid (Sl u A l)) :
    Calls Tryz.prog 65 #[.agg (tcs h c), .string s, .slice A n cA] u fun e u' => e = .returned (TrE (absL h (bys s) l) (c + 1) 0) ∧ Below u.heap.size u u' :=
  rints_ok h (Lib.hid hst.out.1) (Lib.hid hst.out.2) c hc0 hc1 s hs hr A l n cA hn (by rw [← hn.out]; exact hok.out.1) u hS hok.out.fits hok.out.len
set_option maxHeartbeats 6400000 in
theorem rchal17_ok (P Q G : Int) (Y : Option Addr) (ys : List Int) (yn yc : Nat) (B : Option Addr) (rows : List Row) (bn bc : Nat) (A : Option Addr) (al : List Int) (na ca : Nat) (s : ByteArray) (hs : s.size ≤ 1000) (hr : Hid (labB (bys s) = true))
    (hyn : Hid (ys.length = yn)) (hbn : Hid (rows.length = bn)) (hna : Hid (al.length = na)) (hb9 : bn ≤ 900) (okg : Hid (okL [P, Q, G])) (oky : Hid (okL ys)) (oka : Hid (okL al)) (okr : Hid (∀ k, k < rows.length → okL (rows.getD k noRow).xs))
    (hQ1 : 2 ≤ Q) (hQ2 : Q < 2305843009213693952) (V : Int) (hV : Kp (chalV P Q G (bys s) ys rows al = V)) (w : World) (hY : Hid (Sl w Y ys)) (hB : Hid (Rw w B rows)) (hA : Hid (Sl w A al)) :
    Calls Tryz.prog 21 #[gv P Q G, .agg #[.slice Y yn yc, .slice B bn bc], .string s, .slice A na ca] w fun e w' => e = .returned (.int .i64 V) ∧ Below w.heap.size w w' := by
  obtain ⟨W, hW⟩ : ∃ W, (w.alloc (gObj P Q G)).alloc (.cells #[.slice Y yn yc, .slice B bn bc] 27) = W := ⟨_, rfl⟩
  have HBX : Hid (Below w.heap.size w W) := Lib.hid (by rw [← hW]; exact below_two (Below.refl _ _))
  have HGX : Hid (GBox W w.heap.size P Q G) := Lib.hid (by rw [← hW]; exact (gbox_alloc w P Q G).below (below_box0 _ _))
  have HRX : Hid (RBox W (w.heap.size + 1) (.slice Y yn yc) (.slice B bn bc)) := Lib.hid (by rw [← hW]; exact rbox_alloc1 w _ _ _ _)
  have HYY := Lib.hid (hY.out.below HBX.out)
  have HBB := Lib.hid (hB.out.below HBX.out)
  have HAA := Lib.hid (hA.out.below HBX.out)
  have HW := Lib.hid hW
  clear hW hY hB hA
  go_enter Tryz.func21, Tryz.ntmps21
  go_upto_region 1 with (fail)
  rw [HW.out]
  clear HW
  go_wp2_with fail
  refine (rtnew_ok s hs (lab_pos hr.out) _).mono ?_
  rintro e w1 ⟨rfl, hb1⟩
  obtain ⟨S0, hS0⟩ : ∃ S, newL (bys s) = S := ⟨_, rfl⟩
  have HS0 : Hid (St32 S0) := Lib.hid (by rw [← hS0]; exact st_new _)
  have HV0 : Kp (chN Q (absL (chRows (absL (absL S0 (bys lbGroup) [P, Q, G]) (bys lbY) ys) rows) (bys lbCommit) al) (bys lbCh) = V) := ⟨by rw [← hS0]; exact hV.1⟩
  rw [hS0]
  have HL0 := Lib.hid HS0.out.1
  have HB1 := Lib.hid hb1
  clear hb1 hS0 hV
  go_upto_region 2 with ((with_reducible show wpList _ _ _ (⟨none, _, _, _, _, _⟩ :: _) _ _); refine wpList_store_row rfl 87 _ _ rfl w1.heap.size (tcs S0 0) rfl rfl _ _ (heap_alloc_new _ _) (tr_info HL0.out) (tcs_sz (h := zer 32) (c := 0) rfl HL0.out) (tcs_one _ _) ?_)
  rw [World.setRow_alloc_new]
  try simp only [Act.put]
  have hI2 : RcI W w1.heap.size S0 0 (w1.alloc (.cells (tcs S0 0) 87)) := ⟨TBlk.new _ _ _, below_ext HB1.out (below_box0 _ _)⟩
  obtain ⟨W2, hW2⟩ : ∃ u, w1.alloc (.cells (tcs S0 0) 87) = u := ⟨_, rfl⟩
  obtain ⟨a, ha⟩ : ∃ a, w1.heap.size = a := ⟨_, rfl⟩
  have hWa : W.heap.size ≤ a := by rw [← ha]; exact HB1.out.size
  rw [hW2] at hI2 ⊢
  rw [ha] at hI2 ⊢
  have HI2 := Lib.hid hI2
  clear hW2 hI2 ha HB1
  have HT2 := Lib.hid HI2.out.1
  obtain ⟨c0, c1, c2⟩ := HGX.out.below HI2.out.2
  go_wp2_with ((with_reducible show wpList _ _ _ (⟨some 17, _, _, _, _, _⟩ :: _) _ _); refine wpList_load_row rfl 87 _ rfl a rfl _ _ _ _ HT2.out Tryz.underlying87 rfl (tr_info HL0.out) ?_)
  refine (rints_st W a S0 HS0 0 (by omega) (by omega) lbGroup (by decide) labGroup (some ⟨W2.heap.size, 0, none⟩) [P, Q, G] 3 3 (Lib.hid rfl) okg _ (Lib.hid (sl_of_cells (cells3l W2 _ P Q G)))).mono ?_
  rintro e w3 ⟨rfl, hb3⟩
  obtain ⟨S1, hS1⟩ : ∃ S, absL S0 (bys lbGroup) [P, Q, G] = S := ⟨_, rfl⟩
  have HS1 : Hid (St32 S1) := Lib.hid (by rw [← hS1]; exact st_abs _ _ _)
  have HV1 : Kp (chN Q (absL (chRows (absL S1 (bys lbY) ys) rows) (bys lbCommit) al) (bys lbCh) = V) := ⟨by rw [← hS1]; exact HV0.1⟩
  rw [hS1, show TrE S1 (0 + 1) 0 = .tuple #[.agg (tcs S1 1), .int .i64 0] from rfl]
  have hb3' := below_ext (below_box0 W2 (.cells #[.int .i64 P, .int .i64 Q, .int .i64 G] 3)) hb3
  have HT3 := Lib.hid (HI2.out.1.below hb3')
  have HL1 := Lib.hid HS1.out.1
  have HI3 := Lib.hid (HI2.out.step (h' := S1) (c' := 1) hb3' hWa)
  clear hb3 hb3' hS1 HV0 c0 c1 c2 HI2 HT2
  go_upto_region 3 with ((with_reducible show wpList _ _ _ (⟨none, _, _, _, _, _⟩ :: _) _ _); refine wpList_store_row rfl 87 _ _ rfl a (tcs S1 1) rfl rfl _ _ HT3.out (tr_info HL1.out) (tcs_sz HL0.out HL1.out) (tcs_one _ _) ?_)
  obtain ⟨W3, hW3⟩ : ∃ u, w3.setRow a (tcs S1 1) = u := ⟨_, rfl⟩
  rw [hW3] at HI3 ⊢
  clear hW3 HT3
  have HT3 := Lib.hid HI3.out.1
  obtain ⟨d0, d1⟩ := HRX.out.below HI3.out.2
  go_wp2_with ((with_reducible show wpList _ _ _ (⟨some 29, _, _, _, _, _⟩ :: _) _ _); refine wpList_load_row rfl 87 _ rfl a rfl _ _ _ _ HT3.out Tryz.underlying87 rfl (tr_info HL1.out) ?_)
  refine (rints_st W a S1 HS1 1 (by omega) (by omega) lbY (by decide) labY Y ys yn yc hyn oky _ (Lib.hid (HYY.out.below HI3.out.2))).mono ?_
  rintro e w4 ⟨rfl, hb4⟩
  obtain ⟨S2, hS2⟩ : ∃ S, absL S1 (bys lbY) ys = S := ⟨_, rfl⟩
  have HS2 : Hid (St32 S2) := Lib.hid (by rw [← hS2]; exact st_abs _ _ _)
  have HV2 : Kp (chN Q (absL (chRows S2 rows) (bys lbCommit) al) (bys lbCh) = V) := ⟨by rw [← hS2]; exact HV1.1⟩
  rw [hS2, show TrE S2 (1 + 1) 0 = .tuple #[.agg (tcs S2 2), .int .i64 0] from rfl]
  have HT4 := Lib.hid (HI3.out.1.below hb4)
  have HL2 := Lib.hid HS2.out.1
  have HI4 := Lib.hid (HI3.out.step (h' := S2) (c' := 2) hb4 hWa)
  clear hb4 hS2 HV1 d0 d1 HI3 HT3
  go_upto_region 4 with ((with_reducible show wpList _ _ _ (⟨none, _, _, _, _, _⟩ :: _) _ _); refine wpList_store_row rfl 87 _ _ rfl a (tcs S2 2) rfl rfl _ _ HT4.out (tr_info HL2.out) (tcs_sz HL1.out HL2.out) (tcs_one _ _) ?_)
  obtain ⟨W4, hW4⟩ : ∃ u, w4.setRow a (tcs S2 2) = u := ⟨_, rfl⟩
  rw [hW4] at HI4 ⊢
  clear hW4 HT4
  obtain ⟨S3, hS3⟩ : ∃ S, chRows S2 rows = S := ⟨_, rfl⟩
  have HR3 : Kp (chRows S2 (rows.drop 0) = S3) := ⟨hS3⟩
  have HV3 : Kp (chN Q (absL S3 (bys lbCommit) al) (bys lbCh) = V) := ⟨by rw [← hS3]; exact HV2.1⟩
  clear hS3 HV2
  go_wp2_with fail
  go_loopw [10] (fun i u => ∃ (k : Nat) (S : List Int) (c : Int), k ≤ bn ∧ i = .int .i64 k ∧ Hid (c = 2 + (k : Int)) ∧ Hid (St32 S) ∧ Kp (chRows S (rows.drop k) = S3) ∧ Hid (RcI W a S c u)) (fun i _ => bn - (intOf i).toNat)
  case atStart => exact ⟨0, S2, 2, by omega, rfl, Lib.hid (by simp), HS2, HR3, HI4⟩
  case round =>
    obtain ⟨k, S, c, hk, rfl, HC, HS, HR, HI⟩ := hrel
    have hcl : 0 ≤ c ∧ c < 1000 := by have := HC.out; omega
    obtain ⟨hcl0, hcl1⟩ := hcl
    obtain ⟨c2, hc2⟩ : ∃ x, c + 1 = x := ⟨_, rfl⟩
    have HC2 : Hid (c + 1 = c2) := Lib.hid hc2
    clear hc2
    obtain ⟨d0, d1⟩ := HRX.out.below HI.out.2
    have HL := Lib.hid HS.out.1
    by_cases hlt : k < bn
    · have hkl : k < rows.length := by rw [hbn.out]; exact hlt
      obtain ⟨⟨b, o, hA, hi0⟩, hok⟩ := HBB.out.below HI.out.2 k hkl
      subst hA
      have HRN := Kp.mk ((chRows_step (h := S) hkl).symm.trans HR.1)
      have HOK := Lib.hid (okr.out k hkl)
      obtain ⟨R, hR⟩ : ∃ R, rows.getD k noRow = R := ⟨_, rfl⟩
      rw [hR] at hi0 hok HRN HOK
      obtain ⟨p, rn, rc, xs⟩ := R
      have HXL := Lib.hid hok.1
      have HX := Lib.hid hok.2
      dsimp only [Row.val] at hi0 HRN HOK
      have HTk := Lib.hid HI.out.1
      clear hR hok hkl
      go_wp2_with fail
      have HTd := Lib.hid (HTk.out.below (Below.refl _ _).drew)
      have hS0 : wr.drew.heap[a]? = some (.cells (tcs S c) 87 (0, 0)) ∧ wr.drew.cell? ⟨w.heap.size + 1, 0, none⟩ = some (.slice Y yn yc) ∧ wr.drew.cell? ⟨w.heap.size + 1, 1, none⟩ = some (.slice (some ⟨b, o, none⟩) bn bc) ∧ wr.drew.cell? ⟨b, o + k, none⟩ = some (.slice p rn rc) := ⟨HTd.out, d0, d1, hi0⟩
      refine wp_region_T (S := fun w' => w'.heap[a]? = some (.cells (tcs S c) 87 (0, 0)) ∧ w'.cell? ⟨w.heap.size + 1, 0, none⟩ = some (.slice Y yn yc) ∧ w'.cell? ⟨w.heap.size + 1, 1, none⟩ = some (.slice (some ⟨b, o, none⟩) bn bc) ∧ w'.cell? ⟨b, o + k, none⟩ = some (.slice p rn rc)) (E := [8, 9, 10]) (by kernel_rfl) (hS0) (fun hHeld => ?_)
      refine wpT_take (i := 0) (oi := _) (v := (.agg (tcs S c))) rfl (by kernel_rfl) (by kernel_rfl) (by kernel_rfl) (by kernel_rfl) (fun _ _ _ h => h) (Or.inl ⟨by rfl, yields_row 87 _ rfl a rfl _ _ _ _ (fun _ h => h.1) Tryz.underlying87 rfl (tr_info HL.out)⟩) (by assumption) ?_
      try simp only [List.getElem_toArray, List.getElem_cons_zero, List.getElem_cons_succ, Act.put, List.setIfInBounds_toArray, List.set_cons_zero, List.set_cons_succ]
      refine wpT_take (i := 1) (oi := _) (v := ?_) rfl (by kernel_rfl) (by kernel_rfl) (by kernel_rfl) (by kernel_rfl) (fun _ _ _ h => h) (Or.inl ⟨by rfl, ?_⟩) (by assumption) ?_
      rotate_left; (intro wS hSw; (try dsimp only at hSw); go_simp <;> with_reducible rfl)
      try simp only [List.getElem_toArray, List.getElem_cons_zero, List.getElem_cons_succ, Act.put, List.setIfInBounds_toArray, List.set_cons_zero, List.set_cons_succ]
      refine wpT_take (i := 2) (oi := _) (v := ?_) rfl (by kernel_rfl) (by kernel_rfl) (by kernel_rfl) (by kernel_rfl) (fun _ _ _ h => h) (Or.inl ⟨by rfl, ?_⟩) (by assumption) ?_
      rotate_left; (intro wS hSw; (try dsimp only at hSw); go_simp <;> with_reducible rfl)
      try simp only [List.getElem_toArray, List.getElem_cons_zero, List.getElem_cons_succ, Act.put, List.setIfInBounds_toArray, List.set_cons_zero, List.set_cons_succ]
      refine wpT_take (i := 3) (oi := _) (v := ?_) rfl (by kernel_rfl) (by kernel_rfl) (by kernel_rfl) (by kernel_rfl) (fun _ _ _ h => h) (Or.inl ⟨by rfl, ?_⟩) (by assumption) ?_
      rotate_left; (intro wS hSw; (try dsimp only at hSw); go_simp <;> with_reducible rfl)
      try simp only [List.getElem_toArray, List.getElem_cons_zero, List.getElem_cons_succ, Act.put, List.setIfInBounds_toArray, List.set_cons_zero, List.set_cons_succ]
      refine wpT_take (i := 4) (oi := _) (v := ?_) rfl (by kernel_rfl) (by kernel_rfl) (by kernel_rfl) (by kernel_rfl) (fun _ _ _ h => h) (Or.inl ⟨by rfl, ?_⟩) (by assumption) ?_
      rotate_left; (intro wS hSw; (try dsimp only at hSw); go_simp <;> with_reducible rfl)
      try simp only [List.getElem_toArray, List.getElem_cons_zero, List.getElem_cons_succ, Act.put, List.setIfInBounds_toArray, List.set_cons_zero, List.set_cons_succ]
      refine wpT_take (i := 5) (oi := _) (v := ?_) rfl (by kernel_rfl) (by kernel_rfl) (by kernel_rfl) (by kernel_rfl) (fun _ _ _ h => h) (Or.inl ⟨by rfl, ?_⟩) (by assumption) ?_
      rotate_left; (intro wS hSw; (try dsimp only at hSw); go_simp <;> with_reducible rfl)
      try simp only [List.getElem_toArray, List.getElem_cons_zero, List.getElem_cons_succ, Act.put, List.setIfInBounds_toArray, List.set_cons_zero, List.set_cons_succ]
      refine wpT_one (i := 6) (by kernel_rfl) rfl (fun K hK => ?_)
      go_simp
      refine (rints_st W a S HS c hcl0 hcl1 lbBases (by decide) labBases p xs rn rc HXL HOK _ (Lib.hid (HX.out.below (Below.refl _ _).drew))).mono ?_
      rintro e w6 ⟨rfl, hb6⟩
      obtain ⟨S', hS'⟩ : ∃ S', absL S (bys lbBases) xs = S' := ⟨_, rfl⟩
      have HS' : Hid (St32 S') := Lib.hid (by rw [← hS']; exact st_abs _ _ _)
      have HRR : Kp (chRows S' (rows.drop (k + 1)) = S3) := ⟨by rw [← hS']; exact HRN.1⟩
      rw [hS', HC2.out, show TrE S' c2 0 = .tuple #[.agg (tcs S' c2), .int .i64 0] from rfl]
      have HL6 := Lib.hid HS'.out.1
      have HT6 := Lib.hid (HTd.out.below hb6)
      have HW6 : Hid (w6.cell? ⟨w.heap.size + 1, 0, none⟩ = some (.slice Y yn yc) ∧ w6.cell? ⟨w.heap.size + 1, 1, none⟩ = some (.slice (some ⟨b, o, none⟩) bn bc) ∧ w6.cell? ⟨b, o + k, none⟩ = some (.slice p rn rc)) := Lib.hid ⟨cell_below hS0.2.1 hb6, cell_below hS0.2.2.1 hb6, cell_below hS0.2.2.2 hb6⟩
      replace hb6 := below_ext ((Below.refl wr.heap.size wr).drew) hb6
      clear hS'
      refine hK.out _ _ ?_ (fun hHeld => ?_)
      · exact ⟨HT6.out, HW6.out⟩
      clear hK K
      try simp only [List.getElem_toArray, List.getElem_cons_zero, List.getElem_cons_succ, Act.put, List.setIfInBounds_toArray, List.set_cons_zero, List.set_cons_succ]
      refine wpT_take (i := 7) (oi := _) (v := ?_) rfl (by kernel_rfl) (by kernel_rfl) (by kernel_rfl) (by kernel_rfl) (fun _ _ _ h => h) (Or.inl ⟨by rfl, ?_⟩) (by assumption) ?_
      rotate_left; (intro wS hSw; (try dsimp only at hSw); go_simp <;> with_reducible rfl)
      try simp only [List.getElem_toArray, List.getElem_cons_zero, List.getElem_cons_succ, Act.put, List.setIfInBounds_toArray, List.set_cons_zero, List.set_cons_succ]
      refine wpT_twoE (i1 := 8) (i2 := 9) (by kernel_rfl) (by simp) (by simp) rfl rfl (fun K hK => ?_) (fun K hK => ?_)
      · skip
        go_simp
        refine hK.out _ _ ?_
        clear hK K
        try simp only [List.getElem_toArray, List.getElem_cons_zero, List.getElem_cons_succ, Act.put, List.setIfInBounds_toArray, List.set_cons_zero, List.set_cons_succ]
        refine wpT_twoE (i1 := 9) (i2 := 10) (by kernel_rfl) (by simp) (by simp) rfl rfl (fun K hK => ?_) (fun K hK => ?_)
        · skip
          go_simp
          refine hK.out _ _ ?_
          clear hK K
          try simp only [List.getElem_toArray, List.getElem_cons_zero, List.getElem_cons_succ, Act.put, List.setIfInBounds_toArray, List.set_cons_zero, List.set_cons_succ]
          refine wpT_pass (i := 10) (by kernel_rfl) (by simp) rfl (fun K hK => ?_)
          rw [show (if Region.wanted _ _ = true then _ else _ : Prop) = _ from if_pos rfl]
          refine wp_store_row 87 _ _ rfl a (tcs S' c2) rfl rfl 87 _ HT6.out (tr_info HL6.out) (tcs_sz HL.out HL6.out) (tcs_one _ _) ?_
          refine hK.out _ _ ?_
          clear hK K
          try simp only [List.getElem_toArray, List.getElem_cons_zero, List.getElem_cons_succ, Act.put, List.setIfInBounds_toArray, List.set_cons_zero, List.set_cons_succ]
          refine wpT_done (by kernel_rfl) ?_ _
          have HI6 := Lib.hid (HI.out.step (h' := S') (c' := c2) hb6 hWa)
          obtain ⟨W6, hW6⟩ : ∃ u, w6.setRow a (tcs S' c2) = u := ⟨_, rfl⟩
          rw [hW6] at HI6 ⊢
          have HC3 : Hid (c2 = 2 + ((k + 1 : Nat) : Int)) := Lib.hid (by have := HC.out; have := HC2.out; omega)
          clear hb6 hW6 hS0 hi0 d0 d1 HT6 HRN
          go_wp2
          go_roundw
          case rel => exact ⟨k + 1, S', c2, by omega, by go_num, HC3, HS', HRR, HI6⟩
          case measure => simp [intOf]; omega
        · skip
          rw [show (if Region.wanted _ _ = true then _ else _ : Prop) = _ from if_pos rfl]
          refine wp_store_row 87 _ _ rfl a (tcs S' c2) rfl rfl 87 _ HT6.out (tr_info HL6.out) (tcs_sz HL.out HL6.out) (tcs_one _ _) ?_
          refine hK.out _ _ ?_
          clear hK K
          try simp only [List.getElem_toArray, List.getElem_cons_zero, List.getElem_cons_succ, Act.put, List.setIfInBounds_toArray, List.set_cons_zero, List.set_cons_succ]
          refine wpT_pass (i := 9) (by kernel_rfl) (by simp) rfl (fun K hK => ?_)
          go_simp
          refine hK.out _ _ ?_
          clear hK K
          try simp only [List.getElem_toArray, List.getElem_cons_zero, List.getElem_cons_succ, Act.put, List.setIfInBounds_toArray, List.set_cons_zero, List.set_cons_succ]
          refine wpT_done (by kernel_rfl) ?_ _
          have HI6 := Lib.hid (HI.out.step (h' := S') (c' := c2) hb6 hWa)
          obtain ⟨W6, hW6⟩ : ∃ u, w6.setRow a (tcs S' c2) = u := ⟨_, rfl⟩
          rw [hW6] at HI6 ⊢
          have HC3 : Hid (c2 = 2 + ((k + 1 : Nat) : Int)) := Lib.hid (by have := HC.out; have := HC2.out; omega)
          clear hb6 hW6 hS0 hi0 d0 d1 HT6 HRN
          go_wp2
          go_roundw
          case rel => exact ⟨k + 1, S', c2, by omega, by go_num, HC3, HS', HRR, HI6⟩
          case measure => simp [intOf]; omega
      · skip
        go_simp
        refine hK.out _ _ ?_
        clear hK K
        try simp only [List.getElem_toArray, List.getElem_cons_zero, List.getElem_cons_succ, Act.put, List.setIfInBounds_toArray, List.set_cons_zero, List.set_cons_succ]
        refine wpT_pass (i := 8) (by kernel_rfl) (by simp) rfl (fun K hK => ?_)
        go_simp
        refine hK.out _ _ ?_
        clear hK K
        try simp only [List.getElem_toArray, List.getElem_cons_zero, List.getElem_cons_succ, Act.put, List.setIfInBounds_toArray, List.set_cons_zero, List.set_cons_succ]
        refine wpT_pass (i := 10) (by kernel_rfl) (by simp) rfl (fun K hK => ?_)
        rw [show (if Region.wanted _ _ = true then _ else _ : Prop) = _ from if_pos rfl]
        refine wp_store_row 87 _ _ rfl a (tcs S' c2) rfl rfl 87 _ HT6.out (tr_info HL6.out) (tcs_sz HL.out HL6.out) (tcs_one _ _) ?_
        refine hK.out _ _ ?_
        clear hK K
        try simp only [List.getElem_toArray, List.getElem_cons_zero, List.getElem_cons_succ, Act.put, List.setIfInBounds_toArray, List.set_cons_zero, List.set_cons_succ]
        refine wpT_done (by kernel_rfl) ?_ _
        have HI6 := Lib.hid (HI.out.step (h' := S') (c' := c2) hb6 hWa)
        obtain ⟨W6, hW6⟩ : ∃ u, w6.setRow a (tcs S' c2) = u := ⟨_, rfl⟩
        rw [hW6] at HI6 ⊢
        have HC3 : Hid (c2 = 2 + ((k + 1 : Nat) : Int)) := Lib.hid (by have := HC.out; have := HC2.out; omega)
        clear hb6 hW6 hS0 hi0 d0 d1 HT6 HRN
        go_wp2
        go_roundw
        case rel => exact ⟨k + 1, S', c2, by omega, by go_num, HC3, HS', HRR, HI6⟩
        case measure => simp [intOf]; omega
    · obtain rfl : k = bn := by omega
      have hd : rows.drop k = [] := List.drop_of_length_le (by rw [hbn.out]; exact Nat.le_refl _)
      have HSE : Kp (S = S3) := ⟨by have h := HR.1; rwa [hd] at h⟩
      have HV4 : Kp (chN Q (absL S (bys lbCommit) al) (bys lbCh) = V) := ⟨by rw [HSE.1]; exact HV3.1⟩
      clear hd HR HSE HV3 hlt
      have HTk := Lib.hid HI.out.1
      go_wp2_with ((with_reducible show wpList _ _ _ (⟨some 53, _, _, _, _, _⟩ :: _) _ _); refine wpList_load_row rfl 87 _ rfl a rfl _ _ _ _ HTk.out Tryz.underlying87 rfl (tr_info HL.out) ?_)
      refine (rints_st W a S HS c hcl0 hcl1 lbCommit (by decide) labCommit A al na ca hna oka _ (Lib.hid (HAA.out.below HI.out.2))).mono ?_
      rintro e w6 ⟨rfl, hb6⟩
      obtain ⟨S4, hS4⟩ : ∃ S', absL S (bys lbCommit) al = S' := ⟨_, rfl⟩
      have HS4 : Hid (St32 S4) := Lib.hid (by rw [← hS4]; exact st_abs _ _ _)
      have HV5 : Kp (chN Q S4 (bys lbCh) = V) := ⟨by rw [← hS4]; exact HV4.1⟩
      rw [hS4, HC2.out, show TrE S4 c2 0 = .tuple #[.agg (tcs S4 c2), .int .i64 0] from rfl]
      have HL4 := Lib.hid HS4.out.1
      have HT6 := Lib.hid (HI.out.1.below hb6)
      have HI6 := Lib.hid (HI.out.step (h' := S4) (c' := c2) hb6 hWa)
      clear hb6 hS4 HV4 HI HTk d0 d1
      go_upto_region 9 with ((with_reducible show wpList _ _ _ (⟨none, _, _, _, _, _⟩ :: _) _ _); refine wpList_store_row rfl 87 _ _ rfl a (tcs S4 c2) rfl rfl _ _ HT6.out (tr_info HL4.out) (tcs_sz HL.out HL4.out) (tcs_one _ _) ?_)
      obtain ⟨W6, hW6⟩ : ∃ u, w6.setRow a (tcs S4 c2) = u := ⟨_, rfl⟩
      rw [hW6] at HI6 ⊢
      clear hW6 HT6
      obtain ⟨g0, g1, g2⟩ := HGX.out.below HI6.out.2
      have HT7 := Lib.hid HI6.out.1
      go_wp2_with ((with_reducible show wpList _ _ _ (⟨some 59, _, _, _, _, _⟩ :: _) _ _); refine wpList_load_row rfl 87 _ rfl a rfl _ _ _ _ HT7.out Tryz.underlying87 rfl (tr_info HL4.out) ?_)
      refine (rchal_ok S4 HL4 (Lib.hid HS4.out.2) c2 (by have := HC2.out; omega) (by have := HC.out; have := HC2.out; omega) lbCh (by decide) labCh Q hQ1 hQ2 _).mono ?_
      rintro e w7 ⟨rfl, hb7⟩
      obtain ⟨G4, hG4⟩ : ∃ G4, chL Q S4 (bys lbCh) = G4 := ⟨_, rfl⟩
      have HG4 : Hid (G4.length = 32) := Lib.hid (by rw [← hG4]; exact abL_len _ _ _)
      obtain ⟨c3, hc3⟩ : ∃ x, c2 + 1 = x := ⟨_, rfl⟩
      rw [hG4, HV5.1, hc3, show ChE G4 c3 V 0 = .tuple #[.agg (tcs G4 c3), .int .i64 V, .int .i64 0] from rfl]
      clear hc3
      have HB7 := Lib.hid (below_ext HBX.out (below_ext HI6.out.2 hb7))
      clear hb7 hG4 g0 g1 g2
      go_upto_region 10 with ((with_reducible show wpList _ _ _ (⟨none, _, _, _, _, _⟩ :: _) _ _); refine wpList_store_row rfl 87 _ _ rfl w7.heap.size (tcs G4 c3) rfl rfl _ _ (heap_alloc_new _ _) (tr_info HG4.out) (tcs_sz (h := zer 32) (c := 0) rfl HG4.out) (tcs_one _ _) ?_)
      rw [World.setRow_alloc_new]
      try simp only [Act.put]
      have hBF := below_ext HB7.out (below_box0 w7 (.cells (tcs G4 c3) 87))
      go_wp2
      go_ret
      exact ⟨rfl, hBF⟩
end Go.Proofs.YtcmidgdhihmppaaGreatDoor
namespace Go.Proofs.YtcmidgdhihmppaaGreatDoor
open Go.RowKit SpM
set_option linter.unusedVariables false
theorem modL (x y P : Int) : (x % P) * y % P = x * y % P := by rw [Int.mul_emod, Int.emod_emod, ← Int.mul_emod]
theorem modR (x y P : Int) : x * (y % P) % P = x * y % P := by rw [Int.mul_emod, Int.emod_emod, ← Int.mul_emod]
theorem rspL_get {Q c : Int} {ks xs : List Int} {n k : Nat} (h : k < n) : (rspL Q c ks xs n).getD k 0 = (ks.getD k 0 + c * xs.getD k 0 % Q) % Q := by
  rw [List.getD_eq_getElem?_getD, List.getElem?_eq_getElem (by rw [rspL_length]; exact h)]
  simp [rspL]
/-- one factor. -/
theorem zero_step {P Q n m k x a b : Int} (hP : 2 ≤ P) (hQ : 1 ≤ Q) (hn : 0 ≤ n) (hk : 0 ≤ k) (hx : 0 ≤ x) (hm : memG P Q m = true) :
    (a * pw b n P % P) * pw m ((k + n * x % Q) % Q) P % P = (a * pw m k P % P) * pw (b * pw m x P % P) n P % P := by
  have hmQ : pw m Q P = 1 := memG_pw hm
  have hnx : 0 ≤ n * x := Int.mul_nonneg hn hx
  have hr : 0 ≤ n * x % Q := Int.emod_nonneg _ (by omega)
  rw [← pw_mod hP hQ (by omega) hmQ, pw_add _ _ _ _ hk hr, ← pw_mod hP hQ hnx hmQ, pw_mulb, pw_pw _ _ _ _ hx hn, Int.mul_comm x n]
  rw [modL, modL, modR, modR]
  congr 1
  ac_rfl
theorem zero_prod {P Q n : Int} {row ks xs : List Int} {m : Nat} (hP : 2 ≤ P) (hQ : 1 ≤ Q) (hn : 0 ≤ n) (hl : row.length = m) (lk : ks.length = m) (lx : xs.length = m)
    (hm : row.all (memG P Q) = true) (hk : ks.all (scB Q) = true) (hx : xs.all (scB Q) = true) :
    ∀ (d k : Nat) (a b : Int), m - k = d → k ≤ m → prodF P (a * pw b n P % P) (row.drop k) ((rspL Q n ks xs m).drop k) = prodF P a (row.drop k) (ks.drop k) * pw (prodF P b (row.drop k) (xs.drop k)) n P % P := by
  intro d
  induction d with
  | zero =>
    intro k a b hd hkm
    have e : row.drop k = [] := List.drop_eq_nil_of_le (by omega)
    rw [e, prodF, prodF, prodF] <;> simp
  | succ d ih =>
    intro k a b hd hkm
    have h1 : k < row.length := by omega
    rw [prodF_step h1 (by rw [rspL_length]; omega), prodF_step (acc := a) h1 (by omega), prodF_step (acc := b) h1 (by omega), rspL_get (by omega),
      zero_step hP hQ hn (scB_lo (all_get hk (by omega))) (scB_lo (all_get hx (by omega))) (all_get hm h1)]
    exact ih (k + 1) _ _ (by omega) (by omega)
theorem pw_undo {P Q y n : Int} (hP : 2 ≤ P) (hQ : 1 ≤ Q) (hn0 : 0 ≤ n) (hn1 : n < Q) (hy : memG P Q y = true) : pw y n P * pw y ((Q - n) % Q) P % P = 1 := by
  have hyQ : pw y Q P = 1 := memG_pw hy
  rw [← pw_mod hP hQ (by omega) hyQ, ← pw_add _ _ _ _ hn0 (by omega)]
  have e : n + (Q - n) = Q := by omega
  rw [e, hyQ]
/-- what is simulated for the responses is what was committed to. -/
theorem zero_sim {P Q G n : Int} {ys : List Int} {rows : List Row} {ks xs : List Int} {m : Nat} (hv : validR P Q G ys rows = true) (hrm : rowN rows = m) (hn0 : 0 ≤ n) (hn1 : n < Q) (lk : ks.length = m) (lx : xs.length = m)
    (hk : ks.all (scB Q) = true) (hx : xs.all (scB Q) = true) (hh : ((rows.map fun r => prodF P 1 r.xs xs) == ys) = true) (hok : ∀ i, i < rows.length → (rows.getD i noRow).xs.length = (rows.getD i noRow).n) :
    simR P Q n ys rows (rspL Q n ks xs m) = rows.map fun r => prodF P 1 r.xs ks := by
  obtain ⟨v1, v2, v3, v4, v5, v6, v7, v8⟩ := validR_parts hv
  obtain ⟨hp2, hp, hq3, hqp⟩ := validG_P v1
  have hys : (rows.map fun r => prodF P 1 r.xs xs) = ys := by simpa using hh
  apply List.ext_getElem (by rw [simR_length, List.length_map])
  intro i h1 h2
  rw [simR_length] at h1
  have e1 := simR_get (P := P) (Q := Q) (c := n) (ys := ys) (rows := rows) (zs := rspL Q n ks xs m) h1
  rw [List.getD_eq_getElem?_getD, List.getElem?_eq_getElem (by rw [simR_length]; exact h1)] at e1
  have e2 := map_getD (f := fun r => prodF P 1 r.xs ks) h1
  rw [List.getD_eq_getElem?_getD, List.getElem?_eq_getElem h2] at e2
  simp only [Option.getD_some] at e1 e2
  rw [e1, e2]
  have hy := map_getD (f := fun r => prodF P 1 r.xs xs) h1
  rw [hys] at hy
  have hrb := rowAll_get v8 h1
  have hlen := hok i h1
  simp only [rowB, Bool.and_eq_true, decide_eq_true_eq] at hrb
  have hmy := all_get v5 (show i < ys.length by omega)
  unfold simF
  rw [hy] at hmy ⊢
  have hz := zero_prod (row := (rows.getD i noRow).xs) (n := n) hp2 (by omega) hn0 (by omega) lk lx hrb.2 hk hx m 0 1 1 (by omega) (by omega)
  rw [List.drop_zero, List.drop_zero, List.drop_zero, List.drop_zero, pw_one _ _ hp2] at hz
  have e3 : (1 * 1 % P : Int) = 1 := Int.emod_eq_of_lt (by omega) (by omega)
  rw [e3] at hz
  rw [hz, modL, Int.mul_assoc, ← modR, pw_undo hp2 (by omega) hn0 hn1 hmy, Int.mul_one]
  obtain ⟨q0, q1⟩ := prodF_in hp2 (rows.getD i noRow).xs ks 1 (by omega) (by omega)
  exact Int.emod_eq_of_lt q0 q1
end Go.Proofs.YtcmidgdhihmppaaGreatDoor
namespace Go.Proofs.YtcmidgdhihmppaaGreatDoor
open Go.RowKit SpM
set_option linter.unusedVariables false
set_option linter.unusedSimpArgs false
set_option maxRecDepth 100000
/-- the number of some bytes, as the program joins them. -/
def fstep (v x : Int) : Int := bits BinOp.or IntKind.u64 (IntKind.u64.wrap (v * 256)) (IntKind.u64.wrap x)
def fstN (l : List Int) : Int := l.foldl fstep 0
def fst8 (h : List Int) : Int := fstN (h.take 8)
theorem fstN_step {h : List Int} {k : Nat} (hk : k < h.length) : fstN (h.take (k + 1)) = fstep (fstN (h.take k)) (h.getD k 0) := by
  rw [take_one hk, fstN, List.foldl_append]; rfl
set_option maxHeartbeats 3200000 in
theorem dfirst_any (h : List Int) (hl : Hid (h.length = 32)) (hb : Hid (bytesB h = true)) (w : World) :
    Calls Tryz.prog 128 #[.agg (arr .u8 h)] w fun e w' => e = .returned (.int .u64 (fst8 h)) ∧ Below w.heap.size w w' := by
  have HT0 : Hid (Blk .u8 37 (w.alloc (.cells (arr .u8 h) 37)) w.heap.size h) := Lib.hid (Blk.new _ _)
  have hb0 := below_box0 w (.cells (arr .u8 h) 37)
  obtain ⟨W, hW⟩ : ∃ W, w.alloc (.cells (arr .u8 h) 37) = W := ⟨_, rfl⟩
  rw [hW] at HT0 hb0
  have HB0 := Lib.hid hb0
  have HW := Lib.hid hW
  clear hW hb0
  go_enter Tryz.func128, Tryz.ntmps128
  go_wp2_with fail
  rw [HW.out]
  clear HW
  go_loopw [3, 8] (fun x i u => ∃ k : Nat, k ≤ 8 ∧ i = .int .i64 k ∧ x = .int .u64 (fstN (h.take k)) ∧ u = W) (fun _ i _ => 8 - (intOf i).toNat)
  case atStart => exact ⟨0, by omega, rfl, rfl, rfl⟩
  case round =>
    obtain ⟨k, hk, rfl, rfl, rfl⟩ := hrel
    by_cases hlt : k < 8
    · have hkl : k < h.length := by rw [hl.out]; omega
      have hc := HT0.out.cell hkl
      obtain ⟨x, hx⟩ : ∃ x, h.getD k 0 = x := ⟨_, rfl⟩
      rw [hx] at hc
      obtain ⟨v, hv⟩ : ∃ v, fstN (h.take k) = v := ⟨_, rfl⟩
      have HST : Hid (fstN (h.take (k + 1)) = fstep v x) := Lib.hid (by rw [fstN_step hkl, hx, hv])
      rw [hv]
      clear hx hv hkl
      go_wp2
      go_roundw
      case rel => exact ⟨k + 1, by omega, by go_num, by rw [HST.out]; rfl, trivial⟩
      case measure => simp [intOf]; omega
    · obtain rfl : k = 8 := by omega
      clear hlt
      obtain ⟨v, hv⟩ : ∃ v, fstN (h.take 8) = v := ⟨_, rfl⟩
      have HV : Hid (fst8 h = v) := Lib.hid hv
      rw [hv]
      clear hv
      go_wp2
      go_ret
      exact ⟨by rw [HV.out]; rfl, HB0.out⟩
end Go.Proofs.YtcmidgdhihmppaaGreatDoor
namespace Go.Proofs.YtcmidgdhihmppaaGreatDoor
open Go.RowKit SpM
set_option linter.unusedVariables false
set_option linter.unusedSimpArgs false
set_option maxRecDepth 100000
/-- the cells of a source of draws. -/
def scs (h : List Int) (c : Int) (f : Bool) : Array Value := arr .u8 h ++ #[.int .i64 c, .bool f]
def SBlk (w : World) (b : Nat) (h : List Int) (c : Int) (f : Bool) : Prop := w.heap[b]? = some (.cells (scs h c f) 118 (0, 0))
variable {w : World} {b : Nat} {h : List Int} {c : Int} {f : Bool}
theorem SBlk.lt (hh : SBlk w b h c f) : b < w.heap.size := (Array.getElem?_eq_some_iff.1 hh).1
theorem SBlk.below {w' : World} (hh : SBlk w b h c f) (hb : Below w.heap.size w w') : SBlk w' b h c f := (hb.block b hh.lt).trans hh
theorem scs_at32 (hl : h.length = 32) : (scs h c f)[32]? = some (.int .i64 c) := by
  rw [scs, Array.getElem?_append_right (by rw [arr_size, hl]; exact Nat.le_refl _), arr_size, hl]; rfl
theorem scs_at33 (hl : h.length = 32) : (scs h c f)[33]? = some (.bool f) := by
  rw [scs, Array.getElem?_append_right (by rw [arr_size, hl]; decide), arr_size, hl]; rfl
theorem SBlk.count (hh : SBlk w b h c f) (hl : h.length = 32) : Own w ⟨b, 32, none⟩ (.int .i64 c) := ⟨(cell_blk hh 32).trans (scs_at32 hl), frozen_blk hh 32⟩
theorem SBlk.full (hh : SBlk w b h c f) (hl : h.length = 32) : Own w ⟨b, 33, none⟩ (.bool f) := ⟨(cell_blk hh 33).trans (scs_at33 hl), frozen_blk hh 33⟩
theorem scs_set32 (hl : h.length = 32) (x : Int) : (scs h c f).setIfInBounds 32 (.int .i64 x) = scs h x f := by
  apply Array.ext'
  simp [scs, arr, List.set_append, hl]
theorem scs_set33 (hl : h.length = 32) (x : Bool) : (scs h c f).setIfInBounds 33 (.bool x) = scs h c x := by
  apply Array.ext'
  simp [scs, arr, List.set_append, hl]
theorem SBlk.set32 (hh : SBlk w b h c f) (hl : h.length = 32) (x : Int) : SBlk (w.setCell ⟨b, 32, none⟩ (.int .i64 x)) b h x f := by
  unfold SBlk
  rw [heap_setCell_same w b 32 _ _ _ hh, scs_set32 hl]
theorem SBlk.set33 (hh : SBlk w b h c f) (hl : h.length = 32) (x : Bool) : SBlk (w.setCell ⟨b, 33, none⟩ (.bool x)) b h c x := by
  unfold SBlk
  rw [heap_setCell_same w b 33 _ _ _ hh, scs_set33 hl]
theorem SBlk.range (hh : SBlk w b h c f) (hl : h.length = 32) : w.rangeAt b 0 (tcs h c).toList := fun j v hj => by
  have hlt : j < 33 := by
    have h2 := (List.getElem?_eq_some_iff.1 hj).1
    rw [Array.length_toList, tcs_size hl] at h2
    exact h2
  rw [Nat.zero_add, cell_blk hh, ← hj, Array.getElem?_toList]
  by_cases h3 : j < 32
  · rw [scs, tcs, Array.getElem?_append_left (by rw [arr_size, hl]; exact h3), Array.getElem?_append_left (by rw [arr_size, hl]; exact h3)]
  · obtain rfl : j = 32 := by omega
    rw [scs_at32 hl, tcs, Array.getElem?_append_right (by rw [arr_size, hl]; exact Nat.le_refl _), arr_size, hl]
    rfl
theorem drl_info (hl : h.length = 32) : (Tryz.prog.info? 39).map (·.size) = some (tcs h c).toList.length := (dr_info (c := c) hl).trans (by simp)
theorem gb_below {w w' : World} (h : Below w.heap.size w w') (r : Option Nat) : w.grownBy w' r := ⟨h.os, h.tape, h.output, h.size, fun k hk _ => h.block k hk⟩
theorem gb_trans {w w1 w2 : World} {r : Option Nat} (h1 : w.grownBy w1 r) (h2 : w1.grownBy w2 r) : w.grownBy w2 r :=
  ⟨h2.os.trans h1.os, h2.tape.trans h1.tape, h2.output.trans h1.output, Nat.le_trans h1.size h2.size, fun k hk hne => (h2.block k (Nat.lt_of_lt_of_le hk h1.size) hne).trans (h1.block k hk hne)⟩
theorem gb_setCell {w : World} (b j : Nat) (v : Value) : w.grownBy (w.setCell ⟨b, j, none⟩ v) (some b) := grown_set2 w b j v
theorem gb_toBelow {w w' : World} {b B : Nat} (h : w.grownBy w' (some b)) (hB : B ≤ b) (hs : B ≤ w.heap.size) : Below B w w' := (Below.refl B w).grown h hs (fun j hj => by cases hj; exact hB)
/-- changes of the call's own new block are none of the old world's. -/
theorem gb_setRow_new {w w1 : World} {r : Option Nat} (h : w.grownBy w1 r) (a : Nat) (ha : w.heap.size ≤ a) (cs : Array Value) : w.grownBy (w1.setRow a cs) r :=
  ⟨h.os, h.tape, h.output, by rw [setRow_size]; exact h.size, fun k hk hne => (setRow_other w1 a k cs (by omega)).trans (h.block k hk hne)⟩
theorem gb_alloc_new {w w1 : World} {r : Option Nat} (h : w.grownBy w1 r) (o : Obj) : w.grownBy (w1.alloc o) r := gb_trans h (gb_below (below_box0 _ _) r)
/-- the hash of a block of draws. -/
def blkL (h : List Int) (c : Int) : List Int := sha (h ++ be8 c)
theorem blkL_len (h : List Int) (c : Int) : (blkL h c).length = 32 := sha_len _
theorem blkL_bytes (h : List Int) (c : Int) : bytesB (blkL h c) = true := sha_bytes _
set_option maxHeartbeats 3200000 in
theorem dblock_full (h : List Int) (hl : Hid (h.length = 32)) (b : Nat) (f0 : Bool) (w : World) (hS : Hid (SBlk w b h 1099511627776 f0)) :
    Calls Tryz.prog 127 #[.pointer (some ⟨b, 0, none⟩)] w fun e w' => e = .returned (.agg (arr .u8 (zer 32))) ∧ SBlk w' b h 1099511627776 true ∧ w.grownBy w' (some b) := by
  obtain ⟨W, hW⟩ : ∃ W, w.alloc (.cells #[.int .u8 0, .int .u8 0, .int .u8 0, .int .u8 0, .int .u8 0, .int .u8 0, .int .u8 0, .int .u8 0, .int .u8 0, .int .u8 0, .int .u8 0, .int .u8 0, .int .u8 0, .int .u8 0, .int .u8 0, .int .u8 0, .int .u8 0, .int .u8 0, .int .u8 0, .int .u8 0, .int .u8 0, .int .u8 0, .int .u8 0, .int .u8 0, .int .u8 0, .int .u8 0, .int .u8 0, .int .u8 0, .int .u8 0, .int .u8 0, .int .u8 0, .int .u8 0] 37) = W := ⟨_, rfl⟩
  have HBX : Hid (Below w.heap.size w W) := Lib.hid (by rw [← hW]; exact below_box0 _ _)
  have HR0 : Hid (Blk .u8 37 W w.heap.size (zer 32)) := Lib.hid (by rw [← hW, zarrh]; exact heap_alloc_new _ _)
  have HS := Lib.hid (hS.out.below HBX.out)
  have HLT : Hid (b < w.heap.size) := Lib.hid hS.out.lt
  have HW := Lib.hid hW
  clear hW
  obtain ⟨c1, c2⟩ := HS.out.count hl.out
  obtain ⟨f1, f2⟩ := HS.out.full hl.out
  have HS2 := Lib.hid (HS.out.set33 hl.out true)
  have HR2 : Hid (Blk .u8 37 (W.setCell ⟨b, 33, none⟩ (.bool true)) w.heap.size (zer 32)) := Lib.hid (HR0.out.set_ne (by have := HLT.out; omega))
  go_enter Tryz.func127, Tryz.ntmps127
  go_upto_region 1 with (fail)
  rw [HW.out]
  clear HW
  go_wp2_with ((with_reducible show wpList _ _ _ (⟨none, _, _, _, _, _⟩ :: _) _ _); refine wpList_store_row rfl 37 _ _ rfl w.heap.size (arr .u8 (zer 32)) rfl rfl _ _ HR2.out (hash_info rfl) (arrs_sz (l := zer 32) rfl rfl) (arr_one _) ?_)
  have HRR : Hid (Blk .u8 37 ((W.setCell ⟨b, 33, none⟩ (.bool true)).setRow w.heap.size (arr .u8 (zer 32))) w.heap.size (zer 32)) := Lib.hid HR2.out.setRow
  have hSF : SBlk ((W.setCell ⟨b, 33, none⟩ (.bool true)).setRow w.heap.size (arr .u8 (zer 32))) b h 1099511627776 true := (setRow_other _ _ b _ (by have := HLT.out; omega)).trans HS2.out
  have hGF : w.grownBy ((W.setCell ⟨b, 33, none⟩ (.bool true)).setRow w.heap.size (arr .u8 (zer 32))) (some b) := gb_setRow_new (gb_trans (gb_below HBX.out _) (gb_setCell b 33 _)) _ (Nat.le_refl _) _
  exact bodyPost_ret (v := .agg (arr .u8 (zer 32))) (results_cell1 (p := 2) (ty := 37) rfl _ _ ⟨w.heap.size, 0, none⟩ _ rfl (run_loadVar_row _ _ _ _ _ _ _ HRR.out Tryz.underlying37 rfl (hash_info rfl))) rfl ⟨rfl, hSF, hGF⟩
set_option maxHeartbeats 6400000 in
theorem dblock_ok (h : List Int) (hl : Hid (h.length = 32)) (hb : Hid (bytesB h = true)) (c : Int) (hc0 : 0 ≤ c) (hc1 : c < 1099511627776) (b : Nat) (w : World) (hv : Hid (VarsD w)) (hS : Hid (SBlk w b h c false)) :
    Calls Tryz.prog 127 #[.pointer (some ⟨b, 0, none⟩)] w fun e w' => e = .returned (.agg (arr .u8 (blkL h c))) ∧ SBlk w' b h (c + 1) false ∧ w.grownBy w' (some b) := by
  obtain ⟨W, hW⟩ : ∃ W, w.alloc (.cells #[.int .u8 0, .int .u8 0, .int .u8 0, .int .u8 0, .int .u8 0, .int .u8 0, .int .u8 0, .int .u8 0, .int .u8 0, .int .u8 0, .int .u8 0, .int .u8 0, .int .u8 0, .int .u8 0, .int .u8 0, .int .u8 0, .int .u8 0, .int .u8 0, .int .u8 0, .int .u8 0, .int .u8 0, .int .u8 0, .int .u8 0, .int .u8 0, .int .u8 0, .int .u8 0, .int .u8 0, .int .u8 0, .int .u8 0, .int .u8 0, .int .u8 0, .int .u8 0] 37) = W := ⟨_, rfl⟩
  have HBX : Hid (Below w.heap.size w W) := Lib.hid (by rw [← hW]; exact below_box0 _ _)
  have HR0 : Hid (Blk .u8 37 W w.heap.size (zer 32)) := Lib.hid (by rw [← hW, zarrh]; exact heap_alloc_new _ _)
  have HS := Lib.hid (hS.out.below HBX.out)
  have HV := Lib.hid (hv.out.below HBX.out)
  have HLT : Hid (b < w.heap.size) := Lib.hid hS.out.lt
  have HW := Lib.hid hW
  have hcn : ¬ (c = 1099511627776) := by omega
  have hwr : IntKind.i64.wrap (c + 1) = c + 1 := IntWalk.i64_in _ (by omega)
  clear hW
  obtain ⟨c1, c2⟩ := HS.out.count hl.out
  go_enter Tryz.func127, Tryz.ntmps127
  go_upto_region 1 with (fail)
  rw [HW.out]
  clear HW
  go_wp2_with ((with_reducible show wpList _ _ _ (⟨some 17, _, _, _, _, _⟩ :: _) _ _); refine wpList_load_mid rfl 39 _ rfl b 0 rfl (tcs h c).toList _ (HS.out.range hl.out) Tryz.underlying39 rfl (drl_info hl.out) ?_)
  clear c1 c2
  refine (dposition_any h hl c hc0 (by omega) _).mono ?_
  rintro e w1 ⟨v1, rfl, ho1, hb1⟩
  have HS1 := Lib.hid (HS.out.below hb1)
  have HR1 := Lib.hid (HR0.out.below hb1)
  have HV1 := Lib.hid (HV.out.below hb1)
  have HB1 := Lib.hid (below_ext HBX.out hb1)
  obtain ⟨E, hE⟩ : ∃ E, h ++ be8 c = E := ⟨_, rfl⟩
  have HEL : Hid (E.length = 40) := Lib.hid (by rw [← hE, List.length_append, hl.out, be8_len])
  have HEB : Hid (bytesB E = true) := Lib.hid (by rw [← hE, bytesB_app, hb.out, be8_bytes]; rfl)
  rw [hE] at ho1
  obtain ⟨g1, cap1, e1, hg1, -, -, hsk1⟩ := ho1.cells (by rw [HEL.out]; decide)
  rw [HEL.out] at e1
  subst e1
  have HSK := Lib.hid hsk1
  have HBE : Kp (blkL h c = sha E) := ⟨by rw [blkL, hE]⟩
  clear hb1 ho1 hE hsk1 hg1
  go_wp2_with fail
  refine (sum_any g1 0 cap1 E 40 HEL (by omega) HEB _ HSK HV1).mono ?_
  rintro e w2 ⟨rfl, hb2⟩
  obtain ⟨R, hR⟩ : ∃ R, sha E = R := ⟨_, rfl⟩
  have HRL : Hid (R.length = 32) := Lib.hid (by rw [← hR]; exact sha_len _)
  have HNR : Kp (blkL h c = R) := ⟨by rw [HBE.1, hR]⟩
  rw [hR]
  have HS2 := Lib.hid (HS1.out.below hb2)
  have HR2 := Lib.hid (HR1.out.below hb2)
  have HB2 := Lib.hid (below_ext HB1.out hb2)
  clear hb2 hR HSK
  go_upto_region 5 with ((with_reducible show wpList _ _ _ (⟨none, _, _, _, _, _⟩ :: _) _ _); refine wpList_store_row rfl 37 _ _ rfl w2.heap.size (arr .u8 R) rfl rfl _ _ (heap_alloc_new _ _) (hash_info HRL.out) (arrs_sz (l := zer 32) rfl HRL.out) (arr_one _) ?_)
  rw [World.setRow_alloc_new]
  try simp only [Act.put]
  have HK3 : Hid (Blk .u8 37 (w2.alloc (.cells (arr .u8 R) 37)) w2.heap.size R) := Lib.hid (Blk.new _ _)
  have HS3 := Lib.hid (HS2.out.below (below_box0 w2 (.cells (arr .u8 R) 37)))
  have HR3 := Lib.hid (HR2.out.below (below_box0 w2 (.cells (arr .u8 R) 37)))
  have HB3 := Lib.hid (below_ext HB2.out (below_box0 w2 (.cells (arr .u8 R) 37)))
  have HLT2 : Hid (b < w2.heap.size) := Lib.hid HS2.out.lt
  obtain ⟨W3, hW3⟩ : ∃ u, w2.alloc (.cells (arr .u8 R) 37) = u := ⟨_, rfl⟩
  rw [hW3] at HK3 HS3 HR3 HB3 ⊢
  clear hW3 HS2 HR2 HB2
  obtain ⟨c1, c2⟩ := HS3.out.count hl.out
  have HS4 := Lib.hid (HS3.out.set32 hl.out (c + 1))
  have HR4 : Hid (Blk .u8 37 (W3.setCell ⟨b, 32, none⟩ (.int .i64 (c + 1))) w.heap.size (zer 32)) := Lib.hid (HR3.out.set_ne (by have := HLT.out; omega))
  have HK4 : Hid (Blk .u8 37 (W3.setCell ⟨b, 32, none⟩ (.int .i64 (c + 1))) w2.heap.size R) := Lib.hid (HK3.out.set_ne (by have := HLT2.out; omega))
  go_wp2_with (first
    | ((with_reducible show wpList _ _ _ (⟨some 29, _, _, _, _, _⟩ :: _) _ _); refine wpList_load_row rfl 37 _ rfl w2.heap.size rfl _ _ _ _ HK4.out Tryz.underlying37 rfl (hash_info HRL.out) ?_)
    | ((with_reducible show wpList _ _ _ (⟨none, 28, _, _, _, _⟩ :: _) _ _); fail)
    | (refine wpList_store_row rfl 37 _ _ rfl w.heap.size (arr .u8 R) rfl rfl _ _ HR4.out (hash_info HRL.out) (arrs_sz (l := zer 32) rfl HRL.out) (arr_one _) ?_))
  have HRR : Hid (Blk .u8 37 ((W3.setCell ⟨b, 32, none⟩ (.int .i64 (c + 1))).setRow w.heap.size (arr .u8 R)) w.heap.size R) := Lib.hid HR4.out.setRow
  have hSF : SBlk ((W3.setCell ⟨b, 32, none⟩ (.int .i64 (c + 1))).setRow w.heap.size (arr .u8 R)) b h (c + 1) false := (setRow_other _ _ b _ (by have := HLT.out; omega)).trans HS4.out
  have hGF : w.grownBy ((W3.setCell ⟨b, 32, none⟩ (.int .i64 (c + 1))).setRow w.heap.size (arr .u8 R)) (some b) := gb_setRow_new (gb_trans (gb_below HB3.out _) (gb_setCell b 32 _)) _ (Nat.le_refl _) _
  exact bodyPost_ret (v := .agg (arr .u8 R)) (results_cell1 (p := 2) (ty := 37) rfl _ _ ⟨w.heap.size, 0, none⟩ _ rfl (run_loadVar_row _ _ _ _ _ _ _ HRR.out Tryz.underlying37 rfl (hash_info HRL.out))) rfl ⟨by rw [HNR.1], hSF, hGF⟩
theorem builtD : Tryz.prog.built 39 [] = some (tcs (zer 32) 0) := by kernel_rfl
/-- a draw and an error. -/
def DrE (h : List Int) (c e : Int) : Value := .tuple #[.agg (tcs h c), .int .i64 e]
set_option maxHeartbeats 3200000 in
theorem dresult_any (h : List Int) (hl : Hid (h.length = 32)) (c : Int) (f : Bool) (b : Nat) (w : World) (hS : Hid (SBlk w b h c f)) :
    Calls Tryz.prog 94 #[.pointer (some ⟨b, 0, none⟩)] w fun e w' => e = .returned (if f = true then DrE (zer 32) 0 5 else DrE h c 0) ∧ Below w.heap.size w w' := by
  obtain ⟨W, hW⟩ : ∃ W, w.alloc (.cells #[.int .u8 0, .int .u8 0, .int .u8 0, .int .u8 0, .int .u8 0, .int .u8 0, .int .u8 0, .int .u8 0, .int .u8 0, .int .u8 0, .int .u8 0, .int .u8 0, .int .u8 0, .int .u8 0, .int .u8 0, .int .u8 0, .int .u8 0, .int .u8 0, .int .u8 0, .int .u8 0, .int .u8 0, .int .u8 0, .int .u8 0, .int .u8 0, .int .u8 0, .int .u8 0, .int .u8 0, .int .u8 0, .int .u8 0, .int .u8 0, .int .u8 0, .int .u8 0, .int .i64 0] 39) = W := ⟨_, rfl⟩
  have HBX : Hid (Below w.heap.size w W) := Lib.hid (by rw [← hW]; exact below_box0 _ _)
  have HR0 : Hid (DBlk W w.heap.size (zer 32) 0) := Lib.hid (by rw [← hW, ztr]; exact heap_alloc_new _ _)
  have HS := Lib.hid (hS.out.below HBX.out)
  have HW := Lib.hid hW
  clear hW
  obtain ⟨f1, f2⟩ := HS.out.full hl.out
  cases f with
  | true =>
    rw [if_pos rfl]
    go_enter Tryz.func94, Tryz.ntmps94
    go_upto_region 1 with (fail)
    rw [HW.out]
    clear HW
    go_wp2_with (first
      | ((with_reducible show wpList _ _ _ (⟨some 8, _, _, _, _, _⟩ :: _) _ _); refine wpList_built rfl 39 _ rfl _ builtD ?_)
      | ((with_reducible show wpList _ _ _ (⟨none, _, _, _, _, _⟩ :: _) _ _); refine wpList_store_row rfl 39 _ _ rfl w.heap.size (tcs (zer 32) 0) rfl rfl _ _ HR0.out (dr_info rfl) rfl (tcs_one _ _) ?_))
    have HRR : Hid (DBlk (W.setRow w.heap.size (tcs (zer 32) 0)) w.heap.size (zer 32) 0) := Lib.hid HR0.out.setRow
    exact bodyPost_ret (v := DrE (zer 32) 0 5) (results_cell_tmp2 (p := 2) (q := 3) (ty := 39) rfl _ _ ⟨w.heap.size, 0, none⟩ _ _ rfl rfl (run_loadVar_row _ _ _ _ _ _ _ HRR.out Tryz.underlying39 rfl (dr_info rfl))) rfl ⟨rfl, below_setRow' HBX.out (Nat.le_refl _)⟩
  | false =>
    rw [if_neg (by decide)]
    go_enter Tryz.func94, Tryz.ntmps94
    go_upto_region 1 with (fail)
    rw [HW.out]
    clear HW
    go_wp2_with (first
      | ((with_reducible show wpList _ _ _ (⟨some 12, _, _, _, _, _⟩ :: _) _ _); refine wpList_load_mid rfl 39 _ rfl b 0 rfl (tcs h c).toList _ (HS.out.range hl.out) Tryz.underlying39 rfl (drl_info hl.out) ?_)
      | ((with_reducible show wpList _ _ _ (⟨none, _, _, _, _, _⟩ :: _) _ _); refine wpList_store_row rfl 39 _ _ rfl w.heap.size (tcs h c) rfl rfl _ _ HR0.out (dr_info hl.out) (tcs_sz rfl hl.out) (tcs_one _ _) ?_))
    have HRR : Hid (DBlk (W.setRow w.heap.size (tcs h c)) w.heap.size h c) := Lib.hid HR0.out.setRow
    exact bodyPost_ret (v := DrE h c 0) (results_cell_tmp2 (p := 2) (q := 3) (ty := 39) rfl _ _ ⟨w.heap.size, 0, none⟩ _ _ rfl rfl (run_loadVar_row _ _ _ _ _ _ _ HRR.out Tryz.underlying39 rfl (dr_info hl.out))) rfl ⟨rfl, below_setRow' HBX.out (Nat.le_refl _)⟩
end Go.Proofs.YtcmidgdhihmppaaGreatDoor
namespace Go.Proofs.YtcmidgdhihmppaaGreatDoor
open Go.RowKit SpM
set_option linter.unusedVariables false
set_option linter.unusedSimpArgs false
set_option maxRecDepth 100000
/-- the mask of a bound. -/
def maskD (q : Int) : Int := IntKind.u64.wrap (IntKind.u64.wrap (2 ^ min (Lib.bitLen (q - 1).toNat) 64) - 1)
/-- the number that a source yields: the number, the counter, and whether the source is used up. -/
def numD (h : List Int) (q m : Int) : Nat → Int → Int → Int × Int × Bool
  | 0, c, x => (x.tmod q, c, false)
  | k + 1, c, x => if c = 1099511627776 then (0, c, true) else if bits BinOp.and IntKind.u64 (fst8 (blkL h c)) m < q then (bits BinOp.and IntKind.u64 (fst8 (blkL h c)) m, c + 1, false) else numD h q m k (c + 1) (bits BinOp.and IntKind.u64 (fst8 (blkL h c)) m)
theorem numD_lo {h : List Int} {q m : Int} (hq : 1 ≤ q) : ∀ (k : Nat) (c x : Int), 0 ≤ x → 0 ≤ (numD h q m k c x).1 ∧ (numD h q m k c x).1 < q
  | 0, c, x, hx => by
    simp only [numD]
    rw [Int.tmod_eq_emod_of_nonneg hx]
    exact ⟨Int.emod_nonneg _ (by omega), Int.emod_lt_of_pos _ (by omega)⟩
  | k + 1, c, x, hx => by
    have hb := bits_lo_u64 BinOp.and (fst8 (blkL h c)) m
    simp only [numD]
    by_cases hc : c = 1099511627776
    · rw [if_pos hc]; exact ⟨Int.le_refl _, by show (0 : Int) < q; omega⟩
    · rw [if_neg hc]
      by_cases hy : bits BinOp.and IntKind.u64 (fst8 (blkL h c)) m < q
      · rw [if_pos hy]; exact ⟨hb, hy⟩
      · rw [if_neg hy]; exact numD_lo hq k _ _ hb
theorem numD_cnt {h : List Int} {q m : Int} : ∀ (k : Nat) (c x : Int), c ≤ 1099511627776 → c ≤ (numD h q m k c x).2.1 ∧ (numD h q m k c x).2.1 ≤ 1099511627776
  | 0, c, x, hc => ⟨Int.le_refl _, hc⟩
  | k + 1, c, x, hc => by
    simp only [numD]
    by_cases he : c = 1099511627776
    · rw [if_pos he]; exact ⟨Int.le_refl _, hc⟩
    · rw [if_neg he]
      by_cases hy : bits BinOp.and IntKind.u64 (fst8 (blkL h c)) m < q
      · rw [if_pos hy]; exact ⟨by show c ≤ c + 1; omega, by show c + 1 ≤ 1099511627776; omega⟩
      · rw [if_neg hy]
        have h2 := numD_cnt (h := h) (q := q) (m := m) k (c + 1) (bits BinOp.and IntKind.u64 (fst8 (blkL h c)) m) (by omega)
        exact ⟨by omega, h2.2⟩
set_option maxHeartbeats 6400000 in
theorem dnumber_any (h : List Int) (hl : Hid (h.length = 32)) (hb : Hid (bytesB h = true)) (q : Int) (hq1 : 1 ≤ q) (hq2 : q < 2305843009213693952) (c : Int) (hc0 : 0 ≤ c) (hc1 : c ≤ 1099511627776) (b : Nat) (w0 : World) (hv : Hid (VarsD w0)) (w : World) (hB0 : Hid (Below w0.heap.size w0 w)) (hB : w0.heap.size ≤ b) (f0 : Bool) (hf0 : f0 = true → c = 1099511627776) (hS : Hid (SBlk w b h c f0)) (n c2 : Int) (f : Bool) (hN : Kp (numD h q (maskD q) 256 c 0 = (n, c2, f))) :
    Calls Tryz.prog 93 #[.pointer (some ⟨b, 0, none⟩), .int .i64 q] w fun e w' => e = .returned (.int .i64 n) ∧ SBlk w' b h c2 f ∧ w.grownBy w' (some b) := by
  have q0 : IntKind.i64.wrap (q - 1) = q - 1 := IntWalk.i64_in _ (by omega)
  have q2 : IntKind.u64.wrap (q - 1) = q - 1 := by simp [IntKind.wrap, IntKind.bits, IntKind.signed]; omega
  have q3 : IntKind.u64.wrap q = q := by simp [IntKind.wrap, IntKind.bits, IntKind.signed]; omega
  go_enter Tryz.func93, Tryz.ntmps93
  go_wp2_with fail
  refine (Tryz.bits_Len64 (q - 1) _ (by omega) (by omega)).mono ?_
  rintro e w1 ⟨rfl, rfl⟩
  obtain ⟨ln, hln⟩ : ∃ n, Lib.bitLen (q - 1).toNat = n := ⟨_, rfl⟩
  obtain ⟨m1, hm1⟩ : ∃ m, IntKind.u64.wrap (2 ^ min ln 64) = m := ⟨_, rfl⟩
  obtain ⟨m, hm⟩ : ∃ m, IntKind.u64.wrap (m1 - 1) = m := ⟨_, rfl⟩
  have HN : Kp (numD h q m 256 c 0 = (n, c2, f)) := ⟨by rw [← hN.1, maskD, hln, hm1, hm]⟩
  rw [hln]
  go_wp2
  clear hln hm hm1 hN
  go_loopw [6, 14] (fun x i u => ∃ (k : Nat) (y cc : Int) (ff : Bool), k ≤ 256 ∧ i = .int .i64 k ∧ x = .int .u64 y ∧ Hid (0 ≤ y) ∧ Hid (0 ≤ cc ∧ cc ≤ 1099511627776) ∧ Kp (numD h q m (256 - k) cc y = (n, c2, f)) ∧ Hid (SBlk u b h cc ff) ∧ Hid ((ff = true → cc = 1099511627776) ∧ (0 < k → ff = false)) ∧ Hid (w1.grownBy u (some b))) (fun _ i _ => 256 - (intOf i).toNat)
  case atStart => exact ⟨0, 0, c, f0, by omega, rfl, rfl, Lib.hid (Int.le_refl _), Lib.hid ⟨hc0, hc1⟩, HN, hS, Lib.hid ⟨hf0, fun h0 => absurd h0 (Nat.lt_irrefl _)⟩, Lib.hid (gb_below (Below.refl _ _) _)⟩
  case round =>
    obtain ⟨k, y, cc, ff, hk, rfl, rfl, HY, HC, HNK, HSr, HFF, HGr⟩ := hrel
    obtain ⟨hcc0, hcc1⟩ := HC.out
    by_cases hlt : k < 256
    · have e256 : 256 - k = (256 - (k + 1)) + 1 := by omega
      by_cases hcf : cc = 1099511627776
      · subst hcf
        have HE : Kp ((0, 1099511627776, true) = (n, c2, f)) := ⟨by rw [← HNK.1, e256, numD, if_pos rfl]⟩
        go_wp2_with fail
        refine (dblock_full h hl b ff _ HSr).mono ?_
        rintro e w2 ⟨rfl, hS2, hG2⟩
        have HS2 := Lib.hid hS2
        have HG2 := Lib.hid (gb_trans HGr.out hG2)
        clear hS2 hG2
        go_upto_region 6 with ((with_reducible show wpList _ _ _ (⟨none, _, _, _, _, _⟩ :: _) _ _); refine wpList_store_row rfl 37 _ _ rfl w2.heap.size (arr .u8 (zer 32)) rfl rfl _ _ (heap_alloc_new _ _) (hash_info rfl) (arrs_sz (l := zer 32) rfl rfl) (arr_one _) ?_)
        rw [World.setRow_alloc_new]
        try simp only [Act.put]
        have HS3 := Lib.hid (HS2.out.below (below_box0 w2 (.cells (arr .u8 (zer 32)) 37)))
        have HG3 := Lib.hid (gb_alloc_new HG2.out (.cells (arr .u8 (zer 32)) 37))
        obtain ⟨W3, hW3⟩ : ∃ u, w2.alloc (.cells (arr .u8 (zer 32)) 37) = u := ⟨_, rfl⟩
        rw [hW3] at HS3 HG3 ⊢
        clear hW3
        obtain ⟨f1, f2⟩ := HS3.out.full hl.out
        have he1 : n = 0 := by have h2 := HE.1; simp only [Prod.mk.injEq] at h2; exact h2.1.symm
        have he2 : c2 = 1099511627776 := by have h2 := HE.1; simp only [Prod.mk.injEq] at h2; exact h2.2.1.symm
        have he3 : f = true := by have h2 := HE.1; simp only [Prod.mk.injEq] at h2; exact h2.2.2.symm
        go_wp2
        go_ret
        exact ⟨by rw [he1]; rfl, by rw [he2, he3]; exact HS3.out, HG3.out⟩
      · have hcl : cc < 1099511627776 := by omega
        have hff : ff = false := by
          cases hq : ff with
          | false => rfl
          | true => exact absurd (HFF.out.1 hq) hcf
        subst hff
        have HVr := Lib.hid (hv.out.below (hB0.out.trans (gb_toBelow HGr.out hB hB0.out.size)))
        go_wp2_with fail
        refine (dblock_ok h hl hb cc hcc0 hcl b _ HVr HSr).mono ?_
        rintro e w2 ⟨rfl, hS2, hG2⟩
        obtain ⟨R, hR⟩ : ∃ R, blkL h cc = R := ⟨_, rfl⟩
        have HRL : Hid (R.length = 32) := Lib.hid (by rw [← hR]; exact blkL_len _ _)
        have HRB : Hid (bytesB R = true) := Lib.hid (by rw [← hR]; exact blkL_bytes _ _)
        have HNK2 : Kp ((if bits BinOp.and IntKind.u64 (fst8 R) m < q then (bits BinOp.and IntKind.u64 (fst8 R) m, cc + 1, false) else numD h q m (256 - (k + 1)) (cc + 1) (bits BinOp.and IntKind.u64 (fst8 R) m)) = (n, c2, f)) := ⟨by rw [← HNK.1, e256, numD, if_neg hcf, hR]⟩
        rw [hR]
        have HS2 := Lib.hid hS2
        have HG2 := Lib.hid (gb_trans HGr.out hG2)
        clear hS2 hG2 hR HNK e256
        go_upto_region 6 with ((with_reducible show wpList _ _ _ (⟨none, _, _, _, _, _⟩ :: _) _ _); refine wpList_store_row rfl 37 _ _ rfl w2.heap.size (arr .u8 R) rfl rfl _ _ (heap_alloc_new _ _) (hash_info HRL.out) (arrs_sz (l := zer 32) rfl HRL.out) (arr_one _) ?_)
        rw [World.setRow_alloc_new]
        try simp only [Act.put]
        have HK3 : Hid (Blk .u8 37 (w2.alloc (.cells (arr .u8 R) 37)) w2.heap.size R) := Lib.hid (Blk.new _ _)
        have HS3 := Lib.hid (HS2.out.below (below_box0 w2 (.cells (arr .u8 R) 37)))
        have HG3 := Lib.hid (gb_alloc_new HG2.out (.cells (arr .u8 R) 37))
        obtain ⟨W3, hW3⟩ : ∃ u, w2.alloc (.cells (arr .u8 R) 37) = u := ⟨_, rfl⟩
        rw [hW3] at HS3 HG3 HK3 ⊢
        clear hW3
        obtain ⟨f1, f2⟩ := HS3.out.full hl.out
        go_wp2_with ((with_reducible show wpList _ _ _ (⟨some 22, _, _, _, _, _⟩ :: _) _ _); refine wpList_load_row rfl 37 _ rfl w2.heap.size rfl _ _ _ _ HK3.out Tryz.underlying37 rfl (hash_info HRL.out) ?_)
        clear f1 f2
        refine (dfirst_any R HRL HRB _).mono ?_
        rintro e w4 ⟨rfl, hb4⟩
        have HS4 := Lib.hid (HS3.out.below hb4)
        have HG4 := Lib.hid (gb_trans HG3.out (gb_below hb4 _))
        have hz0 := bits_lo_u64 BinOp.and (fst8 R) m
        obtain ⟨z, hz⟩ : ∃ z, bits BinOp.and IntKind.u64 (fst8 R) m = z := ⟨_, rfl⟩
        rw [hz] at hz0 HNK2
        obtain ⟨fr, hfr⟩ : ∃ z, fst8 R = z := ⟨_, rfl⟩
        rw [hfr] at hz ⊢
        clear hb4 hfr
        by_cases hzq : z < q
        · have HE : Kp ((z, cc + 1, false) = (n, c2, f)) := ⟨by rw [← HNK2.1, if_pos hzq]⟩
          have d1 : decide (z < q) = true := by simp [hzq]
          have z1 : IntKind.i64.wrap z = z := IntWalk.i64_in _ (by omega)
          have he1 : n = z := by have h2 := HE.1; simp only [Prod.mk.injEq] at h2; exact h2.1.symm
          have he2 : c2 = cc + 1 := by have h2 := HE.1; simp only [Prod.mk.injEq] at h2; exact h2.2.1.symm
          have he3 : f = false := by have h2 := HE.1; simp only [Prod.mk.injEq] at h2; exact h2.2.2.symm
          have HE1 := Lib.hid he1
          have HE2 := Lib.hid he2
          have HE3 := Lib.hid he3
          clear HNK2 he1 he2 he3
          go_wp2
          go_ret
          exact ⟨by rw [HE1.out]; rfl, by rw [HE2.out, HE3.out]; exact HS4.out, HG4.out⟩
        · have HE : Kp (numD h q m (256 - (k + 1)) (cc + 1) z = (n, c2, f)) := ⟨by rw [← HNK2.1, if_neg hzq]⟩
          have d1 : decide (z < q) = false := by simp; omega
          have HZ0 := Lib.hid hz0
          have HC2 : Hid (0 ≤ cc + 1 ∧ cc + 1 ≤ 1099511627776) := Lib.hid (by omega)
          clear HNK2
          go_wp2
          go_roundw
          case rel => exact ⟨k + 1, z, cc + 1, false, by omega, by go_num, rfl, HZ0, HC2, HE, HS4, Lib.hid ⟨(fun h0 => absurd h0 (by decide)), (fun _ => rfl)⟩, HG4⟩
          case measure => simp [intOf]; omega
    · obtain rfl : k = 256 := by omega
      obtain rfl : ff = false := HFF.out.2 (by omega)
      have hy := HY.out
      have HE : Kp ((y.tmod q, cc, false) = (n, c2, f)) := ⟨by rw [← HNK.1]; rfl⟩
      obtain ⟨z, hz⟩ : ∃ z, y.tmod q = z := ⟨_, rfl⟩
      have hz0 : 0 ≤ z ∧ z < q := by
        rw [← hz, Int.tmod_eq_emod_of_nonneg hy]
        exact ⟨Int.emod_nonneg _ (by omega), Int.emod_lt_of_pos _ (by omega)⟩
      have z1 : IntKind.i64.wrap z = z := IntWalk.i64_in _ (by omega)
      have qz : ((q : Int) == 0) = false := by simp; omega
      have qz2 : ¬ (q = 0) := by omega
      have he1 : n = z := by have h2 := HE.1; simp only [Prod.mk.injEq] at h2; rw [← hz]; exact h2.1.symm
      have he2 : c2 = cc := by have h2 := HE.1; simp only [Prod.mk.injEq] at h2; exact h2.2.1.symm
      have he3 : f = false := by have h2 := HE.1; simp only [Prod.mk.injEq] at h2; exact h2.2.2.symm
      have HE1 := Lib.hid he1
      have HE2 := Lib.hid he2
      have HE3 := Lib.hid he3
      clear HE he1 he2 he3 hlt HNK
      go_wp2
      go_ret
      exact ⟨by rw [HE1.out]; rfl, by rw [HE2.out, HE3.out]; exact HSr.out, HGr.out⟩
end Go.Proofs.YtcmidgdhihmppaaGreatDoor
