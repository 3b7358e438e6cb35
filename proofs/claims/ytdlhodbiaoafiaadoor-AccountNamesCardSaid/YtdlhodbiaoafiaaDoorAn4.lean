/- Contracts and lemmas: Hex, HexR, Msg, NmA, NmB, LinD, LcB, KcA, KnC, KnF, LinK, LinO, LinP, LinQ, JoinA, Acc, Acp, Fnd, NmC. -/
import Derived.Deep.AppendLies
import Derived.Deep.RegionHeld3
import Derived.Test.YtdlhodbiaoafiaaDoorAn3
namespace Go.Proofs.YtdlhodbiaoafiaaDoor
open Go.RowKit SpM
set_option linter.unusedVariables false
set_option linter.unusedSimpArgs false
set_option maxRecDepth 100000
theorem hash_und : Tryd.prog.underlying 43 = some (.array 32 5) := by kernel_rfl
theorem index_arr {l : List Int} (hl : l.length = 32) {k : Nat} (hk : k < 32) (w : World) : (Instr.index 43 (.agg (arr .u8 l)) (.int .i64 (k : Int))).run Tryd.prog w = .ok (.int .u8 (l.getD k 0)) w := by
  obtain ⟨i1, hi1, hy0, hy1, hy2⟩ := info_parts byteInfo
  have h0 : (0 : Int) ≤ k ∧ (k : Int) < ((32 : Nat) : Int) := by omega
  have h1 : (arr .u8 l)[k]? = some (.int .u8 (l.getD k 0)) := arr_get (by omega)
  simp only [Instr.index, asIntOf, run_underlying hash_und, h0, go_sem]
  simp [h1, hk, go_sem]
def hexd (q : Int) : Int := if q < 10 then 48 + q else 87 + q
theorem index_digs0 : ∀ n : Nat, n < 16 → ∀ w, (Instr.index 9 (.string ⟨#[48, 49, 50, 51, 52, 53, 54, 55, 56, 57, 97, 98, 99, 100, 101, 102]⟩) (.int .u8 (n : Int))).run Tryd.prog w = .ok (.int .u8 (hexd n)) w
  | 0, _ => fun w => by kernel_rfl
  | 1, _ => fun w => by kernel_rfl
  | 2, _ => fun w => by kernel_rfl
  | 3, _ => fun w => by kernel_rfl
  | 4, _ => fun w => by kernel_rfl
  | 5, _ => fun w => by kernel_rfl
  | 6, _ => fun w => by kernel_rfl
  | 7, _ => fun w => by kernel_rfl
  | 8, _ => fun w => by kernel_rfl
  | 9, _ => fun w => by kernel_rfl
  | 10, _ => fun w => by kernel_rfl
  | 11, _ => fun w => by kernel_rfl
  | 12, _ => fun w => by kernel_rfl
  | 13, _ => fun w => by kernel_rfl
  | 14, _ => fun w => by kernel_rfl
  | 15, _ => fun w => by kernel_rfl
  | n + 16, h => fun w => absurd h (by omega)
theorem index_digs {q : Int} (h0 : 0 ≤ q) (h1 : q < 16) (w : World) : (Instr.index 9 (.string ⟨#[48, 49, 50, 51, 52, 53, 54, 55, 56, 57, 97, 98, 99, 100, 101, 102]⟩) (.int .u8 q)).run Tryd.prog w = .ok (.int .u8 (hexd q)) w := by
  obtain ⟨n, rfl⟩ : ∃ n : Nat, q = n := ⟨q.toNat, by omega⟩
  exact index_digs0 n (by omega) w
def hexL (l : List Int) : List Int := l.flatMap fun x => [hexd (x / 16), hexd (x % 16)]
theorem hexL_len (l : List Int) : (hexL l).length = 2 * l.length := by
  induction l with
  | nil => rfl
  | cons x t ih => simp [hexL] at ih ⊢; omega
theorem hexL_app (l m : List Int) : hexL (l ++ m) = hexL l ++ hexL m := by simp [hexL]
/-- a text of bytes. -/
def txt (l : List Int) : ByteArray := ⟨(l.map fun x => UInt8.ofNat x.toNat).toArray⟩
def isB (l : List Int) : Prop := ∀ x ∈ l, 0 ≤ x ∧ x < 256
theorem byteCells_txt {l : List Int} (h : isB l) : Lib.byteCells (l.map fun x => UInt8.ofNat x.toNat) = l.map (Value.int .u8) := by
  unfold Lib.byteCells
  rw [List.map_map]
  apply List.map_congr_left
  intro x hx
  have := h x hx
  simp only [Function.comp, UInt8.toNat_ofNat']
  congr 1
  omega
theorem hexd_b {q : Int} (h0 : 0 ≤ q) (h1 : q < 16) : 0 ≤ hexd q ∧ hexd q < 256 := by unfold hexd; split <;> omega
theorem hexL_b {l : List Int} (h : isB l) : isB (hexL l) := by
  intro y hy
  obtain ⟨x, hx, hy2⟩ := List.mem_flatMap.1 hy
  have := h x hx
  simp only [List.mem_cons, List.not_mem_nil, or_false] at hy2
  rcases hy2 with rfl | rfl
  · exact hexd_b (by omega) (by omega)
  · exact hexd_b (by omega) (by omega)
theorem Bld.is {w : World} {b : Nat} {l : List Int} (h : Bld w b l) (hb : isB l) : Lib.IsBuilder 151 5 b b (Lib.byteCells (l.map fun x => UInt8.ofNat x.toNat)) w := by
  obtain ⟨p, v, hp, hblk, hown⟩ := h
  have h2 : Lib.BuilderAt 151 5 b b p (Lib.byteCells (l.map fun x => UInt8.ofNat x.toNat)) w := by
    refine ⟨Nat.le_refl b, v, hblk, ?_, ?_⟩
    · rw [byteCells_txt hb]
      have h3 := (hown.mono (Nat.le_succ b))
      unfold OwnK at h3
      simpa using h3
    · exact fun e => absurd (World.ownsRow.lt hown b e).1 (by omega)
  rcases hp with rfl | rfl
  · exact Or.inl h2
  · exact Or.inr h2
theorem Bld.new (w : World) : Bld (w.alloc (.cells #[.pointer none, .slice none 0 0] 151)) w.heap.size [] :=
  ⟨_, _, Or.inl rfl, heap_alloc_new _ _, ⟨rfl, Or.inl ⟨rfl, rfl⟩⟩⟩
theorem and15 {x : Int} (h0 : 0 ≤ x) (h1 : x < 256) : bits .and .u8 x 15 = x % 16 := by
  obtain ⟨n, rfl⟩ : ∃ n : Nat, x = n := ⟨x.toNat, by omega⟩
  have h2 : ∀ m : Nat, m < 256 → bits .and .u8 (m : Int) 15 = (m : Int) % 16 := by decide
  exact h2 n (by omega)
set_option maxHeartbeats 3200000 in
theorem hex_any (h : List Int) (hl : Hid (h.length = 32)) (hb : Hid (isB h)) (w : World) :
    Calls Tryd.prog 75 #[.agg (arr .u8 h)] w fun e w' => e = .returned (.string (txt (hexL h))) ∧ Below w.heap.size w w' := by
  obtain ⟨W, hW⟩ : ∃ W, (w.alloc (.cells (arr .u8 h) 43)).alloc (.cells #[.pointer none, .slice none 0 0] 151) = W := ⟨_, rfl⟩
  have hb0 : (w.alloc (.cells (arr .u8 h) 43)).heap.size = w.heap.size + 1 := by simp
  have HB0 : Hid (Below w.heap.size w W) := Lib.hid (by rw [← hW]; exact ((below_box0 w _).alloc (by simp) _))
  have HBb : Hid (Bld W (w.heap.size + 1) []) := Lib.hid (by rw [← hW, ← hb0]; exact Bld.new _)
  have HT : Hid (Blk .u8 43 W w.heap.size h) := Lib.hid (by rw [← hW]; exact (Blk.new w h).old _)
  have HW := Lib.hid hW
  clear hW hb0
  go_enter Tryd.func75, Tryd.ntmps75
  go_upto_region 2 with (fail)
  rw [HW.out]
  go_wp2_with ((with_reducible show wpList _ _ _ (⟨some 6, _, _, _, _, _⟩ :: _) _ _); refine wpList_load_row rfl 43 _ rfl w.heap.size rfl _ _ _ _ HT.out Tryd.underlying43 rfl (hash_info hl.out) ?_)
  clear HW HT
  go_loopw [7] (fun i u => ∃ k : Nat, k ≤ 32 ∧ i = .int .i64 k ∧ Hid (Bld u (w.heap.size + 1) (hexL (h.take k))) ∧ Hid (Below w.heap.size w u)) (fun i _ => 32 - (intOf i).toNat)
  case atStart => exact ⟨0, by omega, by simp, HBb, HB0⟩
  case round =>
    obtain ⟨k, hk, rfl, HBk, HLk⟩ := hrel
    by_cases hlt : k < 32
    · have d1 : decide ((k : Int) < 32) = true := by simp; omega
      obtain ⟨x, hx⟩ : ∃ x, h.getD k 0 = x := ⟨_, rfl⟩
      have hxb : 0 ≤ x ∧ x < 256 := by
        rw [← hx, List.getD_eq_getElem?_getD, List.getElem?_eq_getElem (by have := hl.out; omega)]
        exact hb.out _ (List.getElem_mem _)
      have hix := index_arr hl.out hlt
      rw [hx] at hix
      have hb1 := and15 hxb.1 hxb.2
      have hd1 := index_digs (q := x / 16) (by omega) (by omega)
      have hd2 := index_digs (q := x % 16) (by omega) (by omega)
      have HL0 : Hid ((hexL (h.take k)).length ≤ 100000) := Lib.hid (by rw [hexL_len, List.length_take]; omega)
      have HL1 : Hid ((hexL (h.take k) ++ [hexd (x / 16)]).length ≤ 100000) := Lib.hid (by rw [List.length_append, hexL_len, List.length_take]; simp; omega)
      have HTK : Hid ((hexL (h.take k) ++ [hexd (x / 16)]) ++ [hexd (x % 16)] = hexL (h.take (k + 1))) := Lib.hid (by
        rw [take_one (show k < h.length by have := hl.out; omega), hexL_app, hx]
        simp [hexL])
      clear hx
      go_wp2_with fail
      refine (wbyte_any (w.heap.size + 1) _ _ HL0.out _ HBk).mono ?_
      rintro e w1 ⟨⟨ua, rfl⟩, hBk1, hBl1⟩
      have HBk1 := Lib.hid hBk1
      have HLk1 := Lib.hid (HLk.out.trans (hBl1.mono (Nat.le_succ _)))
      clear hBk1 hBl1 HBk HLk
      go_wp2_with fail
      refine (wbyte_any (w.heap.size + 1) _ _ HL1.out _ HBk1).mono ?_
      rintro e w2 ⟨⟨ub, rfl⟩, hBk2, hBl2⟩
      rw [HTK.out] at hBk2
      have HBk2 := Lib.hid hBk2
      have HLk2 := Lib.hid (HLk1.out.trans (hBl2.mono (Nat.le_succ _)))
      clear hBk2 hBl2 HBk1 HLk1
      go_wp2
      go_roundw
      case rel => exact ⟨k + 1, by omega, by go_num, HBk2, HLk2⟩
      case measure => simp [intOf]; omega
    · obtain rfl : k = 32 := by omega
      have HBk2 : Hid (Bld wr (w.heap.size + 1) (hexL h)) := Lib.hid (by
        have h2 := HBk.out
        rwa [List.take_of_length_le (by rw [hl.out]; exact Nat.le_refl _)] at h2)
      have HNe : Hid ((hexL h).map (fun x => UInt8.ofNat x.toNat) ≠ []) := Lib.hid (by
        intro e
        have := congrArg List.length e
        rw [List.length_map, hexL_len, hl.out] at this
        simp at this)
      clear HBk
      go_wp2_with fail
      refine (Tryd.Builder_String (w.heap.size + 1) (w.heap.size + 1) _ _ (HBk2.out.is (hexL_b hb.out)) HNe.out).mono ?_
      rintro e w1 ⟨rfl, hb1⟩
      have HLk1 := Lib.hid (HLk.out.trans (hb1.mono (Nat.le_succ _)))
      clear hb1 HLk
      go_wp2
      go_ret
      exact ⟨rfl, HLk1.out⟩
end Go.Proofs.YtdlhodbiaoafiaaDoor
namespace Go.Proofs.YtdlhodbiaoafiaaDoor
open Go.RowKit SpM
set_option linter.unusedVariables false
set_option linter.unusedSimpArgs false
set_option maxRecDepth 100000
theorem back_any {w : World} {B : Nat} {v : Value} {l : List Int} {n : Nat} (h : OwnK .u8 5 w B v l) (hb : isB l) (h0 : 0 < l.length) : (convert 92 9 v).run Tryd.prog w = .ok (.string (txt l)) w := by
  obtain ⟨g, cap, rfl, hg, hn, hc2, hc⟩ := h.cells h0
  have e := run_convert_bytes_back (P := Tryd.prog) w 92 9 5 ⟨g, 0, none⟩ cap (l.map fun x => UInt8.ofNat x.toNat) Tryd.underlying92 Tryd.underlying5 Tryd.underlying9 (fun j hj => by
    have hj2 : j < l.length := by simpa using hj
    obtain ⟨b, o, e1, e2⟩ := hc j hj2
    injection e1 with e1
    injection e1 with e1 e1b
    subst e1
    subst e1b
    have hx := hb (l.getD j 0) (by rw [List.getD_eq_getElem?_getD, List.getElem?_eq_getElem hj2]; exact List.getElem_mem _)
    have e3 : (((l.map fun x => UInt8.ofNat x.toNat)[j]'hj).toNat : Int) = l.getD j 0 := by
      rw [List.getElem_map, UInt8.toNat_ofNat']
      rw [List.getD_eq_getElem?_getD, List.getElem?_eq_getElem hj2] at hx ⊢
      simp only [Option.getD_some] at hx ⊢
      omega
    rw [e3, ← e2]
    simp [Addr.add]
    split <;> simp_all)
  rw [List.length_map] at e
  exact e
set_option maxHeartbeats 3200000 in
theorem rhex_any (h : List Int) (hl : Hid (h.length = 32)) (hb : Hid (isB h)) (w : World) :
    Calls Tryd.prog 68 #[.agg (arr .u8 h)] w fun e w' => e = .returned (.string (txt (hexL h))) ∧ Below w.heap.size w w' := by
  obtain ⟨i0, hi, hz0, hz1, hz2⟩ := info_parts byteInfo
  obtain ⟨W, hW⟩ : ∃ W, w.alloc (.cells (arr .u8 h) 43) = W := ⟨_, rfl⟩
  have hWs : W.heap.size = w.heap.size + 1 := by rw [← hW]; simp
  have HB0 : Hid (Below w.heap.size w W) := Lib.hid (by rw [← hW]; exact below_box0 w _)
  have HT : Hid (Blk .u8 43 W w.heap.size h) := Lib.hid (by rw [← hW]; exact Blk.new w h)
  have HW := Lib.hid hW
  clear hW
  go_enter Tryd.func68, Tryd.ntmps68
  go_upto_region 3 with (fail)
  rw [HW.out]
  clear HW
  go_wp2
  go_loopw [4, 5] (fun v i u => ∃ k : Nat, k ≤ 32 ∧ i = .int .i64 k ∧ Hid (OwnK .u8 5 u (w.heap.size + 1) v (hexL (h.take k))) ∧ Hid (Below (w.heap.size + 1) W u)) (fun _ i _ => 32 - (intOf i).toNat)
  case atStart => exact ⟨0, by omega, by simp, Lib.hid ⟨rfl, Or.inl ⟨rfl, rfl⟩⟩, Lib.hid (Below.refl _ _)⟩
  case round =>
    obtain ⟨k, hk, rfl, HO, HBr⟩ := hrel
    by_cases hlt : k < 32
    · have d1 : decide ((k : Int) < 32) = true := by simp; omega
      obtain ⟨x, hx⟩ : ∃ x, h.getD k 0 = x := ⟨_, rfl⟩
      have hxb : 0 ≤ x ∧ x < 256 := by
        rw [← hx, List.getD_eq_getElem?_getD, List.getElem?_eq_getElem (by have := hl.out; omega)]
        exact hb.out _ (List.getElem_mem _)
      have d3 : (k : Int) < 32 := by omega
      have hd1 := index_digs (q := x / 16) (by omega) (by omega)
      have hd2 := index_digs (q := x % 16) (by omega) (by omega)
      have e1 : x.tdiv 16 = x / 16 := Int.tdiv_eq_ediv_of_nonneg hxb.1
      have e2 : x.tmod 16 = x % 16 := Int.tmod_eq_emod_of_nonneg hxb.1
      have e3 : IntKind.u8.wrap (x / 16) = x / 16 := by simp [IntKind.wrap, IntKind.bits, IntKind.signed]; omega
      have e4 : IntKind.u8.wrap (x % 16) = x % 16 := by simp [IntKind.wrap, IntKind.bits, IntKind.signed]; omega
      obtain ⟨n, hn⟩ : ∃ n, (hexL (h.take k)).length = n := ⟨_, rfl⟩
      have hn2 : n ≤ 64 := by rw [← hn, hexL_len, List.length_take]; omega
      have HLN := Lib.hid hn
      have HOWN := Lib.hid (HO.out.row hn)
      have HTK : Hid (hexL (h.take k) ++ [hexd (x / 16), hexd (x % 16)] = hexL (h.take (k + 1))) := Lib.hid (by
        rw [take_one (show k < h.length by have := hl.out; omega), hexL_app, hx]
        simp [hexL])
      have hc : wr.cell? ⟨w.heap.size, k, none⟩ = some (.int .u8 x) := by
        rw [← hx]
        exact (HT.out.keepB (Nat.lt_succ_self _) HBr.out).cell (by have := hl.out; omega)
      have hsz := HBr.out.size
      have hS := Lib.hid (show ∀ u1 : World, Hid (Below wr.drew.heap.size wr.drew u1) → (u1.cell? ⟨w.heap.size, k, none⟩ = some (.int .u8 x) ∧ Hid (Below wr.drew.heap.size wr.drew u1)) from fun u1 h1 => ⟨cell_below (w := wr.drew) hc h1.out, h1⟩)
      clear hx hn hc HT
      go_wp2
      refine wp_region_T (S := fun w' => w'.cell? ⟨w.heap.size, k, none⟩ = some (.int .u8 x) ∧ Hid (Below wr.drew.heap.size wr.drew w')) (E := [14, 15]) (by kernel_rfl) (hS.out _ (Lib.hid (Below.refl _ _))) (fun hHeld => ?_)
      refine wpT_take (i := 0) (oi := _) (v := ?_) rfl (by kernel_rfl) (by kernel_rfl) (by kernel_rfl) (by kernel_rfl) (fun _ _ _ h => h) (Or.inl ⟨by rfl, ?_⟩) (by assumption) ?_
      rotate_left; (intro wS hSw; (try dsimp only at hSw); go_simp <;> with_reducible rfl)
      try simp only [List.getElem_toArray, List.getElem_cons_zero, List.getElem_cons_succ, Act.put, List.setIfInBounds_toArray, List.set_cons_zero, List.set_cons_succ]
      refine wpT_take (i := 1) (oi := _) (v := ?_) rfl (by kernel_rfl) (by kernel_rfl) (by kernel_rfl) (by kernel_rfl) (fun _ _ _ h => h) (Or.inl ⟨by rfl, ?_⟩) (by assumption) ?_
      rotate_left; (intro wS hSw; (try dsimp only at hSw); go_simp <;> with_reducible rfl)
      try simp only [List.getElem_toArray, List.getElem_cons_zero, List.getElem_cons_succ, Act.put, List.setIfInBounds_toArray, List.set_cons_zero, List.set_cons_succ]
      refine wpT_take (i := 2) (oi := _) (v := ?_) rfl (by kernel_rfl) (by kernel_rfl) (by kernel_rfl) (by kernel_rfl) (fun _ _ _ h => h) (Or.inl ⟨by rfl, ?_⟩) (by assumption) ?_
      rotate_left; (intro wS hSw; (try dsimp only at hSw); go_simp <;> with_reducible rfl)
      try simp only [List.getElem_toArray, List.getElem_cons_zero, List.getElem_cons_succ, Act.put, List.setIfInBounds_toArray, List.set_cons_zero, List.set_cons_succ]
      refine wpT_take (i := 3) (oi := _) (v := ?_) rfl (by kernel_rfl) (by kernel_rfl) (by kernel_rfl) (by kernel_rfl) (fun _ _ _ h => h) (Or.inl ⟨by rfl, ?_⟩) (by assumption) ?_
      rotate_left; (intro wS hSw; (try dsimp only at hSw); go_simp <;> with_reducible rfl)
      try simp only [List.getElem_toArray, List.getElem_cons_zero, List.getElem_cons_succ, Act.put, List.setIfInBounds_toArray, List.set_cons_zero, List.set_cons_succ]
      refine wpT_take (i := 4) (oi := _) (v := ?_) rfl (by kernel_rfl) (by kernel_rfl) (by kernel_rfl) (by kernel_rfl) (fun _ _ _ h => h) (Or.inl ⟨by rfl, ?_⟩) (by assumption) ?_
      rotate_left; (intro wS hSw; (try dsimp only at hSw); go_simp <;> with_reducible rfl)
      try simp only [List.getElem_toArray, List.getElem_cons_zero, List.getElem_cons_succ, Act.put, List.setIfInBounds_toArray, List.set_cons_zero, List.set_cons_succ]
      refine wpT_take (i := 5) (oi := _) (v := ?_) rfl (by kernel_rfl) (by kernel_rfl) (by kernel_rfl) (by kernel_rfl) (fun _ _ _ h => h) (Or.inl ⟨by rfl, ?_⟩) (by assumption) ?_
      rotate_left; (intro wS hSw; (try dsimp only at hSw); go_simp <;> with_reducible rfl)
      try simp only [List.getElem_toArray, List.getElem_cons_zero, List.getElem_cons_succ, Act.put, List.setIfInBounds_toArray, List.set_cons_zero, List.set_cons_succ]
      refine wpT_take (i := 6) (oi := _) (v := ?_) rfl (by kernel_rfl) (by kernel_rfl) (by kernel_rfl) (by kernel_rfl) (fun _ _ _ h => h) (Or.inl ⟨by rfl, ?_⟩) (by assumption) ?_
      rotate_left; (intro wS hSw; (try dsimp only at hSw); go_simp <;> with_reducible rfl)
      try simp only [List.getElem_toArray, List.getElem_cons_zero, List.getElem_cons_succ, Act.put, List.setIfInBounds_toArray, List.set_cons_zero, List.set_cons_succ]
      refine wpT_take (i := 7) (oi := _) (v := ?_) rfl (by kernel_rfl) (by kernel_rfl) (by kernel_rfl) (by kernel_rfl) (fun _ _ _ h => h) (Or.inl ⟨by rfl, ?_⟩) (by assumption) ?_
      rotate_left; (intro wS hSw; (try dsimp only at hSw); go_simp <;> with_reducible rfl)
      try simp only [List.getElem_toArray, List.getElem_cons_zero, List.getElem_cons_succ, Act.put, List.setIfInBounds_toArray, List.set_cons_zero, List.set_cons_succ]
      refine wpT_take (i := 8) (oi := _) (v := ?_) rfl (by kernel_rfl) (by kernel_rfl) (by kernel_rfl) (by kernel_rfl) (fun _ _ _ h => h) (Or.inl ⟨by rfl, ?_⟩) (by assumption) ?_
      rotate_left; (intro wS hSw; (try dsimp only at hSw); go_simp <;> with_reducible rfl)
      try simp only [List.getElem_toArray, List.getElem_cons_zero, List.getElem_cons_succ, Act.put, List.setIfInBounds_toArray, List.set_cons_zero, List.set_cons_succ]
      refine wpT_take (i := 9) (oi := _) (v := ?_) rfl (by kernel_rfl) (by kernel_rfl) (by kernel_rfl) (by kernel_rfl) (fun _ _ _ h => h) (Or.inl ⟨by rfl, ?_⟩) (by assumption) ?_
      rotate_left; (intro wS hSw; (try dsimp only at hSw); go_simp <;> with_reducible rfl)
      try simp only [List.getElem_toArray, List.getElem_cons_zero, List.getElem_cons_succ, Act.put, List.setIfInBounds_toArray, List.set_cons_zero, List.set_cons_succ]
      refine wpT_take (i := 10) (oi := _) (v := ?_) rfl (by kernel_rfl) (by kernel_rfl) (by kernel_rfl) (by kernel_rfl) (fun _ _ _ h => h) (Or.inl ⟨by rfl, ?_⟩) (by assumption) ?_
      rotate_left; (intro wS hSw; (try dsimp only at hSw); go_simp <;> with_reducible rfl)
      try simp only [List.getElem_toArray, List.getElem_cons_zero, List.getElem_cons_succ, Act.put, List.setIfInBounds_toArray, List.set_cons_zero, List.set_cons_succ]
      refine wpT_take (i := 11) (oi := _) (v := ?_) rfl (by kernel_rfl) (by kernel_rfl) (by kernel_rfl) (by kernel_rfl) (fun _ _ _ h => h) (Or.inl ⟨by rfl, ?_⟩) (by assumption) ?_
      rotate_left; (intro wS hSw; (try dsimp only at hSw); go_simp <;> with_reducible rfl)
      try simp only [List.getElem_toArray, List.getElem_cons_zero, List.getElem_cons_succ, Act.put, List.setIfInBounds_toArray, List.set_cons_zero, List.set_cons_succ]
      refine wpT_take (i := 12) (oi := _) (v := ?_) rfl (by kernel_rfl) (by kernel_rfl) (by kernel_rfl) (by kernel_rfl) (fun _ _ _ h => h) (Or.inl ⟨by rfl, ?_⟩) (by assumption) ?_
      rotate_left; (intro wS hSw; (try dsimp only at hSw); go_simp <;> with_reducible rfl)
      try simp only [List.getElem_toArray, List.getElem_cons_zero, List.getElem_cons_succ, Act.put, List.setIfInBounds_toArray, List.set_cons_zero, List.set_cons_succ]
      refine wpT_one (i := 13) (by kernel_rfl) rfl (fun K hK => ?_)
      go_simp
      refine hK.out _ _ ?_ (fun hHeld => ?_)
      · exact hS.out _ (Lib.hid (below_box0 _ _))
      clear hK K
      try simp only [List.getElem_toArray, List.getElem_cons_zero, List.getElem_cons_succ, Act.put, List.setIfInBounds_toArray, List.set_cons_zero, List.set_cons_succ]
      refine wpT_pass (i := 14) (by kernel_rfl) (by simp) rfl (fun K hK => ?_)
      refine step_append_lies _ (by rfl) _ _ _ (by rfl) (w.heap.size + 1) 5 i0 _ 1 1 Tryd.underlying92 hi hz0 hz1 hz2 rfl (by omega) u4 n ((hexL (h.take k)).map (Value.int .u8)) (by rfl) ((HOWN.out.alloc _).drew)
        ⟨wr.heap.size, 0, none⟩ 2 2 [.int .u8 (hexd (x / 16)), .int .u8 (hexd (x % 16))] (by rfl) (by rfl) (World.news_of_block (cs := #[.int .u8 (hexd (x / 16)), .int .u8 (hexd (x % 16))]) (t := 5) (fr := (0, 0)) (heap_alloc_new wr _)) (by simp [Value.oneCell'])
        (by omega) (by unfold maxLen; omega) (by omega) (by simp; omega) (wr.heap.size + 1) (by simp) ?_; intro gg cap wz hown1 hgrow hat hlt2
      refine hK.out _ _ ?_
      clear hK K
      try simp only [List.getElem_toArray, List.getElem_cons_zero, List.getElem_cons_succ, Act.put, List.setIfInBounds_toArray, List.set_cons_zero, List.set_cons_succ]
      refine wpT_pass (i := 15) (by kernel_rfl) (by simp) rfl (fun K hK => ?_)
      go_simp
      refine hK.out _ _ ?_
      clear hK K
      try simp only [List.getElem_toArray, List.getElem_cons_zero, List.getElem_cons_succ, Act.put, List.setIfInBounds_toArray, List.set_cons_zero, List.set_cons_succ]
      refine wpT_done (by kernel_rfl) ?_ _
      have HB2 : Hid (Below (w.heap.size + 1) W wz) := Lib.hid (((HBr.out.alloc (by omega) (.cells #[.int .u8 (hexd (x / 16)), .int .u8 (hexd (x % 16))] 5)).drew).grown hgrow (by simp; omega) (fun j hj => by have := (World.ownsRow.lt HOWN.out j hj).1; omega))
      have HO2 : Hid (OwnK .u8 5 wz (w.heap.size + 1) (.slice (some ⟨gg, 0, none⟩) (n + 2) cap) (hexL (h.take (k + 1)))) := Lib.hid (by
        rw [← HTK.out]
        exact OwnK.app (ys := [hexd (x / 16), hexd (x % 16)]) HLN.out.symm rfl hown1)
      clear hown1 hgrow hat HO HBr
      go_wp2
      go_roundw
      case rel => exact ⟨k + 1, by omega, by go_num, HO2, HB2⟩
      case measure => simp [intOf]; omega
    · obtain rfl : k = 32 := by omega
      have HF : Hid (OwnK .u8 5 wr (w.heap.size + 1) u4 (hexL h)) := Lib.hid (by
        have h2 := HO.out
        rwa [List.take_of_length_le (by rw [hl.out]; exact Nat.le_refl _)] at h2)
      have hcv := back_any (n := 0) HF.out (hexL_b hb.out) (by rw [hexL_len, hl.out]; decide)
      have HE : Hid (Below w.heap.size w wr) := Lib.hid (HB0.out.trans (HBr.out.mono (Nat.le_succ _)))
      clear HO HBr
      go_wp2
      go_ret
      exact ⟨rfl, HE.out⟩
end Go.Proofs.YtdlhodbiaoafiaaDoor
namespace Go.Proofs.YtdlhodbiaoafiaaDoor
open Go.RowKit SpM
set_option linter.unusedVariables false
/-- the error of account.Message, and its message. -/
def msgE (P Q G A B H key : Int) : Int := if validB P Q G A B H = true then (if okB P Q key = true then (if key * B % P = 1 then 10 else 0) else 2) else 1
def msgV (P Q G A B H key : Int) : Int := if msgE P Q G A B H key = 0 then key * B % P else 0
theorem below_bbox {w w1 : World} {o : Obj} (h : Below (w.alloc o).heap.size (w.alloc o) w1) : Below w.heap.size w w1 := below_ext (below_box0 _ _) h
set_option maxHeartbeats 1600000 in
theorem message_any (P Q G A B H key v r : Int) (hv0 : Hid (msgV P Q G A B H key = v)) (hr0 : Hid (msgE P Q G A B H key = r)) (hQ : Q < 9223372036854775808) (w : World) (hv : Hid (Vars w)) :
    Calls Tryd.prog 71 #[bv P Q G A B H, .int .i64 key] w fun e' w' => e' = .returned (.tuple #[.int .i64 v, .int .i64 r]) ∧ Below w.heap.size w w' := by
  have HV0 := Lib.hid (hv.out.below (below_box0 w (bObj P Q G A B H)))
  have HB0 := Lib.hid (bbox_alloc w P Q G A B H)
  cases hval : validB P Q G A B H with
  | false =>
    obtain rfl : r = 1 := by rw [← hr0.out, msgE, hval]; rfl
    obtain rfl : v = 0 := by rw [← hv0.out, msgV, hr0.out]; rfl
    have HV : Hid (validB P Q G A B H = false) := hval
    clear hval hv0 hr0
    go_enter Tryd.func71, Tryd.ntmps71
    go_wp2_with fail
    refine (bvalid_any P Q G A B H false HV hQ _ HV0).mono ?_
    rintro e w1 ⟨rfl, hb0⟩
    have hb1 := below_bbox hb0
    clear hb0
    go_wp2
    go_ret2
    exact ⟨rfl, hb1⟩
  | true =>
    obtain ⟨hg, hA, hB, hH, nA, nB, nH⟩ := validB_parts hval
    have HV : Hid (validB P Q G A B H = true) := hval
    cases h1 : key == 1 with
    | true =>
      have h1' : key = 1 := by simpa using h1
      obtain rfl : r = 2 := by rw [← hr0.out, msgE, if_pos hval, h1']; rfl
      obtain rfl : v = 0 := by rw [← hv0.out, msgV, hr0.out]; rfl
      clear h1' hval hv0 hr0 hg hA hB hH nA nB nH
      go_enter Tryd.func71, Tryd.ntmps71
      go_wp2_with fail
      refine (bvalid_any P Q G A B H true HV hQ _ HV0).mono ?_
      rintro e w1 ⟨rfl, hb0⟩
      have hb1 := below_bbox hb0
      obtain ⟨⟨c0, c1, c2⟩, c3, c4, c5⟩ := HB0.out.below hb0
      clear hb0
      go_wp2
      go_ret2
      exact ⟨rfl, hb1⟩
    | false =>
      have hko := Lib.hid (okB_con (G := G) hg h1)
      cases hk : okB P Q key with
      | false =>
        obtain rfl : r = 2 := by rw [← hr0.out, msgE, if_pos hval, hk]; rfl
        obtain rfl : v = 0 := by rw [← hv0.out, msgV, hr0.out]; rfl
        have HK : Hid (conG P Q G key = false) := Lib.hid (hko.out.trans hk)
        clear hk hval hv0 hr0 hg hA hB hH nA nB nH
        go_enter Tryd.func71, Tryd.ntmps71
        go_wp2_with fail
        refine (bvalid_any P Q G A B H true HV hQ _ HV0).mono ?_
        rintro e w1 ⟨rfl, hb0⟩
        have hb1 := below_bbox hb0
        have HV1 := Lib.hid (HV0.out.below hb0)
        obtain ⟨⟨c0, c1, c2⟩, c3, c4, c5⟩ := HB0.out.below hb0
        clear hb0
        go_wp2_with fail
        refine (contains_any P Q G key false HK hQ _ HV1).mono ?_
        rintro e w2 ⟨rfl, hb0⟩
        have hb2 := below_ext hb1 hb0
        clear hb0
        go_wp2
        go_ret2
        exact ⟨rfl, hb2⟩
      | true =>
        have HK : Hid (conG P Q G key = true) := Lib.hid (hko.out.trans hk)
        have hkm : memG P Q key = true := by simp [okB] at hk; exact hk.2
        have HCK : Hid (chkG P Q G [key, B] = 0) := Lib.hid (chkG_ok hg (by simp [hkm, hB]))
        obtain ⟨m, hm⟩ : ∃ m, key * B % P = m := ⟨_, rfl⟩
        have HM := Lib.hid hm
        cases h10 : m == 1 with
        | true =>
          have h10' : m = 1 := by simpa using h10
          obtain rfl : r = 10 := by rw [← hr0.out, msgE, if_pos hval, hk, hm, h10']; rfl
          obtain rfl : v = 0 := by rw [← hv0.out, msgV, hr0.out]; rfl
          clear hkm h10' hm hk hval hv0 hr0 hg hA hB hH nA nB nH
          go_enter Tryd.func71, Tryd.ntmps71
          go_wp2_with fail
          refine (bvalid_any P Q G A B H true HV hQ _ HV0).mono ?_
          rintro e w1 ⟨rfl, hb0⟩
          have hb1 := below_bbox hb0
          have HV1 := Lib.hid (HV0.out.below hb0)
          have HX1 := Lib.hid (HB0.out.below hb0)
          obtain ⟨⟨c0, c1, c2⟩, c3, c4, c5⟩ := HX1.out
          clear hb0
          go_wp2_with fail
          refine (contains_any P Q G key true HK hQ _ HV1).mono ?_
          rintro e w2 ⟨rfl, hb0⟩
          have hb2 := below_ext hb1 hb0
          have HV2 := Lib.hid (HV1.out.below hb0)
          clear c0 c1 c2 c3 c4 c5
          obtain ⟨⟨c0, c1, c2⟩, c3, c4, c5⟩ := HX1.out.below hb0
          clear hb0
          go_wp2_with fail
          refine (gmul_ok P Q G key B m HCK HM hQ _ HV2).mono ?_
          rintro e w3 ⟨rfl, hb0⟩
          have hb3 := below_ext hb2 hb0
          clear hb0
          go_wp2
          go_ret2
          exact ⟨rfl, hb3⟩
        | false =>
          have h10' : m ≠ 1 := by simpa using h10
          obtain rfl : r = 0 := by rw [← hr0.out, msgE, if_pos hval, hk, hm, if_pos rfl, if_neg h10']
          obtain rfl : v = m := by rw [← hv0.out, msgV, hr0.out, if_pos rfl, hm]
          clear hkm h10' hm hk hval hv0 hr0 hg hA hB hH nA nB nH
          go_enter Tryd.func71, Tryd.ntmps71
          go_wp2_with fail
          refine (bvalid_any P Q G A B H true HV hQ _ HV0).mono ?_
          rintro e w1 ⟨rfl, hb0⟩
          have hb1 := below_bbox hb0
          have HV1 := Lib.hid (HV0.out.below hb0)
          have HX1 := Lib.hid (HB0.out.below hb0)
          obtain ⟨⟨c0, c1, c2⟩, c3, c4, c5⟩ := HX1.out
          clear hb0
          go_wp2_with fail
          refine (contains_any P Q G key true HK hQ _ HV1).mono ?_
          rintro e w2 ⟨rfl, hb0⟩
          have hb2 := below_ext hb1 hb0
          have HV2 := Lib.hid (HV1.out.below hb0)
          clear c0 c1 c2 c3 c4 c5
          obtain ⟨⟨c0, c1, c2⟩, c3, c4, c5⟩ := HX1.out.below hb0
          clear hb0
          go_wp2_with fail
          refine (gmul_ok P Q G key B v HCK HM hQ _ HV2).mono ?_
          rintro e w3 ⟨rfl, hb0⟩
          have hb3 := below_ext hb2 hb0
          clear hb0
          go_wp2
          go_ret2
          exact ⟨rfl, hb3⟩
end Go.Proofs.YtdlhodbiaoafiaaDoor
namespace Go.Proofs.YtdlhodbiaoafiaaDoor
open Go.RowKit SpM
set_option linter.unusedVariables false
set_option linter.unusedSimpArgs false
set_option maxRecDepth 100000
theorem isB_of {l : List Int} (h : bytesB l = true) : isB l := fun x hx => by
  have h2 := List.all_eq_true.1 h x hx
  simpa using h2
theorem encL_ints (l : List Int) : (encL (l.map .int)).length = 9 * l.length := by
  induction l with
  | nil => rfl
  | cons x t ih =>
    rw [List.map_cons, encL, List.length_append, ih, enc_int, List.length_cons, List.length_cons]
    rw [show (be8 (x % 18446744073709551616)).length = 8 from be8_len _]
    omega
theorem enc_ints_len (l : List Int) : (enc (.lst (l.map .int))).length = 5 + 9 * l.length := by
  rw [enc_lst, List.length_cons, List.length_append, be4_len, encL_ints]
  omega
def tagAc : ByteArray := ⟨#[115, 112, 101, 99, 105, 101, 47, 97, 99, 99, 111, 117, 110, 116]⟩
/-- the numbers that a name is made of; their hash; the name. -/
def nmL (P Q G A B H key : Int) : List Int := [P, Q, G, A, B, H, key]
def nmH (l : List Int) : List Int := tagged (bys tagAc) (enc (.lst (l.map .int)))
def nmT (l : List Int) : ByteArray := (txt (hexL (nmH l))).extract 0 16
theorem nmH_b (l : List Int) : isB (nmH l) := isB_of (sha_bytes _)
theorem txt_size (l : List Int) : (txt l).size = l.length := by simp [txt, ByteArray.size]
def r64 (l : List Int) : Prop := ∀ x ∈ l, -9223372036854775808 ≤ x ∧ x < 9223372036854775808
theorem fits_ints {l : List Int} (h : r64 l) (hl : l.length ≤ 1000) : fits 1 (.lst (l.map .int)) :=
  ⟨by rw [List.length_map]; exact hl, fun y hy => by
    obtain ⟨x, hx, rfl⟩ := List.mem_map.1 hy
    exact h x hx⟩
theorem cells7 (w : World) (T : TypeId) (a b c d e f g : Int) : Sl (w.alloc (.cells #[.int .i64 a, .int .i64 b, .int .i64 c, .int .i64 d, .int .i64 e, .int .i64 f, .int .i64 g] T)) (some ⟨w.heap.size, 0, none⟩) [a, b, c, d, e, f, g] := fun k hk => ⟨w.heap.size, 0, rfl, by
  rw [Nat.zero_add, cell_blk (heap_alloc_new _ _)]
  rcases (show k = 0 ∨ k = 1 ∨ k = 2 ∨ k = 3 ∨ k = 4 ∨ k = 5 ∨ k = 6 by simp at hk; omega) with rfl | rfl | rfl | rfl | rfl | rfl | rfl <;> rfl⟩
set_option maxHeartbeats 1600000 in
theorem name_x (P Q G A B H key v r : Int) (hv0 : Hid (msgV P Q G A B H key = v)) (hr0 : Hid (msgE P Q G A B H key = r)) (hr : Hid (r = 10)) (hQ : Q < 9223372036854775808) (w : World) (hv : Hid (Vars w)) (hd : Hid (VarsD w)) :
    Calls Tryd.prog 28 #[bv P Q G A B H, .int .i64 key] w fun e w' => e = .returned (.tuple #[.string ⟨#[]⟩, .int .i64 2]) ∧ Below w.heap.size w w' := by
  have HV0 := Lib.hid (hv.out.below (below_box0 w (bObj P Q G A B H)))
  have HB0 := Lib.hid (bbox_alloc w P Q G A B H)
  have HD0 := Lib.hid (hd.out.below (below_box0 w (bObj P Q G A B H)))
  go_enter Tryd.func28, Tryd.ntmps28
  go_wp2_with fail
  refine (message_any P Q G A B H key v r hv0 hr0 hQ _ HV0).mono ?_
  rintro e w1 ⟨rfl, hb1⟩
  have HB1 := Lib.hid (HB0.out.below hb1)
  have HD1 := Lib.hid (HD0.out.below hb1)
  have HL1 := Lib.hid (below_ext (below_box0 w (bObj P Q G A B H)) hb1)
  clear hb1 HV0 HB0 HD0 hv hd
  have hr1 := hr.out
  subst hr1
  go_wp2
  go_ret2
  exact ⟨rfl, HL1.out⟩
set_option maxHeartbeats 1600000 in
theorem name_e (P Q G A B H key v r : Int) (hv0 : Hid (msgV P Q G A B H key = v)) (hr0 : Hid (msgE P Q G A B H key = r)) (h10 : ¬ (r = 10)) (h0 : ¬ (r = 0)) (hQ : Q < 9223372036854775808) (w : World) (hv : Hid (Vars w)) (hd : Hid (VarsD w)) :
    Calls Tryd.prog 28 #[bv P Q G A B H, .int .i64 key] w fun e w' => e = .returned (.tuple #[.string ⟨#[]⟩, .int .i64 r]) ∧ Below w.heap.size w w' := by
  have HV0 := Lib.hid (hv.out.below (below_box0 w (bObj P Q G A B H)))
  have HB0 := Lib.hid (bbox_alloc w P Q G A B H)
  have HD0 := Lib.hid (hd.out.below (below_box0 w (bObj P Q G A B H)))
  go_enter Tryd.func28, Tryd.ntmps28
  go_wp2_with fail
  refine (message_any P Q G A B H key v r hv0 hr0 hQ _ HV0).mono ?_
  rintro e w1 ⟨rfl, hb1⟩
  have HB1 := Lib.hid (HB0.out.below hb1)
  have HD1 := Lib.hid (HD0.out.below hb1)
  have HL1 := Lib.hid (below_ext (below_box0 w (bObj P Q G A B H)) hb1)
  clear hb1 HV0 HB0 HD0 hv hd
  have g0 : (r == 10) = false := by simp [h10]
  have g1 : (r == 0) = false := by simp [h0]
  have g2 : (r != 0) = true := by simp [h0]
  go_wp2
  go_ret2
  exact ⟨rfl, HL1.out⟩
set_option maxHeartbeats 1600000 in
theorem name_o (P Q G A B H key v r : Int) (hv0 : Hid (msgV P Q G A B H key = v)) (hr0 : Hid (msgE P Q G A B H key = r)) (hr : Hid (r = 0)) (hx : Hid (r64 (nmL P Q G A B H key))) (hQ : Q < 9223372036854775808) (w : World) (hv : Hid (Vars w)) (hd : Hid (VarsD w)) :
    Calls Tryd.prog 28 #[bv P Q G A B H, .int .i64 key] w fun e w' => e = .returned (.tuple #[.string (nmT (nmL P Q G A B H key)), .int .i64 0]) ∧ Below w.heap.size w w' := by
  have HV0 := Lib.hid (hv.out.below (below_box0 w (bObj P Q G A B H)))
  have HB0 := Lib.hid (bbox_alloc w P Q G A B H)
  have HD0 := Lib.hid (hd.out.below (below_box0 w (bObj P Q G A B H)))
  go_enter Tryd.func28, Tryd.ntmps28
  go_wp2_with fail
  refine (message_any P Q G A B H key v r hv0 hr0 hQ _ HV0).mono ?_
  rintro e w1 ⟨rfl, hb1⟩
  have HB1 := Lib.hid (HB0.out.below hb1)
  have HD1 := Lib.hid (HD0.out.below hb1)
  have HL1 := Lib.hid (below_ext (below_box0 w (bObj P Q G A B H)) hb1)
  clear hb1 HV0 HB0 HD0 hv hd
  have hr1 := hr.out
  subst hr1
  obtain ⟨⟨c0, c1, c2⟩, c3, c4, c5⟩ := HB1.out
  obtain ⟨L, hL⟩ : ∃ L, nmL P Q G A B H key = L := ⟨_, rfl⟩
  have HL := Lib.hid hL
  have HS : Hid (Sl (w1.alloc (.cells #[.int .i64 P, .int .i64 Q, .int .i64 G, .int .i64 A, .int .i64 B, .int .i64 H, .int .i64 key] 3)) (some ⟨w1.heap.size, 0, none⟩) L) := Lib.hid (by rw [← hL]; exact cells7 _ _ _ _ _ _ _ _ _)
  have HLN : Hid (L.length = 7) := Lib.hid (by rw [← hL]; rfl)
  have HX : Hid (r64 L) := Lib.hid (by rw [← hL]; exact hx.out)
  clear hL hx
  go_wp2_with fail
  refine (ints_any _ L 7 7 HLN (by decide) _ HS).mono ?_
  rintro e w2 ⟨ci, rfl, hci, hb2⟩
  have HCI := Lib.hid hci
  have HL2 := Lib.hid (below_ext HL1.out (below_ext (below_box0 w1 (.cells #[.int .i64 P, .int .i64 Q, .int .i64 G, .int .i64 A, .int .i64 B, .int .i64 H, .int .i64 key] 3)) hb2))
  have HD2 := Lib.hid (HD1.out.below (below_ext (below_box0 w1 (.cells #[.int .i64 P, .int .i64 Q, .int .i64 G, .int .i64 A, .int .i64 B, .int .i64 H, .int .i64 key] 3)) hb2))
  clear hci hb2 HS HL1 HD1 c0 c1 c2 c3 c4 c5 HB1
  go_wp2_with fail
  refine (encode_any (.lst (L.map .int)) ci _ (fits_mono (fits_ints HX.out (by have := HLN.out; omega)) (by decide)) HCI.out (by rw [enc_ints_len]; have := HLN.out; omega)).mono ?_
  rintro e w3 ⟨ve, rfl, hve, hb3⟩
  obtain ⟨g, cap, rfl, hg, hn, hc2, hsk⟩ := hve.cells (enc_pos _)
  have hen : (enc (.lst (L.map .int))).length = 68 := by rw [enc_ints_len, HLN.out]
  have HEN := Lib.hid hen
  have HSK := Lib.hid hsk
  have HL3 := Lib.hid (below_ext HL2.out hb3)
  have HD3 := Lib.hid (HD2.out.below hb3)
  have HEB : Hid (bytesB (enc (.lst (L.map .int))) = true) := Lib.hid (enc_bytes (fits_ints HX.out (by have := HLN.out; omega)))
  have HRX : Hid (nmH L = tagged (bys tagAc) (enc (.lst (L.map .int)))) := Lib.hid rfl
  rw [hen]
  obtain ⟨E, hE⟩ : ∃ E, enc (.lst (L.map .int)) = E := ⟨_, rfl⟩
  rw [hE] at HEN HSK HEB HRX
  clear hE
  clear hen hve hb3 hsk hg hn hc2 HCI HL2 HD2
  go_wp2_with fail
  refine (tagged_any tagAc (by decide) (by decide) g 0 cap E 68 HEN (by decide) (by decide) HEB _ HSK HD3).mono ?_
  rintro e w4 ⟨rfl, hb4⟩
  have HL4 := Lib.hid (below_ext HL3.out hb4)
  obtain ⟨R, hR⟩ : ∃ R, tagged (bys tagAc) E = R := ⟨_, rfl⟩
  have HRL : Hid (R.length = 32) := Lib.hid (by rw [← hR]; exact tagged_len _ _)
  have HRB : Hid (isB R) := Lib.hid (by rw [← hR, ← HRX.out]; exact nmH_b L)
  have HT : Kp (nmT L = (txt (hexL R)).extract 0 16) := ⟨by rw [← hR, ← HRX.out]; rfl⟩
  rw [hR, show HashOk R = .tuple #[.agg (arr .u8 R), .int .i64 0] from rfl]
  clear hR hb4 HSK HEN HL3 HD3
  go_upto_region 10 with ((with_reducible show wpList _ _ _ (⟨none, _, _, _, _, _⟩ :: _) _ _); refine wpList_store_row rfl 43 _ _ rfl w4.heap.size (arr .u8 R) rfl rfl _ _ (heap_alloc_new _ _) (hash_info HRL.out) (arrs_sz (l := zer 32) rfl HRL.out) (arr_one _) ?_)
  rw [World.setRow_alloc_new]
  try simp only [Act.put]
  have HK3 : Hid (Blk .u8 43 (w4.alloc (.cells (arr .u8 R) 43)) w4.heap.size R) := Lib.hid (Blk.new _ _)
  have HB5 := Lib.hid (below_ext HL4.out (below_box0 w4 (.cells (arr .u8 R) 43)))
  obtain ⟨W5, hW5⟩ : ∃ u, w4.alloc (.cells (arr .u8 R) 43) = u := ⟨_, rfl⟩
  rw [hW5] at HK3 HB5 ⊢
  clear hW5
  go_wp2_with ((with_reducible show wpList _ _ _ (⟨some 56, _, _, _, _, _⟩ :: _) _ _); refine wpList_load_row rfl 43 _ rfl w4.heap.size rfl _ _ _ _ HK3.out Tryd.underlying43 rfl (hash_info HRL.out) ?_)
  refine (hex_any R HRL HRB _).mono ?_
  rintro e w6 ⟨rfl, hb6⟩
  have HL6 := Lib.hid (below_ext HB5.out hb6)
  have hsz : (txt (hexL R)).size = 64 := by rw [txt_size, hexL_len, HRL.out]
  obtain ⟨X, hX⟩ : ∃ X, txt (hexL R) = X := ⟨_, rfl⟩
  rw [hX] at hsz ⊢
  have HXX := Lib.hid hX
  clear hX hb6 HB5
  go_wp2
  go_ret2
  exact ⟨by rw [HL.out, HT.out, HXX.out]; rfl, HL6.out⟩
end Go.Proofs.YtdlhodbiaoafiaaDoor
namespace Go.Proofs.YtdlhodbiaoafiaaDoor
open Go.RowKit SpM
set_option linter.unusedVariables false
set_option linter.unusedSimpArgs false
set_option maxRecDepth 100000
theorem cells6 (w : World) (T : TypeId) (a b c d e f : Int) : Sl (w.alloc (.cells #[.int .i64 a, .int .i64 b, .int .i64 c, .int .i64 d, .int .i64 e, .int .i64 f] T)) (some ⟨w.heap.size, 0, none⟩) [a, b, c, d, e, f] := fun k hk => ⟨w.heap.size, 0, rfl, by
  rw [Nat.zero_add, cell_blk (heap_alloc_new _ _)]
  rcases (show k = 0 ∨ k = 1 ∨ k = 2 ∨ k = 3 ∨ k = 4 ∨ k = 5 by simp at hk; omega) with rfl | rfl | rfl | rfl | rfl | rfl <;> rfl⟩
theorem rnumbers_any (P Q G A B H : Int) (w : World) :
    Calls Tryd.prog 80 #[bv P Q G A B H] w fun e w' => ∃ A2, e = .returned (.slice A2 6 6) ∧ Sl w' A2 [P, Q, G, A, B, H] ∧ Below w.heap.size w w' := by
  obtain ⟨⟨c0, c1, c2⟩, c3, c4, c5⟩ := bbox_alloc w P Q G A B H
  go_enter Tryd.func80, Tryd.ntmps80
  go_wp2
  go_ret
  have h6 := cells6 (w.alloc (bObj P Q G A B H)) 3 P Q G A B H
  rw [show (w.alloc (bObj P Q G A B H)).heap.size = w.heap.size + 1 by simp] at h6
  exact ⟨_, rfl, h6, below_two (Below.refl _ _)⟩
set_option maxHeartbeats 6400000 in
theorem rname_any (P Q G A B H key : Int) (hx : Hid (r64 (nmL P Q G A B H key))) (w : World) :
    Calls Tryd.prog 33 #[bv P Q G A B H, .int .i64 key] w fun e w' => e = .returned (.string (nmT (nmL P Q G A B H key))) ∧ Below w.heap.size w w' := by
  obtain ⟨i0, hi, hz0, hz1, hz2⟩ := info_parts itemInfo
  have HB0 := Lib.hid (bbox_alloc w P Q G A B H)
  obtain ⟨⟨c0, c1, c2⟩, c3, c4, c5⟩ := HB0.out
  go_enter Tryd.func33, Tryd.ntmps33
  go_wp2_with fail
  refine (rnumbers_any P Q G A B H _).mono ?_
  rintro e w2 ⟨A2, rfl, hS2, hb2⟩
  have HL2 := Lib.hid (below_ext (below_box0 w (bObj P Q G A B H)) hb2)
  have HS := Lib.hid hS2
  clear hS2 hb2 c0 c1 c2 c3 c4 c5 HB0
  obtain ⟨l, hl⟩ : ∃ l, [P, Q, G, A, B, H] = l := ⟨_, rfl⟩
  have hn : Hid (l.length = 6) := Lib.hid (by rw [← hl]; rfl)
  have HLL : Hid (nmL P Q G A B H key = l ++ [key]) := Lib.hid (by rw [← hl]; rfl)
  rw [hl] at HS
  clear hl
  obtain ⟨W, hW⟩ : ∃ W, w2.alloc (.cells #[.int .i64 3, .int .i64 0, .slice none 0 0, .slice none 0 0] 96) = W := ⟨_, rfl⟩
  have HBX : Hid (Below w2.heap.size w2 W) := Lib.hid (by rw [← hW]; exact below_box0 _ _)
  have HSZ : Hid (W.heap.size = w2.heap.size + 1) := Lib.hid (by rw [← hW]; simp)
  have hF : W.heap[w2.heap.size]? = some (.cells #[.int .i64 3, .int .i64 0, .slice none 0 0, .slice none 0 0] 96 (0, 0)) := by rw [← hW]; exact heap_alloc_new _ _
  have HX : Hid (Own W ⟨w2.heap.size, 0, none⟩ (.int .i64 3) ∧ Own W ⟨w2.heap.size, 1, none⟩ (.int .i64 0) ∧ Own W ⟨w2.heap.size, 2, none⟩ (.slice none 0 0)) := Lib.hid ⟨⟨cell_blk hF 0, frozen_blk hF 0⟩, ⟨cell_blk hF 1, frozen_blk hF 1⟩, ⟨cell_blk hF 2, frozen_blk hF 2⟩⟩
  have HL : Hid (Own W ⟨w2.heap.size, 3, none⟩ (.slice none 0 0)) := Lib.hid ⟨cell_blk hF 3, frozen_blk hF 3⟩
  have HW := Lib.hid hW
  clear hW hF
  go_wp2
  rw [HW.out]
  go_loopw [7] (fun i u => ∃ (k : Nat) (v : Value), k ≤ 6 ∧ i = .int .i64 k ∧ Hid (Own u ⟨w2.heap.size, 3, none⟩ v) ∧ Hid (OwnI u (w2.heap.size + 1) v ((l.take k).map icInt)) ∧ Hid (Own u ⟨w2.heap.size, 0, none⟩ (.int .i64 3) ∧ Own u ⟨w2.heap.size, 1, none⟩ (.int .i64 0) ∧ Own u ⟨w2.heap.size, 2, none⟩ (.slice none 0 0)) ∧ Hid (Below w2.heap.size W u)) (fun i _ => 6 - (intOf i).toNat)
  case atStart => exact ⟨0, _, by omega, rfl, HL, Lib.hid (ownI_nil _ _), HX, Lib.hid (Below.refl _ _)⟩
  case round =>
    obtain ⟨k, v, hk, rfl, HV, HO, HX3, HBr⟩ := hrel
    by_cases hlt : k < 6
    · have hkl : k < l.length := by rw [hn.out]; exact hlt
      obtain ⟨b, o, hA, hc⟩ := (HS.out.below (HBX.out.trans HBr.out)) k hkl
      subst hA
      have HTK := Lib.hid (icInt_take hkl)
      obtain ⟨x, hx⟩ : ∃ x, l.getD k 0 = x := ⟨_, rfl⟩
      rw [hx] at hc HTK
      have HLN : Hid (((l.take k).map icInt).length = k) := Lib.hid (by rw [List.length_map, List.length_take]; omega)
      have hown : wr.ownsRow (w2.heap.size + 1) 96 4 v k (((l.take k).map icInt).flatMap itemCells) := by have h := HO.out; unfold OwnI at h; rwa [HLN.out] at h
      have hbs : w2.heap.size + 1 ≤ wr.heap.size := by have := HBr.out.size; have := HSZ.out; omega
      have hno : v.ownBlock ≠ some w2.heap.size := HO.out.no (by omega)
      obtain ⟨v3, v3f⟩ := HV.out
      have hS := Lib.hid (show ∀ u1 : World, Hid (Below wr.drew.heap.size wr.drew u1) → (u1.cell? ⟨w2.heap.size, 3, none⟩ = some v ∧ u1.cell? ⟨b, o + k, none⟩ = some (.int .i64 x) ∧ Hid (Below wr.drew.heap.size wr.drew u1)) from fun u1 h1 => ⟨cell_below (w := wr.drew) v3 h1.out, cell_below (w := wr.drew) hc h1.out, h1⟩)
      have HOWN := Lib.hid hown
      clear hx hkl hown v3 v3f hc
      go_wp2
      refine wp_region_T (S := fun w' => w'.cell? ⟨w2.heap.size, 3, none⟩ = some v ∧ w'.cell? ⟨b, o + k, none⟩ = some (.int .i64 x) ∧ Hid (Below wr.drew.heap.size wr.drew w')) (E := [8, 9, 10]) (by kernel_rfl) (hS.out _ (Lib.hid (Below.refl _ _))) (fun hHeld => ?_)
      refine wpT_take (i := 0) (oi := _) (v := ?_) rfl (by kernel_rfl) (by kernel_rfl) (by kernel_rfl) (by kernel_rfl) (fun _ _ _ h => h) (Or.inl ⟨by rfl, ?_⟩) (by assumption) ?_
      rotate_left; (intro wS hSw; (try dsimp only at hSw); go_simp <;> with_reducible rfl)
      try simp only [List.getElem_toArray, List.getElem_cons_zero, List.getElem_cons_succ, Act.put, List.setIfInBounds_toArray, List.set_cons_zero, List.set_cons_succ]
      refine wpT_take (i := 1) (oi := _) (v := ?_) rfl (by kernel_rfl) (by kernel_rfl) (by kernel_rfl) (by kernel_rfl) (fun _ _ _ h => h) (Or.inl ⟨by rfl, ?_⟩) (by assumption) ?_
      rotate_left; (intro wS hSw; (try dsimp only at hSw); go_simp <;> with_reducible rfl)
      try simp only [List.getElem_toArray, List.getElem_cons_zero, List.getElem_cons_succ, Act.put, List.setIfInBounds_toArray, List.set_cons_zero, List.set_cons_succ]
      refine wpT_take (i := 2) (oi := _) (v := ?_) rfl (by kernel_rfl) (by kernel_rfl) (by kernel_rfl) (by kernel_rfl) (fun _ _ _ h => h) (Or.inl ⟨by rfl, ?_⟩) (by assumption) ?_
      rotate_left; (intro wS hSw; (try dsimp only at hSw); go_simp <;> with_reducible rfl)
      try simp only [List.getElem_toArray, List.getElem_cons_zero, List.getElem_cons_succ, Act.put, List.setIfInBounds_toArray, List.set_cons_zero, List.set_cons_succ]
      refine wpT_take (i := 3) (oi := _) (v := ?_) rfl (by kernel_rfl) (by kernel_rfl) (by kernel_rfl) (by kernel_rfl) (fun _ _ _ h => h) (Or.inl ⟨by rfl, ?_⟩) (by assumption) ?_
      rotate_left; (intro wS hSw; (try dsimp only at hSw); go_simp <;> with_reducible rfl)
      try simp only [List.getElem_toArray, List.getElem_cons_zero, List.getElem_cons_succ, Act.put, List.setIfInBounds_toArray, List.set_cons_zero, List.set_cons_succ]
      refine wpT_take (i := 4) (oi := _) (v := ?_) rfl (by kernel_rfl) (by kernel_rfl) (by kernel_rfl) (by kernel_rfl) (fun _ _ _ h => h) (Or.inl ⟨by rfl, ?_⟩) (by assumption) ?_
      rotate_left; (intro wS hSw; (try dsimp only at hSw); go_simp <;> with_reducible rfl)
      try simp only [List.getElem_toArray, List.getElem_cons_zero, List.getElem_cons_succ, Act.put, List.setIfInBounds_toArray, List.set_cons_zero, List.set_cons_succ]
      refine wpT_take (i := 5) (oi := _) (v := ?_) rfl (by kernel_rfl) (by kernel_rfl) (by kernel_rfl) (by kernel_rfl) (fun _ _ _ h => h) (Or.inl ⟨by rfl, ?_⟩) (by assumption) ?_
      rotate_left; (intro wS hSw; (try dsimp only at hSw); go_simp <;> with_reducible rfl)
      try simp only [List.getElem_toArray, List.getElem_cons_zero, List.getElem_cons_succ, Act.put, List.setIfInBounds_toArray, List.set_cons_zero, List.set_cons_succ]
      refine wpT_take (i := 6) (oi := _) (v := ?_) rfl (by kernel_rfl) (by kernel_rfl) (by kernel_rfl) (by kernel_rfl) (fun _ _ _ h => h) (Or.inl ⟨by rfl, ?_⟩) (by assumption) ?_
      rotate_left; (intro wS hSw; (try dsimp only at hSw); go_simp <;> with_reducible rfl)
      try simp only [List.getElem_toArray, List.getElem_cons_zero, List.getElem_cons_succ, Act.put, List.setIfInBounds_toArray, List.set_cons_zero, List.set_cons_succ]
      refine wpT_one (i := 7) (by kernel_rfl) rfl (fun K hK => ?_)
      go_simp
      refine hK.out _ _ ?_ (fun hHeld => ?_)
      · exact hS.out _ (Lib.hid (below_box0 _ _))
      clear hK K
      try simp only [List.getElem_toArray, List.getElem_cons_zero, List.getElem_cons_succ, Act.put, List.setIfInBounds_toArray, List.set_cons_zero, List.set_cons_succ]
      refine wpT_pass (i := 8) (by kernel_rfl) (by simp) rfl (fun K hK => ?_)
      refine step_append_lies _ (by rfl) _ _ _ (by rfl) (w2.heap.size + 1) 96 i0 _ 4 64 Tryd.underlying94 hi hz0 hz1 hz2 rfl (by omega) v k (((l.take k).map icInt).flatMap itemCells) (by rfl) ((HOWN.out.alloc _).drew)
        ⟨wr.heap.size, 0, none⟩ 1 1 [.int .i64 1, .int .i64 x, .slice none 0 0, .slice none 0 0] (by rfl) (by rfl) (World.news_of_block (cs := #[.int .i64 1, .int .i64 x, .slice none 0 0, .slice none 0 0]) (t := 96) (fr := (0, 0)) (heap_alloc_new wr _)) (by simp [Value.oneCell'])
        (by omega) (by unfold maxLen; omega) (by omega) (by simp; omega) (wr.heap.size + 1) (by simp) ?_; intro gg cap wz hown1 hgrow hat hlt2
      have HVz := own_grown2 (w := (wr.alloc (.cells #[.int .i64 1, .int .i64 x, .slice none 0 0, .slice none 0 0] 96)).drew) (HV.out.below (below_box0 wr (.cells #[.int .i64 1, .int .i64 x, .slice none 0 0, .slice none 0 0] 96)).drew) hgrow hno
      have HVY := HVz
      obtain ⟨p2, f2⟩ := HVY
      refine hK.out _ _ ?_
      clear hK K
      try simp only [List.getElem_toArray, List.getElem_cons_zero, List.getElem_cons_succ, Act.put, List.setIfInBounds_toArray, List.set_cons_zero, List.set_cons_succ]
      refine wpT_pass (i := 9) (by kernel_rfl) (by simp) rfl (fun K hK => ?_)
      go_simp
      refine hK.out _ _ ?_
      clear hK K
      try simp only [List.getElem_toArray, List.getElem_cons_zero, List.getElem_cons_succ, Act.put, List.setIfInBounds_toArray, List.set_cons_zero, List.set_cons_succ]
      refine wpT_pass (i := 10) (by kernel_rfl) (by simp) rfl (fun K hK => ?_)
      go_simp
      refine hK.out _ _ ?_
      clear hK K
      try simp only [List.getElem_toArray, List.getElem_cons_zero, List.getElem_cons_succ, Act.put, List.setIfInBounds_toArray, List.set_cons_zero, List.set_cons_succ]
      refine wpT_done (by kernel_rfl) ?_ _
      have HB2 : Hid (Below w2.heap.size W wz) := Lib.hid (((HBr.out.alloc (by omega) (.cells #[.int .i64 1, .int .i64 x, .slice none 0 0, .slice none 0 0] 96)).drew).grown hgrow (by simp; omega) (fun j hj => by have := (World.ownsRow.lt HOWN.out j hj).1; omega))
      have HO2 : Hid (OwnI wz (w2.heap.size + 1) (.slice (some ⟨gg, 0, none⟩) (k + 1) cap) ((l.take (k + 1)).map icInt)) := Lib.hid (by
        rw [HTK.out]
        exact OwnI.app HLN.out.symm hown1)
      have hd := (Below.refl wr.heap.size wr)
      have a0 := own_grown2 (w := (wr.alloc (.cells #[.int .i64 1, .int .i64 x, .slice none 0 0, .slice none 0 0] 96)).drew) (HX3.out.1.below (below_box0 wr (.cells #[.int .i64 1, .int .i64 x, .slice none 0 0, .slice none 0 0] 96)).drew) hgrow hno
      have a1 := own_grown2 (w := (wr.alloc (.cells #[.int .i64 1, .int .i64 x, .slice none 0 0, .slice none 0 0] 96)).drew) (HX3.out.2.1.below (below_box0 wr (.cells #[.int .i64 1, .int .i64 x, .slice none 0 0, .slice none 0 0] 96)).drew) hgrow hno
      have a2 := own_grown2 (w := (wr.alloc (.cells #[.int .i64 1, .int .i64 x, .slice none 0 0, .slice none 0 0] 96)).drew) (HX3.out.2.2.below (below_box0 wr (.cells #[.int .i64 1, .int .i64 x, .slice none 0 0, .slice none 0 0] 96)).drew) hgrow hno
      have HV4 : Hid (Own (wz.setCell ⟨w2.heap.size, 3, none⟩ (.slice (some ⟨gg, 0, none⟩) (k + 1) cap)) ⟨w2.heap.size, 3, none⟩ (.slice (some ⟨gg, 0, none⟩) (k + 1) cap)) := Lib.hid (own_set_eq2 HVz)
      have HO4 : Hid (OwnI (wz.setCell ⟨w2.heap.size, 3, none⟩ (.slice (some ⟨gg, 0, none⟩) (k + 1) cap)) (w2.heap.size + 1) (.slice (some ⟨gg, 0, none⟩) (k + 1) cap) ((l.take (k + 1)).map icInt)) := Lib.hid (HO2.out.set (by omega))
      have HX4 : Hid (Own (wz.setCell ⟨w2.heap.size, 3, none⟩ (.slice (some ⟨gg, 0, none⟩) (k + 1) cap)) ⟨w2.heap.size, 0, none⟩ (.int .i64 3) ∧ Own (wz.setCell ⟨w2.heap.size, 3, none⟩ (.slice (some ⟨gg, 0, none⟩) (k + 1) cap)) ⟨w2.heap.size, 1, none⟩ (.int .i64 0) ∧ Own (wz.setCell ⟨w2.heap.size, 3, none⟩ (.slice (some ⟨gg, 0, none⟩) (k + 1) cap)) ⟨w2.heap.size, 2, none⟩ (.slice none 0 0)) :=
        Lib.hid ⟨own_set_ne2 a0 (by simp), own_set_ne2 a1 (by simp), own_set_ne2 a2 (by simp)⟩
      have HB4 : Hid (Below w2.heap.size W (wz.setCell ⟨w2.heap.size, 3, none⟩ (.slice (some ⟨gg, 0, none⟩) (k + 1) cap))) := Lib.hid (HB2.out.setCell (Nat.le_refl _) _)
      clear hown1 hgrow HO HX3 HV p2 f2 a0 a1 a2 HB2 HO2 HVz hd
      go_wp2
      go_roundw
      case rel => exact ⟨k + 1, _, by omega, by go_num, HV4, HO4, HX4, HB4⟩
      case measure => simp [intOf]; omega
    · obtain rfl : k = 6 := by omega
      have HO5 : Hid (OwnI wr (w2.heap.size + 1) v (l.map icInt)) := Lib.hid (by
        have h := HO.out
        rwa [List.take_of_length_le (by have := hn.out; omega)] at h)
      have HLN : Hid ((l.map icInt).length = 6) := Lib.hid (by rw [List.length_map, hn.out])
      have hown : wr.ownsRow (w2.heap.size + 1) 96 4 v 6 ((l.map icInt).flatMap itemCells) := by have h := HO5.out; unfold OwnI at h; rwa [HLN.out] at h
      have HOWN := Lib.hid hown
      have hbs : w2.heap.size + 1 ≤ wr.heap.size := by have := HBr.out.size; have := HSZ.out; omega
      have hno : v.ownBlock ≠ some w2.heap.size := HO5.out.no (by omega)
      obtain ⟨v3, v3f⟩ := HV.out
      have b3 : w2.heap.size + 1 ≤ (wr.alloc (.cells #[.int .i64 1, .int .i64 key, .slice none 0 0, .slice none 0 0] 96)).heap.size := by simp; omega
      go_wp2_with (at_builtin; refine wpList_append_lies rfl _ _ 94 rfl (w2.heap.size + 1) 96 i0 _ 4 64 Tryd.underlying94 hi hz0 hz1 hz2 rfl (by decide) v 6 _ rfl (HOWN.out.alloc _) ⟨wr.heap.size, 0, none⟩ 1 1 [.int .i64 1, .int .i64 key, .slice none 0 0, .slice none 0 0] rfl rfl (World.news_of_block (cs := #[.int .i64 1, .int .i64 key, .slice none 0 0, .slice none 0 0]) (t := 96) (fr := (0, 0)) (heap_alloc_new wr _)) (by simp [Value.oneCell']) (by decide) (by decide) (by decide) b3 _ rfl ?_; intro gg cap wz hown1 hgrow hat hlt2; have HVz := own_grown2 (w := wr.alloc (.cells #[.int .i64 1, .int .i64 key, .slice none 0 0, .slice none 0 0] 96)) (HV.out.below (below_box0 wr (.cells #[.int .i64 1, .int .i64 key, .slice none 0 0, .slice none 0 0] 96))) hgrow hno; have HVY := HVz; obtain ⟨p2, f2⟩ := HVY; have a0 := own_grown2 (w := wr.alloc (.cells #[.int .i64 1, .int .i64 key, .slice none 0 0, .slice none 0 0] 96)) (HX3.out.1.below (below_box0 wr (.cells #[.int .i64 1, .int .i64 key, .slice none 0 0, .slice none 0 0] 96))) hgrow hno; have a1 := own_grown2 (w := wr.alloc (.cells #[.int .i64 1, .int .i64 key, .slice none 0 0, .slice none 0 0] 96)) (HX3.out.2.1.below (below_box0 wr (.cells #[.int .i64 1, .int .i64 key, .slice none 0 0, .slice none 0 0] 96))) hgrow hno; have a2 := own_grown2 (w := wr.alloc (.cells #[.int .i64 1, .int .i64 key, .slice none 0 0, .slice none 0 0] 96)) (HX3.out.2.2.below (below_box0 wr (.cells #[.int .i64 1, .int .i64 key, .slice none 0 0, .slice none 0 0] 96))) hgrow hno; obtain ⟨a0, a0f⟩ := a0; obtain ⟨a1, a1f⟩ := a1; obtain ⟨a2, a2f⟩ := a2)
      obtain ⟨L, hL⟩ : ∃ L, l ++ [key] = L := ⟨_, rfl⟩
      have HO2 : OwnI wz (w2.heap.size + 1) (.slice (some ⟨gg, 0, none⟩) 7 cap) (L.map icInt) := by
        rw [← hL, List.map_append]
        exact OwnI.app HLN.out.symm hown1
      have HB2 : Below w2.heap.size W wz := (HBr.out.alloc (by omega) (.cells #[.int .i64 1, .int .i64 key, .slice none 0 0, .slice none 0 0] 96)).grown hgrow (by simp; omega) (fun j hj => by have := (World.ownsRow.lt HOWN.out j hj).1; omega)
      obtain ⟨WF, hWF⟩ : ∃ u, wz.setCell ⟨w2.heap.size, 3, none⟩ (.slice (some ⟨gg, 0, none⟩) 7 cap) = u := ⟨_, rfl⟩
      have HBF : Hid (Below w.heap.size w WF) := Lib.hid (by
        rw [← hWF]
        exact below_ext HL2.out (HBX.out.trans (HB2.setCell (Nat.le_refl _) _)))
      have hLn : L.length = 7 := by rw [← hL, List.length_append, hn.out]; rfl
      have HIT : Hid (ItR WF (.lst (L.map .int)) ⟨3, 0, none, 0, 0, some ⟨gg, 0, none⟩, 7, cap⟩) := Lib.hid (by
        obtain ⟨L1, cl, e1, e2⟩ := itr_ints (OwnI.set (a := w2.heap.size) (j := 3) (u := .slice (some ⟨gg, 0, none⟩) 7 cap) HO2 (Nat.lt_succ_self _))
        rw [hLn] at e1 e2
        injection e1 with e1 e3 e4
        subst e1
        subst e4
        rw [← hWF]
        exact e2)
      have HLN7 := Lib.hid hLn
      rw [hWF]
      have HX7 : Hid (r64 L) := Lib.hid (by rw [← hL, ← HLL.out]; exact hx.out)
      have HLL7 : Hid (nmL P Q G A B H key = L) := Lib.hid (by rw [HLL.out, hL])
      clear hL hLn hWF HO2 HB2 hown1 hgrow hat hlt2 HVz p2 f2 a0 a1 a2 a0f a1f a2f hown HOWN hno HO5 HO HV HX3 v3 v3f hx
      refine (renc_any 8 (.lst (L.map .int)) ⟨3, 0, none, 0, 0, some ⟨gg, 0, none⟩, 7, cap⟩ _ (fits_mono (fits_ints HX7.out (by have := HLN7.out; omega)) (by decide)) HIT.out (by rw [enc_ints_len]; have := HLN7.out; omega)).mono ?_
      rintro e w3 ⟨ve, rfl, hve, hb3⟩
      obtain ⟨g, cap, rfl, hg, hn3, hc2, hsk⟩ := hve.cells (enc_pos _)
      have hen : (enc (.lst (L.map .int))).length = 68 := by rw [enc_ints_len, HLN7.out]
      have HEN := Lib.hid hen
      have HSK := Lib.hid hsk
      have HL3 := Lib.hid (below_ext HBF.out hb3)
      have HEB : Hid (bytesB (enc (.lst (L.map .int))) = true) := Lib.hid (enc_bytes (fits_ints HX7.out (by have := HLN7.out; omega)))
      have HRX : Hid (nmH L = tagged (bys tagAc) (enc (.lst (L.map .int)))) := Lib.hid rfl
      rw [hen]
      obtain ⟨E, hE⟩ : ∃ E, enc (.lst (L.map .int)) = E := ⟨_, rfl⟩
      rw [hE] at HEN HSK HEB HRX
      clear hE hen hve hb3 hsk hg hn3 hc2 HBF HIT
      go_wp2_with fail
      refine (rtagged_any tagAc (by decide) (by decide) g 0 cap E 68 HEN (by decide) (by decide) HEB _ HSK).mono ?_
      rintro e w4 ⟨rfl, hb4⟩
      have HL4 := Lib.hid (below_ext HL3.out hb4)
      obtain ⟨R, hR⟩ : ∃ R, tagged (bys tagAc) E = R := ⟨_, rfl⟩
      have HRL : Hid (R.length = 32) := Lib.hid (by rw [← hR]; exact tagged_len _ _)
      have HRB : Hid (isB R) := Lib.hid (by rw [← hR, ← HRX.out]; exact nmH_b L)
      have HT : Kp (nmT L = (txt (hexL R)).extract 0 16) := ⟨by rw [← hR, ← HRX.out]; rfl⟩
      rw [hR]
      clear hR hb4 HSK HEN HL3
      go_wp2_with fail
      refine (rhex_any R HRL HRB _).mono ?_
      rintro e w6 ⟨rfl, hb6⟩
      have HL6 := Lib.hid (below_ext HL4.out hb6)
      have hsz : (txt (hexL R)).size = 64 := by rw [txt_size, hexL_len, HRL.out]
      obtain ⟨X, hX⟩ : ∃ X, txt (hexL R) = X := ⟨_, rfl⟩
      rw [hX] at hsz ⊢
      have HXX := Lib.hid hX
      clear hX hb6 HL4
      go_wp2
      go_ret
      exact ⟨by rw [HLL7.out, HT.out, HXX.out]; rfl, HL6.out⟩
end Go.Proofs.YtdlhodbiaoafiaaDoor
namespace Go.Proofs.YtdlhodbiaoafiaaDoor
open Go.RowKit SpM
set_option linter.unusedVariables false
set_option linter.unusedSimpArgs false
set_option maxRecDepth 20000
theorem OwnL.mono {w : World} {B B' : Nat} {v : Value} {xs : List Int} (h : OwnL w B v xs) (hb : B' ≤ B) : OwnL w B' v xs := by
  obtain ⟨h1, h2⟩ := h
  refine ⟨h1, h2.imp id ?_⟩
  rintro ⟨g, cap, cur, rfl, hg, rest⟩
  exact ⟨g, cap, cur, rfl, by omega, rest⟩
/-- a list that the call made. -/
def ListOut (zs : List Int) (w : World) (e : Ending) (w' : World) : Prop := ∃ v, e = .returned v ∧ OwnL w' w.heap.size v zs ∧ Below w.heap.size w w'
end Go.Proofs.YtdlhodbiaoafiaaDoor
namespace Go.Proofs.YtdlhodbiaoafiaaDoor
open Go.RowKit SpM
set_option linter.unusedVariables false
set_option linter.unusedSimpArgs false
set_option maxRecDepth 100000
def lbGroup : ByteArray := { data := #[103, 114, 111, 117, 112] }
/-- what stands while the lists are absorbed. -/
def LcI (W : World) (a : Nat) (h : List Int) (c : Int) (x : Int) (u : World) : Prop := TBlk u a h c ∧ Own u ⟨a + 1, 0, none⟩ (.int .i64 x) ∧ Below W.heap.size W u
theorem LcI.alloc {W : World} {a : Nat} {h : List Int} {c x : Int} {u : World} (hI : LcI W a h c x u) (o : Obj) : LcI W a h c x (u.alloc o) :=
  ⟨hI.1.below (below_box0 _ _), hI.2.1.below (below_box0 _ _), below_ext hI.2.2 (below_box0 _ _)⟩
theorem LcI.below {W : World} {a : Nat} {h : List Int} {c x : Int} {u u' : World} (hI : LcI W a h c x u) (hb : Below u.heap.size u u') : LcI W a h c x u' :=
  ⟨hI.1.below hb, hI.2.1.below hb, below_ext hI.2.2 hb⟩
end Go.Proofs.YtdlhodbiaoafiaaDoor
namespace Go.Proofs.YtdlhodbiaoafiaaDoor
open Go.RowKit SpM
set_option linter.unusedVariables false
set_option linter.unusedSimpArgs false
set_option maxRecDepth 100000
def lbState : ByteArray := { data := #[115, 116, 97, 116, 101, 109, 101, 110, 116] }
def lbComm : ByteArray := { data := #[99, 111, 109, 109, 105, 116, 109, 101, 110, 116] }
/-- the three labelled lists, laid from block g on. -/
def KcL (P Q G b y a0 : Int) (g : Nat) (u : World) : Prop :=
  Sl u (some ⟨g, 0, none⟩) [P, Q, G] ∧ Sl u (some ⟨g + 1, 0, none⟩) [b, y] ∧ Sl u (some ⟨g + 1 + 1, 0, none⟩) [a0] ∧
  u.cell? ⟨g + 1 + 1 + 1, 0, none⟩ = some (.string lbGroup) ∧ u.cell? ⟨g + 1 + 1 + 1, 1, none⟩ = some (.slice (some ⟨g, 0, none⟩) 3 3) ∧
  u.cell? ⟨g + 1 + 1 + 1, 2, none⟩ = some (.string lbState) ∧ u.cell? ⟨g + 1 + 1 + 1, 3, none⟩ = some (.slice (some ⟨g + 1, 0, none⟩) 2 2) ∧
  u.cell? ⟨g + 1 + 1 + 1, 4, none⟩ = some (.string lbComm) ∧ u.cell? ⟨g + 1 + 1 + 1, 5, none⟩ = some (.slice (some ⟨g + 1 + 1, 0, none⟩) 1 1)
theorem KcL.below {P Q G b y a0 : Int} {g : Nat} {u u' : World} (h : KcL P Q G b y a0 g u) (hb : Below u.heap.size u u') : KcL P Q G b y a0 g u' := by
  obtain ⟨h1, h2, h3, h4, h5, h6, h7, h8, h9⟩ := h
  exact ⟨h1.below hb, h2.below hb, h3.below hb, cell_below h4 hb, cell_below h5 hb, cell_below h6 hb, cell_below h7 hb, cell_below h8 hb, cell_below h9 hb⟩
end Go.Proofs.YtdlhodbiaoafiaaDoor
namespace Go.Proofs.YtdlhodbiaoafiaaDoor
open Go.RowKit SpM
set_option linter.unusedVariables false
abbrev pObj : Obj := .cells #[.slice none 0 0, .int .i64 0, .slice none 0 0] 32
/-- a block for a proof that is handed back. -/
def RBlk (w : World) (a : Nat) : Prop := w.heap[a]? = some pObj
theorem RBlk.lt {w : World} {a : Nat} (h : RBlk w a) : a < w.heap.size := by
  unfold RBlk at h
  exact (Array.getElem?_eq_some_iff.1 h).1
theorem RBlk.below {w w' : World} {a : Nat} (h : RBlk w a) (hb : Below w.heap.size w w') : RBlk w' a := (hb.block a h.lt).trans h
end Go.Proofs.YtdlhodbiaoafiaaDoor
namespace Go.Proofs.YtdlhodbiaoafiaaDoor
open Go.RowKit SpM
set_option linter.unusedVariables false
set_option linter.unusedSimpArgs false
def PBox (w : World) (a : Nat) (x y z : Value) : Prop := w.cell? ⟨a, 0, none⟩ = some x ∧ w.cell? ⟨a, 1, none⟩ = some y ∧ w.cell? ⟨a, 2, none⟩ = some z
theorem PBox.below {w w' : World} {a : Nat} {x y z : Value} (h : PBox w a x y z) (hb : Below w.heap.size w w') : PBox w' a x y z :=
  ⟨(hb.cell (World.block_lt_of_cell? _ _ h.1)).trans h.1, (hb.cell (World.block_lt_of_cell? _ _ h.2.1)).trans h.2.1, (hb.cell (World.block_lt_of_cell? _ _ h.2.2)).trans h.2.2⟩
theorem cell_belowK {w w' : World} {p : Addr} {v : Value} (h : w.cell? p = some v) (hb : Below w.heap.size w w') : w'.cell? p = some v := (hb.cell (World.block_lt_of_cell? _ _ h)).trans h
/-- a slice of one number, if its length is 1. -/
def One (w : World) (p : Option Addr) (n : Nat) (x : Int) : Prop := n = 1 → ∃ b o, p = some ⟨b, o, none⟩ ∧ w.cell? ⟨b, o, none⟩ = some (.int .i64 x)
theorem One.below {w w' : World} {p : Option Addr} {n : Nat} {x : Int} (h : One w p n x) (hb : Below w.heap.size w w') : One w' p n x := fun e => by
  obtain ⟨b, o, h1, h2⟩ := h e
  exact ⟨b, o, h1, cell_belowK h2 hb⟩
end Go.Proofs.YtdlhodbiaoafiaaDoor
namespace Go.Proofs.YtdlhodbiaoafiaaDoor
open Go.RowKit SpM
set_option linter.unusedVariables false
set_option linter.unusedSimpArgs false
set_option maxRecDepth 100000
/-- a list that the call made, its block named. -/
def CellsOut (zs : List Int) (n : Nat) (w : World) (e : Ending) (w' : World) : Prop := ∃ g cap, e = .returned (.slice (some ⟨g, 0, none⟩) n cap) ∧ Hid (Cells w' g zs) ∧ Below w.heap.size w w'
theorem ListOut.cells {zs : List Int} {n : Nat} {w w' : World} {e : Ending} (h : ListOut zs w e w') (hn : zs.length = n) (hpos : 0 < n) : CellsOut zs n w e w' := by
  obtain ⟨v, he, ho, hb⟩ := h
  obtain ⟨g, cap, rfl, _, hc⟩ := OwnL.cells ho (by omega)
  rw [hn] at he
  exact ⟨g, cap, he, Lib.hid hc, hb⟩
end Go.Proofs.YtdlhodbiaoafiaaDoor
namespace Go.Proofs.YtdlhodbiaoafiaaDoor
open Go.RowKit SpM
set_option linter.unusedVariables false
set_option linter.unusedSimpArgs false
set_option maxRecDepth 20000
theorem RowF.below {w w' : World} {g n : Nat} {f : Nat → Int} (h : RowF w g n f) (hn : 0 < n) (hb : Below w.heap.size w w') : RowF w' g n f := by
  have hg : g < w.heap.size := World.block_lt_of_cell? _ _ (h.1 0 hn)
  exact ⟨fun j hj => (hb.cell (p := ⟨g, j, none⟩) hg).trans (h.1 j hj), fun j => (hb.frozen (p := ⟨g, j, none⟩) hg).trans (h.2 j)⟩
end Go.Proofs.YtdlhodbiaoafiaaDoor
namespace Go.Proofs.YtdlhodbiaoafiaaDoor
open Go.RowKit SpM
set_option linter.unusedVariables false
set_option linter.unusedSimpArgs false
set_option maxRecDepth 100000
def PrBox (w : World) (a : Nat) (x y z : Value) : Prop := w.cell? ⟨a, 0, none⟩ = some x ∧ w.cell? ⟨a, 1, none⟩ = some y ∧ w.cell? ⟨a, 2, none⟩ = some z
theorem PrBox.below {w w' : World} {a : Nat} {x y z : Value} (h : PrBox w a x y z) (hb : Below w.heap.size w w') : PrBox w' a x y z :=
  ⟨cell_below h.1 hb, cell_below h.2.1 hb, cell_below h.2.2 hb⟩
end Go.Proofs.YtdlhodbiaoafiaaDoor
namespace Go.Proofs.YtdlhodbiaoafiaaDoor
open Go.RowKit SpM
set_option linter.unusedVariables false
set_option linter.unusedSimpArgs false
set_option maxRecDepth 100000
/-- the relation of the example, laid from block s on. -/
def ex17R (s : Nat) : List Row := [⟨some ⟨s + 1 + 1, 0, none⟩, 1, 1, [2]⟩, ⟨some ⟨s + 1 + 1 + 1, 0, none⟩, 1, 1, [4]⟩]
def Ex17 (w : World) (s : Nat) : Prop := GBox w s 23 11 4 ∧ Sl w (some ⟨s + 1, 0, none⟩) [8, 18] ∧ Rw w (some ⟨s + 1 + 1 + 1 + 1, 0, none⟩) (ex17R s) ∧ RBox w (s + 1 + 1 + 1 + 1 + 1) (.slice (some ⟨s + 1, 0, none⟩) 2 2) (.slice (some ⟨s + 1 + 1 + 1 + 1, 0, none⟩) 2 2)
theorem Ex17.below {w w' : World} {s : Nat} (h : Ex17 w s) (hb : Below w.heap.size w w') : Ex17 w' s := ⟨h.1.below hb, h.2.1.below hb, h.2.2.1.below hb, h.2.2.2.below hb⟩
end Go.Proofs.YtdlhodbiaoafiaaDoor
namespace Go.Proofs.YtdlhodbiaoafiaaDoor
open Go.RowKit SpM
set_option linter.unusedVariables false
set_option linter.unusedSimpArgs false
set_option maxRecDepth 20000
set_option maxHeartbeats 3200000 in
theorem rbvalid_any (P Q G A B H : Int) (r : Bool) (hr : Hid (validB P Q G A B H = r)) (hQ : Q < 9223372036854775808) (w : World) :
    Calls Tryd.prog 31 #[bv P Q G A B H] w fun e' w' => e' = .returned (.bool r) ∧ Below w.heap.size w w' := by
  have HX0 := Lib.hid ((bbox_alloc w P Q G A B H).below (below_box0 _ (gObj P Q G)))
  have HG0 : Hid (GBox ((w.alloc (bObj P Q G A B H)).alloc (gObj P Q G)) (w.heap.size + 1) P Q G) := Lib.hid (by
    have e : (w.alloc (bObj P Q G A B H)).heap.size = w.heap.size + 1 := by simp
    rw [← e]; exact gbox_alloc _ _ _ _)
  cases hval : validG P Q G with
  | false =>
    obtain rfl : r = false := by rw [← hr.out, validB, hval, Bool.false_and]
    have HVL : Hid (validG P Q G = false) := hval
    clear hr hval
    go_enter Tryd.func31, Tryd.ntmps31
    go_wp2_with fail
    refine (rvalid_any P Q G false HVL hQ _).mono ?_
    rintro e w1 ⟨rfl, hb0⟩
    have hb1 := below_ext (below_two (Below.refl _ _)) hb0
    clear hb0
    go_wp2
    go_ret
    exact ⟨rfl, hb1⟩
  | true =>
    have HVL : Hid (validG P Q G = true) := hval
    obtain ⟨hp2, hp, hq3, hqp⟩ := validG_P hval
    cases nA : A == 1 with
    | true =>
      obtain rfl : r = false := by rw [← hr.out, validB]; simp at nA; simp [okB, nA]
      have nA2 : (A != 1) = false := by simpa using nA
      clear hr hval
      go_enter Tryd.func31, Tryd.ntmps31
      go_wp2_with fail
      refine (rvalid_any P Q G true HVL hQ _).mono ?_
      rintro e w1 ⟨rfl, hb0⟩
      have hb1 := below_ext (below_two (Below.refl _ _)) hb0
      have HX1 := Lib.hid (HX0.out.below hb0)
      have HG1 := Lib.hid (HG0.out.below hb0)
      clear hb0
      obtain ⟨⟨c0, c1, c2⟩, c3, c4, c5⟩ := HX1.out
      obtain ⟨d0, d1, d2⟩ := HG1.out
      go_wp2
      go_ret
      exact ⟨rfl, hb1⟩
    | false =>
      have nA2 : (A != 1) = true := by simp at nA ⊢; exact nA
      cases nB : B == 1 with
      | true =>
        obtain rfl : r = false := by rw [← hr.out, validB]; simp at nB; simp [okB, nB]
        have nB2 : (B != 1) = false := by simpa using nB
        clear hr hval
        go_enter Tryd.func31, Tryd.ntmps31
        go_wp2_with fail
        refine (rvalid_any P Q G true HVL hQ _).mono ?_
        rintro e w1 ⟨rfl, hb0⟩
        have hb1 := below_ext (below_two (Below.refl _ _)) hb0
        have HX1 := Lib.hid (HX0.out.below hb0)
        have HG1 := Lib.hid (HG0.out.below hb0)
        clear hb0
        obtain ⟨⟨c0, c1, c2⟩, c3, c4, c5⟩ := HX1.out
        obtain ⟨d0, d1, d2⟩ := HG1.out
        go_wp2
        go_ret
        exact ⟨rfl, hb1⟩
      | false =>
        have nB2 : (B != 1) = true := by simp at nB ⊢; exact nB
        cases nH : H == 1 with
        | true =>
          obtain rfl : r = false := by rw [← hr.out, validB]; simp at nH; simp [okB, nH]
          have nH2 : (H != 1) = false := by simpa using nH
          clear hr hval
          go_enter Tryd.func31, Tryd.ntmps31
          go_wp2_with fail
          refine (rvalid_any P Q G true HVL hQ _).mono ?_
          rintro e w1 ⟨rfl, hb0⟩
          have hb1 := below_ext (below_two (Below.refl _ _)) hb0
          have HX1 := Lib.hid (HX0.out.below hb0)
          have HG1 := Lib.hid (HG0.out.below hb0)
          clear hb0
          obtain ⟨⟨c0, c1, c2⟩, c3, c4, c5⟩ := HX1.out
          obtain ⟨d0, d1, d2⟩ := HG1.out
          go_wp2
          go_ret
          exact ⟨rfl, hb1⟩
        | false =>
          have nH2 : (H != 1) = true := by simp at nH ⊢; exact nH
          cases mA : memG P Q A with
          | false =>
            obtain rfl : r = false := by rw [← hr.out, validB]; simp [okB, mA]
            have HmA : Hid (memG P Q A = false) := mA
            clear hr hval mA
            go_enter Tryd.func31, Tryd.ntmps31
            go_wp2_with fail
            refine (rvalid_any P Q G true HVL hQ _).mono ?_
            rintro e w1 ⟨rfl, hb0⟩
            have hb1 := below_ext (below_two (Below.refl _ _)) hb0
            have HX1 := Lib.hid (HX0.out.below hb0)
            have HG1 := Lib.hid (HG0.out.below hb0)
            clear hb0
            obtain ⟨⟨c0, c1, c2⟩, c3, c4, c5⟩ := HX1.out
            obtain ⟨d0, d1, d2⟩ := HG1.out
            go_wp2_with fail
            refine (rmember_any P Q G A false HmA hp (by omega) hQ _).mono ?_
            rintro e w2 ⟨rfl, hb0⟩
            have hb2 := below_ext hb1 hb0
            clear hb0
            go_wp2
            go_ret
            exact ⟨rfl, hb2⟩
          | true =>
            have HmA : Hid (memG P Q A = true) := mA
            cases mB : memG P Q B with
            | false =>
              obtain rfl : r = false := by rw [← hr.out, validB]; simp [okB, mB]
              have HmB : Hid (memG P Q B = false) := mB
              clear hr hval mA mB
              go_enter Tryd.func31, Tryd.ntmps31
              go_wp2_with fail
              refine (rvalid_any P Q G true HVL hQ _).mono ?_
              rintro e w1 ⟨rfl, hb0⟩
              have hb1 := below_ext (below_two (Below.refl _ _)) hb0
              have HX1 := Lib.hid (HX0.out.below hb0)
              have HG1 := Lib.hid (HG0.out.below hb0)
              clear hb0
              obtain ⟨⟨c0, c1, c2⟩, c3, c4, c5⟩ := HX1.out
              obtain ⟨d0, d1, d2⟩ := HG1.out
              go_wp2_with fail
              refine (rmember_any P Q G A true HmA hp (by omega) hQ _).mono ?_
              rintro e w2 ⟨rfl, hb0⟩
              have hb2 := below_ext hb1 hb0
              have HX2 := Lib.hid (HX1.out.below hb0)
              have HG2 := Lib.hid (HG1.out.below hb0)
              clear c0 c1 c2 c3 c4 c5 d0 d1 d2 hb0
              obtain ⟨⟨c0, c1, c2⟩, c3, c4, c5⟩ := HX2.out
              obtain ⟨d0, d1, d2⟩ := HG2.out
              go_wp2_with fail
              refine (rmember_any P Q G B false HmB hp (by omega) hQ _).mono ?_
              rintro e w3 ⟨rfl, hb0⟩
              have hb3 := below_ext hb2 hb0
              clear hb0
              go_wp2
              go_ret
              exact ⟨rfl, hb3⟩
            | true =>
              have HmB : Hid (memG P Q B = true) := mB
              cases mH : memG P Q H with
              | false =>
                obtain rfl : r = false := by rw [← hr.out, validB]; simp [okB, mH]
                have HmH : Hid (memG P Q H = false) := mH
                clear hr hval mA mB mH
                go_enter Tryd.func31, Tryd.ntmps31
                go_wp2_with fail
                refine (rvalid_any P Q G true HVL hQ _).mono ?_
                rintro e w1 ⟨rfl, hb0⟩
                have hb1 := below_ext (below_two (Below.refl _ _)) hb0
                have HX1 := Lib.hid (HX0.out.below hb0)
                have HG1 := Lib.hid (HG0.out.below hb0)
                clear hb0
                obtain ⟨⟨c0, c1, c2⟩, c3, c4, c5⟩ := HX1.out
                obtain ⟨d0, d1, d2⟩ := HG1.out
                go_wp2_with fail
                refine (rmember_any P Q G A true HmA hp (by omega) hQ _).mono ?_
                rintro e w2 ⟨rfl, hb0⟩
                have hb2 := below_ext hb1 hb0
                have HX2 := Lib.hid (HX1.out.below hb0)
                have HG2 := Lib.hid (HG1.out.below hb0)
                clear c0 c1 c2 c3 c4 c5 d0 d1 d2 hb0
                obtain ⟨⟨c0, c1, c2⟩, c3, c4, c5⟩ := HX2.out
                obtain ⟨d0, d1, d2⟩ := HG2.out
                go_wp2_with fail
                refine (rmember_any P Q G B true HmB hp (by omega) hQ _).mono ?_
                rintro e w3 ⟨rfl, hb0⟩
                have hb3 := below_ext hb2 hb0
                have HX3 := Lib.hid (HX2.out.below hb0)
                have HG3 := Lib.hid (HG2.out.below hb0)
                clear c0 c1 c2 c3 c4 c5 d0 d1 d2 hb0
                obtain ⟨⟨c0, c1, c2⟩, c3, c4, c5⟩ := HX3.out
                obtain ⟨d0, d1, d2⟩ := HG3.out
                go_wp2_with fail
                refine (rmember_any P Q G H false HmH hp (by omega) hQ _).mono ?_
                rintro e w4 ⟨rfl, hb0⟩
                have hb4 := below_ext hb3 hb0
                clear hb0
                go_wp2
                go_ret
                exact ⟨rfl, hb4⟩
              | true =>
                have HmH : Hid (memG P Q H = true) := mH
                obtain rfl : r = true := by rw [← hr.out, validB, hval]; simp at nA nB nH; simp [okB, nA, nB, nH, mA, mB, mH]
                clear hr hval mA mB mH
                go_enter Tryd.func31, Tryd.ntmps31
                go_wp2_with fail
                refine (rvalid_any P Q G true HVL hQ _).mono ?_
                rintro e w1 ⟨rfl, hb0⟩
                have hb1 := below_ext (below_two (Below.refl _ _)) hb0
                have HX1 := Lib.hid (HX0.out.below hb0)
                have HG1 := Lib.hid (HG0.out.below hb0)
                clear hb0
                obtain ⟨⟨c0, c1, c2⟩, c3, c4, c5⟩ := HX1.out
                obtain ⟨d0, d1, d2⟩ := HG1.out
                go_wp2_with fail
                refine (rmember_any P Q G A true HmA hp (by omega) hQ _).mono ?_
                rintro e w2 ⟨rfl, hb0⟩
                have hb2 := below_ext hb1 hb0
                have HX2 := Lib.hid (HX1.out.below hb0)
                have HG2 := Lib.hid (HG1.out.below hb0)
                clear c0 c1 c2 c3 c4 c5 d0 d1 d2 hb0
                obtain ⟨⟨c0, c1, c2⟩, c3, c4, c5⟩ := HX2.out
                obtain ⟨d0, d1, d2⟩ := HG2.out
                go_wp2_with fail
                refine (rmember_any P Q G B true HmB hp (by omega) hQ _).mono ?_
                rintro e w3 ⟨rfl, hb0⟩
                have hb3 := below_ext hb2 hb0
                have HX3 := Lib.hid (HX2.out.below hb0)
                have HG3 := Lib.hid (HG2.out.below hb0)
                clear c0 c1 c2 c3 c4 c5 d0 d1 d2 hb0
                obtain ⟨⟨c0, c1, c2⟩, c3, c4, c5⟩ := HX3.out
                obtain ⟨d0, d1, d2⟩ := HG3.out
                go_wp2_with fail
                refine (rmember_any P Q G H true HmH hp (by omega) hQ _).mono ?_
                rintro e w4 ⟨rfl, hb0⟩
                have hb4 := below_ext hb3 hb0
                clear hb0
                go_wp2
                go_ret
                exact ⟨rfl, hb4⟩
end Go.Proofs.YtdlhodbiaoafiaaDoor
namespace Go.Proofs.YtdlhodbiaoafiaaDoor
open Go.RowKit SpM
set_option linter.unusedVariables false
set_option maxHeartbeats 1600000 in
theorem key_ok (P Q G A B H u K mv : Int) (hval : Hid (validB P Q G A B H = true)) (hu0 : 1 ≤ u) (hu : u < Q) (hK : Hid (pw A (u % Q) P = K)) (hmv : Hid (msgV P Q G A B H K = mv)) (hr : Hid (msgE P Q G A B H K = 0)) (w : World) (hv : Hid (Vars w)) :
    Calls Tryd.prog 70 #[bv P Q G A B H, .int .i64 u] w fun e' w' => e' = .returned (.tuple #[.int .i64 K, .int .i64 0]) ∧ Below w.heap.size w w' := by
  have HV0 := Lib.hid (hv.out.below (below_box0 w (bObj P Q G A B H)))
  have HB0 := Lib.hid (bbox_alloc w P Q G A B H)
  obtain ⟨hg, hA, hB, hH, nA, nB, nH⟩ := validB_parts hval.out
  obtain ⟨hp2, hp, hq3, hqp⟩ := validG_P hg
  have HCK : Hid (chkG P Q G [A] = 0) := Lib.hid (chkG_ok hg (by simp [hA]))
  clear hg hA hB hH nA nB nH
  go_enter Tryd.func70, Tryd.ntmps70
  go_wp2_with fail
  refine (bvalid_any P Q G A B H true hval (by omega) _ HV0).mono ?_
  rintro e w1 ⟨rfl, hb0⟩
  have hb1 := below_bbox hb0
  have HV1 := Lib.hid (HV0.out.below hb0)
  have HX1 := Lib.hid (HB0.out.below hb0)
  obtain ⟨⟨c0, c1, c2⟩, c3, c4, c5⟩ := HX1.out
  clear hb0
  go_wp2_with fail
  refine (gpow_ok P Q G A u K HCK hK (by omega) (by omega) _ HV1).mono ?_
  rintro e w2 ⟨rfl, hb0⟩
  have hb2 := below_ext hb1 hb0
  have HV2 := Lib.hid (HV1.out.below hb0)
  clear c0 c1 c2 c3 c4 c5
  obtain ⟨⟨c0, c1, c2⟩, c3, c4, c5⟩ := HX1.out.below hb0
  clear hb0
  go_wp2_with fail
  refine (message_any P Q G A B H K mv 0 hmv hr (by omega) _ HV2).mono ?_
  rintro e w3 ⟨rfl, hb0⟩
  have hb3 := below_ext hb2 hb0
  clear hb0
  go_wp2
  go_ret2
  exact ⟨rfl, hb3⟩
set_option maxHeartbeats 1600000 in
theorem key_no (P Q G A B H u K mv r : Int) (hne : (r != 0) = true) (hval : Hid (validB P Q G A B H = true)) (hu0 : 1 ≤ u) (hu : u < Q) (hK : Hid (pw A (u % Q) P = K)) (hmv : Hid (msgV P Q G A B H K = mv)) (hr : Hid (msgE P Q G A B H K = r)) (w : World) (hv : Hid (Vars w)) :
    Calls Tryd.prog 70 #[bv P Q G A B H, .int .i64 u] w fun e' w' => e' = .returned (.tuple #[.int .i64 0, .int .i64 r]) ∧ Below w.heap.size w w' := by
  have HV0 := Lib.hid (hv.out.below (below_box0 w (bObj P Q G A B H)))
  have HB0 := Lib.hid (bbox_alloc w P Q G A B H)
  obtain ⟨hg, hA, hB, hH, nA, nB, nH⟩ := validB_parts hval.out
  obtain ⟨hp2, hp, hq3, hqp⟩ := validG_P hg
  have HCK : Hid (chkG P Q G [A] = 0) := Lib.hid (chkG_ok hg (by simp [hA]))
  clear hg hA hB hH nA nB nH
  go_enter Tryd.func70, Tryd.ntmps70
  go_wp2_with fail
  refine (bvalid_any P Q G A B H true hval (by omega) _ HV0).mono ?_
  rintro e w1 ⟨rfl, hb0⟩
  have hb1 := below_bbox hb0
  have HV1 := Lib.hid (HV0.out.below hb0)
  have HX1 := Lib.hid (HB0.out.below hb0)
  obtain ⟨⟨c0, c1, c2⟩, c3, c4, c5⟩ := HX1.out
  clear hb0
  go_wp2_with fail
  refine (gpow_ok P Q G A u K HCK hK (by omega) (by omega) _ HV1).mono ?_
  rintro e w2 ⟨rfl, hb0⟩
  have hb2 := below_ext hb1 hb0
  have HV2 := Lib.hid (HV1.out.below hb0)
  clear c0 c1 c2 c3 c4 c5
  obtain ⟨⟨c0, c1, c2⟩, c3, c4, c5⟩ := HX1.out.below hb0
  clear hb0
  go_wp2_with fail
  refine (message_any P Q G A B H K mv r hmv hr (by omega) _ HV2).mono ?_
  rintro e w3 ⟨rfl, hb0⟩
  have hb3 := below_ext hb2 hb0
  clear hb0
  go_wp2
  go_ret2
  exact ⟨rfl, hb3⟩
theorem ex_valid : Hid (validB 23 11 4 2 3 6 = true) := Lib.hid (by kernel_rfl)
theorem ex_pw5 : Hid (pw 2 (5 % 11) 23 = 9) := Lib.hid (by kernel_rfl)
theorem ex_pw3 : Hid (pw 2 (3 % 11) 23 = 8) := Lib.hid (by kernel_rfl)
theorem ex_e9 : Hid (msgE 23 11 4 2 3 6 9 = 0) := Lib.hid (by kernel_rfl)
theorem ex_v9 : Hid (msgV 23 11 4 2 3 6 9 = 4) := Lib.hid (by kernel_rfl)
theorem ex_e8 : Hid (msgE 23 11 4 2 3 6 8 = 10) := Lib.hid (by kernel_rfl)
theorem ex_v8 : Hid (msgV 23 11 4 2 3 6 8 = 0) := Lib.hid (by kernel_rfl)
set_option maxHeartbeats 1600000 in
theorem awake29 (w : World) (hv : Hid (Vars w)) :
    Calls Tryd.prog 27 #[] w fun e' w' => e' = .returned (.bool true) ∧ Below w.heap.size w w' := by
  have HV0 := Lib.hid (hv.out.below (below_box0 w (bObj 23 11 4 2 3 6)))
  have HB0 := Lib.hid (bbox_alloc w 23 11 4 2 3 6)
  go_enter Tryd.func27, Tryd.ntmps27
  go_wp2_with fail
  refine (key_ok 23 11 4 2 3 6 5 9 4 ex_valid (by decide) (by decide) ex_pw5 ex_v9 ex_e9 _ HV0).mono ?_
  rintro e w1 ⟨rfl, hb0⟩
  have hb1 := below_bbox hb0
  have HV1 := Lib.hid (HV0.out.below hb0)
  have HX1 := Lib.hid (HB0.out.below hb0)
  obtain ⟨⟨c0, c1, c2⟩, c3, c4, c5⟩ := HX1.out
  clear hb0
  go_wp2_with fail
  refine (message_any 23 11 4 2 3 6 9 4 0 ex_v9 ex_e9 (by decide) _ HV1).mono ?_
  rintro e w2 ⟨rfl, hb0⟩
  have hb2 := below_ext hb1 hb0
  have HV2 := Lib.hid (HV1.out.below hb0)
  have HX2 := Lib.hid (HX1.out.below hb0)
  clear c0 c1 c2 c3 c4 c5
  obtain ⟨⟨c0, c1, c2⟩, c3, c4, c5⟩ := HX2.out
  clear hb0
  go_wp2_with fail
  refine (key_no 23 11 4 2 3 6 3 8 0 10 (by decide) ex_valid (by decide) (by decide) ex_pw3 ex_v8 ex_e8 _ HV2).mono ?_
  rintro e w3 ⟨rfl, hb0⟩
  have hb3 := below_ext hb2 hb0
  clear hb0
  go_wp2
  go_ret
  exact ⟨rfl, hb3⟩
end Go.Proofs.YtdlhodbiaoafiaaDoor
namespace Go.Proofs.YtdlhodbiaoafiaaDoor
open Go.RowKit SpM
set_option linter.unusedVariables false
set_option linter.unusedSimpArgs false
set_option maxRecDepth 100000
abbrev acV (key : Int) (A : Option Addr) (na ca : Nat) (C : Int) (Z : Option Addr) (nz cz : Nat) : Value := .agg #[.int .i64 key, .slice A na ca, .int .i64 C, .slice Z nz cz]
abbrev acO (key : Int) (A : Option Addr) (na ca : Nat) (C : Int) (Z : Option Addr) (nz cz : Nat) : Obj := .cells #[.int .i64 key, .slice A na ca, .int .i64 C, .slice Z nz cz] 66
set_option maxHeartbeats 3200000 in
theorem rtimes_any (P Q G X1 X2 X3 key v : Int) (hv0 : Hid (key * X2 % P = v)) (hP : P < 2305843009213693952) (k0 : 0 ≤ key) (k1 : key < P) (x0 : 0 ≤ X2) (x1 : X2 < P) (w : World) :
    Calls Tryd.prog 79 #[bv P Q G X1 X2 X3, .int .i64 key] w fun e' w' => e' = .returned (.int .i64 v) ∧ Below w.heap.size w w' := by
  obtain ⟨w0, hW⟩ : ∃ W, (w.alloc (bObj P Q G X1 X2 X3)) = W := ⟨_, rfl⟩
  have HBw : Hid (Below w.heap.size w w0) := Lib.hid (by rw [← hW]; exact below_box0 _ _)
  have hc : w0.cell? ⟨w.heap.size, 0, none⟩ = some (.int .i64 P) ∧ w0.cell? ⟨w.heap.size, 1, none⟩ = some (.int .i64 Q) ∧ w0.cell? ⟨w.heap.size, 2, none⟩ = some (.int .i64 G) ∧ w0.cell? ⟨w.heap.size, 3, none⟩ = some (.int .i64 X1) ∧ w0.cell? ⟨w.heap.size, 4, none⟩ = some (.int .i64 X2) ∧ w0.cell? ⟨w.heap.size, 5, none⟩ = some (.int .i64 X3) := by rw [← hW]; exact ⟨allocs_cell (by simp) (by rfl), allocs_cell (by simp) (by rfl), allocs_cell (by simp) (by rfl), allocs_cell (by simp) (by rfl), allocs_cell (by simp) (by rfl), allocs_cell (by simp) (by rfl)⟩
  have kC := Lib.hid (show ∀ u : World, Hid (Below w0.heap.size w0 u) → u.cell? ⟨w.heap.size, 0, none⟩ = some (.int .i64 P) ∧ u.cell? ⟨w.heap.size, 1, none⟩ = some (.int .i64 Q) ∧ u.cell? ⟨w.heap.size, 2, none⟩ = some (.int .i64 G) ∧ u.cell? ⟨w.heap.size, 3, none⟩ = some (.int .i64 X1) ∧ u.cell? ⟨w.heap.size, 4, none⟩ = some (.int .i64 X2) ∧ u.cell? ⟨w.heap.size, 5, none⟩ = some (.int .i64 X3) from fun u h => ⟨cell_below hc.1 h.out, cell_below hc.2.1 h.out, cell_below hc.2.2.1 h.out, cell_below hc.2.2.2.1 h.out, cell_below hc.2.2.2.2.1 h.out, cell_below hc.2.2.2.2.2 h.out⟩)
  have HB_0 : Hid (Below w0.heap.size w0 w0) := Lib.hid (Below.refl _ _)
  have HW := Lib.hid hW
  clear hW hc 
  go_enter Tryd.func79, Tryd.ntmps79
  go_wp2_with fail
  rw [HW.out]
  obtain ⟨zc0, zc1, zc2, zc3, zc4, zc5⟩ := kC.out _ HB_0
  go_wp2_with fail
  refine (rmul_any key X2 P v hv0 hP k0 k1 x0 x1 _).mono ?_
  rintro e w1 ⟨rfl, rfl⟩
  have hbF := below_ext HBw.out HB_0.out
  go_wp2
  go_ret
  exact ⟨rfl, hbF⟩
/-- what IsKey says. -/
def keyB (P Q X2 key : Int) : Bool := (key != 1) && (memG P Q key && (key * X2 % P != 1))
set_option maxHeartbeats 3200000 in
theorem iskey_1 (P Q G X1 X2 X3 key : Int) (hval : Hid (validB P Q G X1 X2 X3 = true)) (h1 : (key != 1) = false) (w : World) :
    Calls Tryd.prog 32 #[bv P Q G X1 X2 X3, .int .i64 key] w fun e' w' => e' = .returned (.bool false) ∧ Below w.heap.size w w' := by
  obtain ⟨w0, hW⟩ : ∃ W, (w.alloc (bObj P Q G X1 X2 X3)) = W := ⟨_, rfl⟩
  have HBw : Hid (Below w.heap.size w w0) := Lib.hid (by rw [← hW]; exact below_box0 _ _)
  have hc : w0.cell? ⟨w.heap.size, 0, none⟩ = some (.int .i64 P) ∧ w0.cell? ⟨w.heap.size, 1, none⟩ = some (.int .i64 Q) ∧ w0.cell? ⟨w.heap.size, 2, none⟩ = some (.int .i64 G) ∧ w0.cell? ⟨w.heap.size, 3, none⟩ = some (.int .i64 X1) ∧ w0.cell? ⟨w.heap.size, 4, none⟩ = some (.int .i64 X2) ∧ w0.cell? ⟨w.heap.size, 5, none⟩ = some (.int .i64 X3) := by rw [← hW]; exact ⟨allocs_cell (by simp) (by rfl), allocs_cell (by simp) (by rfl), allocs_cell (by simp) (by rfl), allocs_cell (by simp) (by rfl), allocs_cell (by simp) (by rfl), allocs_cell (by simp) (by rfl)⟩
  have kC := Lib.hid (show ∀ u : World, Hid (Below w0.heap.size w0 u) → u.cell? ⟨w.heap.size, 0, none⟩ = some (.int .i64 P) ∧ u.cell? ⟨w.heap.size, 1, none⟩ = some (.int .i64 Q) ∧ u.cell? ⟨w.heap.size, 2, none⟩ = some (.int .i64 G) ∧ u.cell? ⟨w.heap.size, 3, none⟩ = some (.int .i64 X1) ∧ u.cell? ⟨w.heap.size, 4, none⟩ = some (.int .i64 X2) ∧ u.cell? ⟨w.heap.size, 5, none⟩ = some (.int .i64 X3) from fun u h => ⟨cell_below hc.1 h.out, cell_below hc.2.1 h.out, cell_below hc.2.2.1 h.out, cell_below hc.2.2.2.1 h.out, cell_below hc.2.2.2.2.1 h.out, cell_below hc.2.2.2.2.2 h.out⟩)
  have HB_0 : Hid (Below w0.heap.size w0 w0) := Lib.hid (Below.refl _ _)
  have HW := Lib.hid hW
  clear hW hc 
  go_enter Tryd.func32, Tryd.ntmps32
  go_wp2_with fail
  rw [HW.out]
  obtain ⟨zc0, zc1, zc2, zc3, zc4, zc5⟩ := kC.out _ HB_0
  have hbF := below_ext HBw.out HB_0.out
  go_wp2
  go_ret
  exact ⟨rfl, hbF⟩
set_option maxHeartbeats 3200000 in
theorem iskey_2 (P Q G X1 X2 X3 key : Int) (hval : Hid (validB P Q G X1 X2 X3 = true)) (h1 : (key != 1) = true) (HM : Hid (memG P Q key = false)) (w : World) :
    Calls Tryd.prog 32 #[bv P Q G X1 X2 X3, .int .i64 key] w fun e' w' => e' = .returned (.bool false) ∧ Below w.heap.size w w' := by
  obtain ⟨v1, v2, v3, v4, _, _, _⟩ := validB_parts hval.out
  obtain ⟨p1, p2, p3, p4⟩ := validG_P v1
  have l3 := memG_lo v3
  have u3 := memG_hi v3
  obtain ⟨w0, hW⟩ : ∃ W, (w.alloc (bObj P Q G X1 X2 X3)) = W := ⟨_, rfl⟩
  have HBw : Hid (Below w.heap.size w w0) := Lib.hid (by rw [← hW]; exact below_box0 _ _)
  have hc : w0.cell? ⟨w.heap.size, 0, none⟩ = some (.int .i64 P) ∧ w0.cell? ⟨w.heap.size, 1, none⟩ = some (.int .i64 Q) ∧ w0.cell? ⟨w.heap.size, 2, none⟩ = some (.int .i64 G) ∧ w0.cell? ⟨w.heap.size, 3, none⟩ = some (.int .i64 X1) ∧ w0.cell? ⟨w.heap.size, 4, none⟩ = some (.int .i64 X2) ∧ w0.cell? ⟨w.heap.size, 5, none⟩ = some (.int .i64 X3) := by rw [← hW]; exact ⟨allocs_cell (by simp) (by rfl), allocs_cell (by simp) (by rfl), allocs_cell (by simp) (by rfl), allocs_cell (by simp) (by rfl), allocs_cell (by simp) (by rfl), allocs_cell (by simp) (by rfl)⟩
  have kC := Lib.hid (show ∀ u : World, Hid (Below w0.heap.size w0 u) → u.cell? ⟨w.heap.size, 0, none⟩ = some (.int .i64 P) ∧ u.cell? ⟨w.heap.size, 1, none⟩ = some (.int .i64 Q) ∧ u.cell? ⟨w.heap.size, 2, none⟩ = some (.int .i64 G) ∧ u.cell? ⟨w.heap.size, 3, none⟩ = some (.int .i64 X1) ∧ u.cell? ⟨w.heap.size, 4, none⟩ = some (.int .i64 X2) ∧ u.cell? ⟨w.heap.size, 5, none⟩ = some (.int .i64 X3) from fun u h => ⟨cell_below hc.1 h.out, cell_below hc.2.1 h.out, cell_below hc.2.2.1 h.out, cell_below hc.2.2.2.1 h.out, cell_below hc.2.2.2.2.1 h.out, cell_below hc.2.2.2.2.2 h.out⟩)
  have HB_0 : Hid (Below w0.heap.size w0 w0) := Lib.hid (Below.refl _ _)
  have HW := Lib.hid hW
  clear hW hc 
  go_enter Tryd.func32, Tryd.ntmps32
  go_wp2_with fail
  rw [HW.out]
  obtain ⟨zc0, zc1, zc2, zc3, zc4, zc5⟩ := kC.out _ HB_0
  go_wp2_with fail
  refine (rmember_any P Q G key false HM p2 (by omega) (by omega) _).mono ?_
  rintro e w1 ⟨rfl, hb0⟩
  have HB_1 := Lib.hid (below_ext HB_0.out hb0)
  clear zc0 zc1 zc2 zc3 zc4 zc5
  clear hb0
  obtain ⟨zc0, zc1, zc2, zc3, zc4, zc5⟩ := kC.out _ HB_1
  have hbF := below_ext HBw.out HB_1.out
  go_wp2
  go_ret
  exact ⟨rfl, hbF⟩
set_option maxHeartbeats 3200000 in
theorem iskey_3 (P Q G X1 X2 X3 key : Int) (hval : Hid (validB P Q G X1 X2 X3 = true)) (h1 : (key != 1) = true) (HM : Hid (memG P Q key = true)) (v : Int) (hv0 : Hid (key * X2 % P = v)) (b : Bool) (hb : (v != 1) = b) (w : World) :
    Calls Tryd.prog 32 #[bv P Q G X1 X2 X3, .int .i64 key] w fun e' w' => e' = .returned (.bool b) ∧ Below w.heap.size w w' := by
  obtain ⟨v1, v2, v3, v4, _, _, _⟩ := validB_parts hval.out
  obtain ⟨p1, p2, p3, p4⟩ := validG_P v1
  have l3 := memG_lo v3
  have u3 := memG_hi v3
  have lk := memG_lo HM.out
  have uk := memG_hi HM.out
  obtain ⟨w0, hW⟩ : ∃ W, (w.alloc (bObj P Q G X1 X2 X3)) = W := ⟨_, rfl⟩
  have HBw : Hid (Below w.heap.size w w0) := Lib.hid (by rw [← hW]; exact below_box0 _ _)
  have hc : w0.cell? ⟨w.heap.size, 0, none⟩ = some (.int .i64 P) ∧ w0.cell? ⟨w.heap.size, 1, none⟩ = some (.int .i64 Q) ∧ w0.cell? ⟨w.heap.size, 2, none⟩ = some (.int .i64 G) ∧ w0.cell? ⟨w.heap.size, 3, none⟩ = some (.int .i64 X1) ∧ w0.cell? ⟨w.heap.size, 4, none⟩ = some (.int .i64 X2) ∧ w0.cell? ⟨w.heap.size, 5, none⟩ = some (.int .i64 X3) := by rw [← hW]; exact ⟨allocs_cell (by simp) (by rfl), allocs_cell (by simp) (by rfl), allocs_cell (by simp) (by rfl), allocs_cell (by simp) (by rfl), allocs_cell (by simp) (by rfl), allocs_cell (by simp) (by rfl)⟩
  have kC := Lib.hid (show ∀ u : World, Hid (Below w0.heap.size w0 u) → u.cell? ⟨w.heap.size, 0, none⟩ = some (.int .i64 P) ∧ u.cell? ⟨w.heap.size, 1, none⟩ = some (.int .i64 Q) ∧ u.cell? ⟨w.heap.size, 2, none⟩ = some (.int .i64 G) ∧ u.cell? ⟨w.heap.size, 3, none⟩ = some (.int .i64 X1) ∧ u.cell? ⟨w.heap.size, 4, none⟩ = some (.int .i64 X2) ∧ u.cell? ⟨w.heap.size, 5, none⟩ = some (.int .i64 X3) from fun u h => ⟨cell_below hc.1 h.out, cell_below hc.2.1 h.out, cell_below hc.2.2.1 h.out, cell_below hc.2.2.2.1 h.out, cell_below hc.2.2.2.2.1 h.out, cell_below hc.2.2.2.2.2 h.out⟩)
  have HB_0 : Hid (Below w0.heap.size w0 w0) := Lib.hid (Below.refl _ _)
  have HW := Lib.hid hW
  clear hW hc 
  go_enter Tryd.func32, Tryd.ntmps32
  go_wp2_with fail
  rw [HW.out]
  obtain ⟨zc0, zc1, zc2, zc3, zc4, zc5⟩ := kC.out _ HB_0
  go_wp2_with fail
  refine (rmember_any P Q G key true HM p2 (by omega) (by omega) _).mono ?_
  rintro e w1 ⟨rfl, hb0⟩
  have HB_1 := Lib.hid (below_ext HB_0.out hb0)
  clear zc0 zc1 zc2 zc3 zc4 zc5
  clear hb0
  obtain ⟨zc0, zc1, zc2, zc3, zc4, zc5⟩ := kC.out _ HB_1
  go_wp2_with fail
  refine (rtimes_any P Q G X1 X2 X3 key v hv0 p2 (by omega) uk (by omega) u3 _).mono ?_
  rintro e w2 ⟨rfl, hb0⟩
  have HB_2 := Lib.hid (below_ext HB_1.out hb0)
  clear zc0 zc1 zc2 zc3 zc4 zc5
  clear hb0
  obtain ⟨zc0, zc1, zc2, zc3, zc4, zc5⟩ := kC.out _ HB_2
  have hbF := below_ext HBw.out HB_2.out
  go_wp2
  go_ret
  exact ⟨rfl, hbF⟩
theorem iskey_any (P Q G X1 X2 X3 key : Int) (hval : Hid (validB P Q G X1 X2 X3 = true)) (r : Bool) (hr : Hid (keyB P Q X2 key = r)) (w : World) :
    Calls Tryd.prog 32 #[bv P Q G X1 X2 X3, .int .i64 key] w fun e' w' => e' = .returned (.bool r) ∧ Below w.heap.size w w' := by
  have hr1 := hr.out
  unfold keyB at hr1
  cases h1 : (key != 1) with
  | false =>
    obtain rfl : r = false := by rw [← hr1, h1]; rfl
    exact iskey_1 P Q G X1 X2 X3 key hval h1 w
  | true =>
    cases h2 : memG P Q key with
    | false =>
      obtain rfl : r = false := by rw [← hr1, h1, h2]; rfl
      exact iskey_2 P Q G X1 X2 X3 key hval h1 (Lib.hid h2) w
    | true => exact iskey_3 P Q G X1 X2 X3 key hval h1 (Lib.hid h2) _ (Lib.hid rfl) r (by rw [← hr1, h1, h2]; rfl) w
theorem msgE_key {P Q G X1 X2 X3 key : Int} : (msgE P Q G X1 X2 X3 key == 0) = (validB P Q G X1 X2 X3 && keyB P Q X2 key) := by
  unfold msgE keyB okB
  cases hv : validB P Q G X1 X2 X3 with
  | false => simp
  | true =>
    cases h1 : (key != 1) with
    | false => simp
    | true =>
      cases h2 : memG P Q key with
      | false => simp
      | true =>
        by_cases h3 : key * X2 % P = 1
        · simp [h3]
        · simp [h3]
end Go.Proofs.YtdlhodbiaoafiaaDoor
namespace Go.Proofs.YtdlhodbiaoafiaaDoor
open Go.RowKit SpM
set_option linter.unusedVariables false
set_option linter.unusedSimpArgs false
set_option maxRecDepth 100000
/-- the first place of a number, or -1. -/
def fnd (key : Int) : List Int → Int → Int
  | [], _ => -1
  | x :: t, k => if x = key then k else fnd key t (k + 1)
theorem fnd_step {key : Int} {xs : List Int} {k : Nat} (hk : k < xs.length) (h : ¬ (xs.getD k 0 = key)) : fnd key (xs.drop k) k = fnd key (xs.drop (k + 1)) ((k : Int) + 1) := by
  rw [List.drop_eq_getElem_cons hk]
  rw [List.getD_eq_getElem?_getD, List.getElem?_eq_getElem hk] at h
  simp only [Option.getD_some] at h
  rw [fnd, if_neg h]
theorem fnd_hit {key : Int} {xs : List Int} {k : Nat} (hk : k < xs.length) (h : xs.getD k 0 = key) : fnd key (xs.drop k) k = k := by
  rw [List.drop_eq_getElem_cons hk]
  rw [List.getD_eq_getElem?_getD, List.getElem?_eq_getElem hk] at h
  simp only [Option.getD_some] at h
  rw [fnd, if_pos h]
/-- a slice of accounts that hold nothing but their keys. -/
def Fa (w : World) (A : Option Addr) (xs : List Int) : Prop := ∀ k, k < xs.length → ∃ b o, A = some ⟨b, o, none⟩ ∧ w.cell? ⟨b, o + k * 4, none⟩ = some (.int .i64 (xs.getD k 0)) ∧ w.cell? ⟨b, o + k * 4 + 1, none⟩ = some (.slice none 0 0) ∧ w.cell? ⟨b, o + k * 4 + 2, none⟩ = some (.int .i64 0) ∧ w.cell? ⟨b, o + k * 4 + 3, none⟩ = some (.slice none 0 0)
theorem Fa.below {w w' : World} {A : Option Addr} {xs : List Int} (h : Fa w A xs) (hb : Below w.heap.size w w') : Fa w' A xs := fun k hk => by
  obtain ⟨b, o, h1, h2, h3, h4, h5⟩ := h k hk
  exact ⟨b, o, h1, cell_below h2 hb, cell_below h3 hb, cell_below h4 hb, cell_below h5 hb⟩
set_option maxHeartbeats 1600000 in
theorem fclos (x key : Int) (cb : Nat) (w : World) (hc : Hid (w.cell? ⟨cb, 0, none⟩ = some (.int .i64 key))) :
    Calls Tryd.prog 77 #[acV x none 0 0 0 none 0 0, .pointer (some ⟨cb, 0, none⟩)] w fun e w' => e = .returned (.bool (x == key)) ∧ Below w.heap.size w w' := by
  have hc1 := cell_below hc.out (below_box0 w (acO x none 0 0 0 none 0 0))
  have hc2 : (w.alloc (acO x none 0 0 0 none 0 0)).cell? ⟨w.heap.size, 0, none⟩ = some (.int .i64 x) := cell_blk (heap_alloc_new _ _) 0
  go_enter Tryd.func77, Tryd.ntmps77
  go_wp2
  go_ret
  exact ⟨rfl, below_box0 _ _⟩
set_option maxHeartbeats 3200000 in
theorem idx_acc (key : Int) (cb : Nat) (A : Option Addr) (xs : List Int) (n c : Nat) (hn : Hid (xs.length = n)) (hbig : n < 1000000) (w : World) (hs : Hid (Fa w A xs)) (hc : Hid (w.cell? ⟨cb, 0, none⟩ = some (.int .i64 key))) :
    Calls Tryd.prog 76 #[.slice A n c, .func (.func 77) #[] #[.pointer (some ⟨cb, 0, none⟩)]] w fun e w' => e = .returned (.int .i64 (fnd key xs 0)) ∧ Below w.heap.size w w' := by
  go_enter Tryd.func76, Tryd.ntmps76
  go_wp2
  go_loopw [8] (fun i wr => ∃ k : Nat, k ≤ n ∧ i = .int .i64 k ∧ Hid (fnd key xs 0 = fnd key (xs.drop k) k) ∧ Hid (Below w.heap.size w wr)) (fun i _ => n - (intOf i).toNat)
  case atStart => exact ⟨0, by omega, rfl, Lib.hid rfl, Lib.hid (Below.refl _ _)⟩
  case round =>
    obtain ⟨k, hk, rfl, HR, HBr⟩ := hrel
    by_cases hlt : k < n
    · have hkl : k < xs.length := by rw [hn.out]; exact hlt
      obtain ⟨b, o, hA, i0, i1, i2, i3⟩ := (hs.out.below HBr.out) k hkl
      subst hA
      have HC := Lib.hid (cell_below hc.out HBr.out)
      obtain ⟨x, hx⟩ : ∃ x, xs.getD k 0 = x := ⟨_, rfl⟩
      rw [hx] at i0
      cases hxk : (x == key) with
      | false =>
        have hne : ¬ (xs.getD k 0 = key) := by rw [hx]; simpa using hxk
        have HN : Hid (fnd key xs 0 = fnd key (xs.drop (k + 1)) ((k : Int) + 1)) := Lib.hid (HR.out.trans (fnd_step hkl hne))
        have HXK := Lib.hid hxk
        clear hx hkl hne hxk HR
        go_wp2_with fail
        refine (fclos x key cb wr HC).mono ?_
        rintro e w2 ⟨rfl, hb0⟩
        rw [HXK.out]
        have HB2 := Lib.hid (below_ext HBr.out hb0)
        clear hb0 HBr i0 i1 i2 i3
        go_wp2
        go_roundw
        case rel => exact ⟨k + 1, by omega, by go_num, Lib.hid (by rw [HN.out]; rfl), HB2⟩
        case measure => simp [intOf]; omega
      | true =>
        have he : xs.getD k 0 = key := by rw [hx]; simpa using hxk
        have HN : Hid (fnd key xs 0 = k) := Lib.hid (HR.out.trans (fnd_hit hkl he))
        have HXK := Lib.hid hxk
        clear hx hkl he hxk HR
        go_wp2_with fail
        refine (fclos x key cb wr HC).mono ?_
        rintro e w2 ⟨rfl, hb0⟩
        rw [HXK.out]
        have HB2 := Lib.hid (below_ext HBr.out hb0)
        clear hb0 HBr i0 i1 i2 i3
        go_wp2
        go_ret
        exact ⟨by rw [HN.out]; rfl, HB2.out⟩
    · obtain rfl : k = n := by omega
      have HN : Hid (fnd key xs 0 = -1) := Lib.hid (by rw [HR.out, List.drop_of_length_le (by rw [hn.out]; exact Nat.le_refl _)]; rfl)
      clear HR
      go_wp2
      go_ret
      exact ⟨by rw [HN.out]; rfl, HBr.out⟩
theorem find_any (key : Int) (A : Option Addr) (xs : List Int) (n c : Nat) (hn : Hid (xs.length = n)) (hbig : n < 1000000) (w : World) (hs : Hid (Fa w A xs)) :
    Calls Tryd.prog 29 #[.slice A n c, .int .i64 key] w fun e w' => e = .returned (.int .i64 (fnd key xs 0)) ∧ Below w.heap.size w w' := by
  have HS1 := Lib.hid (hs.out.below (below_box0 w (.cells #[.int .i64 key] 3)))
  have HC1 : Hid ((w.alloc (.cells #[.int .i64 key] 3)).cell? ⟨w.heap.size, 0, none⟩ = some (.int .i64 key)) := Lib.hid (cell_blk (heap_alloc_new _ _) 0)
  go_enter Tryd.func29, Tryd.ntmps29
  go_wp2_with fail
  refine (idx_acc key w.heap.size A xs n c hn hbig _ HS1 HC1).mono ?_
  rintro e w2 ⟨rfl, hb0⟩
  have HB2 := Lib.hid (below_ext (below_box0 _ _) hb0)
  clear hb0
  go_wp2
  go_ret
  exact ⟨rfl, HB2.out⟩
set_option maxHeartbeats 1600000 in
theorem rfind_any (key : Int) (A : Option Addr) (xs : List Int) (n c : Nat) (hn : Hid (xs.length = n)) (hbig : n < 1000000) (w : World) (hs : Hid (Fa w A xs)) :
    Calls Tryd.prog 30 #[.slice A n c, .int .i64 key] w fun e w' => e = .returned (.int .i64 (fnd key xs 0)) ∧ w' = w := by
  go_enter Tryd.func30, Tryd.ntmps30
  go_wp2
  go_loopw [5] (fun i wr => ∃ k : Nat, k ≤ n ∧ i = .int .i64 k ∧ Hid (fnd key xs 0 = fnd key (xs.drop k) k) ∧ Hid (wr = w)) (fun i _ => n - (intOf i).toNat)
  case atStart => exact ⟨0, by omega, rfl, Lib.hid rfl, Lib.hid (by first | trivial | rfl)⟩
  case round =>
    obtain ⟨k, hk, rfl, HR, HW⟩ := hrel
    have hw := HW.out
    subst hw
    by_cases hlt : k < n
    · have hkl : k < xs.length := by rw [hn.out]; exact hlt
      obtain ⟨b, o, hA, i0, i1, i2, i3⟩ := hs.out k hkl
      subst hA
      obtain ⟨x, hx⟩ : ∃ x, xs.getD k 0 = x := ⟨_, rfl⟩
      rw [hx] at i0
      cases hxk : (x == key) with
      | false =>
        have hne : ¬ (xs.getD k 0 = key) := by rw [hx]; simpa using hxk
        have HN : Hid (fnd key xs 0 = fnd key (xs.drop (k + 1)) ((k : Int) + 1)) := Lib.hid (HR.out.trans (fnd_step hkl hne))
        clear hx hkl hne HR
        go_wp2
        go_roundw
        case rel => exact ⟨k + 1, by omega, by go_num, Lib.hid (by rw [HN.out]; rfl), Lib.hid (by first | trivial | rfl)⟩
        case measure => simp [intOf]; omega
      | true =>
        have he : xs.getD k 0 = key := by rw [hx]; simpa using hxk
        have HN : Hid (fnd key xs 0 = k) := Lib.hid (HR.out.trans (fnd_hit hkl he))
        clear hx hkl he HR
        go_wp2
        go_ret
        exact ⟨by rw [HN.out]; rfl, rfl⟩
    · obtain rfl : k = n := by omega
      have HN : Hid (fnd key xs 0 = -1) := Lib.hid (by rw [HR.out, List.drop_of_length_le (by rw [hn.out]; exact Nat.le_refl _)]; rfl)
      clear HR
      go_wp2
      go_ret
      exact ⟨by rw [HN.out]; rfl, rfl⟩
end Go.Proofs.YtdlhodbiaoafiaaDoor
namespace Go.Proofs.YtdlhodbiaoafiaaDoor
open Go.RowKit SpM
set_option linter.unusedVariables false
set_option linter.unusedSimpArgs false
set_option maxRecDepth 100000
theorem accInfo : (Tryd.prog.info? 66).map (fun i => (i.zero, i.size, i.bytes)) = some (some (.agg #[.int .i64 0, .slice none 0 0, .int .i64 0, .slice none 0 0]), 4, 64) := by kernel_rfl
/-- the cells of an account that holds nothing but its key. -/
def accC (x : Int) : List Value := [.int .i64 x, .slice none 0 0, .int .i64 0, .slice none 0 0]
theorem accC_at (cs : List Int) (k r : Nat) (hr : r < 4) (hk : k < cs.length) : (cs.flatMap accC)[k * 4 + r]? = (accC (cs.getD k 0))[r]? := by
  induction cs generalizing k with
  | nil => simp at hk
  | cons c cs ih =>
    cases k with
    | zero =>
      rw [List.flatMap_cons, Nat.zero_mul, Nat.zero_add, List.getElem?_append_left (by simpa [accC] using hr)]
      rfl
    | succ k =>
      rw [List.flatMap_cons, List.getElem?_append_right (by simp [accC]; omega)]
      rw [show (k + 1) * 4 + r - (accC c).length = k * 4 + r by simp [accC]; omega]
      rw [ih k (by simpa using hk)]
      rfl
def OwnA (w : World) (base : Nat) (v : Value) (cs : List Int) : Prop := w.ownsRow base 66 4 v cs.length (cs.flatMap accC)
theorem ownA_nil (w : World) (base : Nat) : OwnA w base (.slice none 0 0) [] := World.ownsRow_nil _ _ _ _
theorem OwnA.app {w1 : World} {base k : Nat} {v' : Value} {xs : List Int} {c : Int} (hk : k = xs.length)
    (h : w1.ownsRow base 66 4 v' (k + 1) (xs.flatMap accC ++ accC c)) : OwnA w1 base v' (xs ++ [c]) := by
  unfold OwnA
  rw [List.length_append, List.flatMap_append, List.length_singleton, ← hk]
  simpa using h
theorem OwnA.fa {w : World} {base : Nat} {v : Value} {cs : List Int} (h : OwnA w base v cs) : ∃ A cap, v = .slice A cs.length cap ∧ Fa w A cs := by
  obtain ⟨h1, h2⟩ := h
  rcases h2 with ⟨hv, h3⟩ | ⟨g, cap, cur, rfl, hg, hh, hn, hc, hs, ht⟩
  · refine ⟨none, 0, by rw [hv]; congr 1; omega, fun k hk => absurd hk (by omega)⟩
  · refine ⟨_, cap, rfl, fun k hk => ⟨g, 0, rfl, ?_⟩⟩
    have key : ∀ r, r < 4 → w.cell? ⟨g, k * 4 + r, none⟩ = (accC (cs.getD k 0))[r]? := fun r hr => by
      rw [cell_blk hh, ← Array.getElem?_toList, ← accC_at cs k r hr hk, ← ht, List.getElem?_take_of_lt (by omega)]
    rw [Nat.zero_add]
    exact ⟨key 0 (by omega), key 1 (by omega), key 2 (by omega), key 3 (by omega)⟩
/-- what Name answers: which kind of error, which name. -/
def nmR (P Q G A B H key : Int) : Int := if validB P Q G A B H = true then (if keyB P Q B key = true then 0 else 2) else 1
def nmS (P Q G A B H key : Int) : ByteArray := if nmR P Q G A B H key = 0 then nmT (nmL P Q G A B H key) else ⟨#[]⟩
theorem r64_good {P Q G A B H key : Int} (hval : validB P Q G A B H = true) (hk : keyB P Q B key = true) : r64 (nmL P Q G A B H key) := by
  obtain ⟨hg, hA, hB, hH, _, _, _⟩ := validB_parts hval
  obtain ⟨h1, h2, h3, h4⟩ := validG_P hg
  have g1 : 2 ≤ G ∧ G < P := by
    simp [validG] at hg
    exact ⟨hg.2.2.2.2.2.2.1, hg.2.2.2.2.2.2.2.1⟩
  have km : memG P Q key = true := by
    simp [keyB] at hk
    exact hk.2.1
  have a1 := memG_lo hA
  have a2 := memG_hi hA
  have b1 := memG_lo hB
  have b2 := memG_hi hB
  have c1 := memG_lo hH
  have c2 := memG_hi hH
  have k1 := memG_lo km
  have k2 := memG_hi km
  clear hg hA hB hH km hk hval
  intro x hx
  simp only [nmL, List.mem_cons, List.not_mem_nil, or_false] at hx
  rcases hx with rfl | rfl | rfl | rfl | rfl | rfl | rfl <;> omega
theorem name_any (P Q G A B H key : Int) (hQ : Q < 9223372036854775808) (w : World) (hv : Hid (Vars w)) (hd : Hid (VarsD w)) :
    Calls Tryd.prog 28 #[bv P Q G A B H, .int .i64 key] w fun e w' => e = .returned (.tuple #[.string (nmS P Q G A B H key), .int .i64 (nmR P Q G A B H key)]) ∧ Below w.heap.size w w' := by
  have hk := @msgE_key P Q G A B H key
  by_cases h0 : msgE P Q G A B H key = 0
  · rw [h0] at hk
    have hk2 : validB P Q G A B H = true ∧ keyB P Q B key = true := by simpa using hk.symm
    have hR : nmR P Q G A B H key = 0 := by rw [nmR, if_pos hk2.1, if_pos hk2.2]
    rw [nmS, if_pos hR, hR]
    exact name_o P Q G A B H key _ _ (Lib.hid rfl) (Lib.hid rfl) (Lib.hid h0) (Lib.hid (r64_good hk2.1 hk2.2)) hQ w hv hd
  · have hk2 : (validB P Q G A B H && keyB P Q B key) = false := by rw [← hk]; simp [h0]
    by_cases h10 : msgE P Q G A B H key = 10
    · have hval : validB P Q G A B H = true := by
        cases hvb : validB P Q G A B H with
        | true => rfl
        | false => rw [msgE, hvb] at h10; simp at h10
      rw [hval, Bool.true_and] at hk2
      have hR : nmR P Q G A B H key = 2 := by rw [nmR, if_pos hval, hk2]; rfl
      rw [nmS, hR]
      exact name_x P Q G A B H key _ _ (Lib.hid rfl) (Lib.hid rfl) (Lib.hid h10) hQ w hv hd
    · have hR : nmR P Q G A B H key = msgE P Q G A B H key := by
        cases hvb : validB P Q G A B H with
        | false => rw [nmR, msgE, hvb]; rfl
        | true =>
          rw [hvb, Bool.true_and] at hk2
          rw [msgE, hvb] at h0 h10
          rw [nmR, msgE, hvb, hk2]
          simp only [if_true] at h0 h10 ⊢
          split at h0
          · split at h0
            · rename_i h5 h6
              rw [if_pos h5, if_pos h6] at h10
              exact absurd rfl h10
            · exact absurd rfl h0
          · rename_i h5
            rw [if_neg h5]
            rfl
      have hne : ¬ (nmR P Q G A B H key = 0) := by rw [hR]; exact h0
      rw [nmS, if_neg hne, hR]
      exact name_e P Q G A B H key _ _ (Lib.hid rfl) (Lib.hid rfl) h10 h0 hQ w hv hd
set_option maxHeartbeats 6400000 in
theorem an_true (P Q G A B H key : Int) (K : Option Addr) (ks : List Int) (nk ck : Nat) (hkn : Hid (ks.length = nk)) (hQ : Q < 9223372036854775808) (w : World) (hv : Hid (Vars w)) (hd : Hid (VarsD w)) (hS : Hid (Sl w K ks)) :
    Calls Tryd.prog 5 #[bv P Q G A B H, .int .i64 key, .slice K nk ck] w fun e' w' => e' = .returned (.bool true) ∧ Below w.heap.size w w' := by
  obtain ⟨i0, hi, hz0, hz1, hz2⟩ := info_parts accInfo
  have HV0 := Lib.hid (hv.out.below (below_box0 w (bObj P Q G A B H)))
  have HD0 := Lib.hid (hd.out.below (below_box0 w (bObj P Q G A B H)))
  have HS0 := Lib.hid (hS.out.below (below_box0 w (bObj P Q G A B H)))
  have HB0 := Lib.hid (bbox_alloc w P Q G A B H)
  clear hv hd hS
  by_cases hbig : 100 < nk
  · have g1 : decide ((100 : Int) < nk) = true := by simp; omega
    go_enter Tryd.func5, Tryd.ntmps5
    go_wp2_with fail
    refine (awake29 _ HV0).mono ?_
    rintro e w1 ⟨rfl, hb1⟩
    have HL1 := Lib.hid (below_ext (below_box0 w (bObj P Q G A B H)) hb1)
    clear hb1
    go_wp2
    go_ret
    exact ⟨rfl, HL1.out⟩
  · have g1 : decide ((100 : Int) < nk) = false := by simp; omega
    have hnk : nk ≤ 100 := by omega
    go_enter Tryd.func5, Tryd.ntmps5
    go_wp2_with fail
    refine (awake29 _ HV0).mono ?_
    rintro e w1 ⟨rfl, hb1⟩
    have HL1 := Lib.hid (below_ext (below_box0 w (bObj P Q G A B H)) hb1)
    have HV1 := Lib.hid (HV0.out.below hb1)
    have HD1 := Lib.hid (HD0.out.below hb1)
    have HS1 := Lib.hid (HS0.out.below hb1)
    have HB1 := Lib.hid (HB0.out.below hb1)
    clear hb1 HV0 HD0 HS0 HB0
    go_wp2
    go_loopw [7, 19] (fun v i u => ∃ k : Nat, k ≤ nk ∧ i = .int .i64 k ∧ Hid (OwnA u w1.heap.size v (ks.take k)) ∧ Hid (Below w1.heap.size w1 u)) (fun _ i _ => nk - (intOf i).toNat)
    case atStart => exact ⟨0, by omega, rfl, Lib.hid (ownA_nil _ _), Lib.hid (Below.refl _ _)⟩
    case round =>
      obtain ⟨k, hk, rfl, HO, HBr⟩ := hrel
      by_cases hlt : k < nk
      · have d1 : decide ((k : Int) < nk) = true := by simp; omega
        have hkl : k < ks.length := by rw [hkn.out]; exact hlt
        obtain ⟨b, o, hA, hc⟩ := (HS1.out.below HBr.out) k hkl
        subst hA
        obtain ⟨x, hxx⟩ : ∃ x, ks.getD k 0 = x := ⟨_, rfl⟩
        rw [hxx] at hc
        have HTK : Hid (ks.take (k + 1) = ks.take k ++ [x]) := Lib.hid (by rw [take_one hkl, hxx])
        have HLN : Hid ((ks.take k).length = k) := Lib.hid (by rw [List.length_take]; omega)
        have hown : wr.ownsRow w1.heap.size 66 4 u7 k ((ks.take k).flatMap accC) := by have h := HO.out; unfold OwnA at h; rwa [HLN.out] at h
        have HOWN := Lib.hid hown
        have hbs := HBr.out.size
        have b1 : k + 1 ≤ maxLen := by unfold maxLen; omega
        have b2 : (k + 1) * 64 ≤ 140737488355328 := by omega
        have b3 : w1.heap.size ≤ (wr.alloc (acO x none 0 0 0 none 0 0)).heap.size := by simp; omega
        clear hxx hkl hown
        go_wp2_with (at_builtin; refine wpList_append_lies rfl _ _ 64 rfl w1.heap.size 66 i0 _ 4 64 Tryd.underlying64 hi hz0 hz1 hz2 rfl (by decide) u7 k _ rfl (HOWN.out.alloc _) ⟨wr.heap.size, 0, none⟩ 1 1 (accC x) rfl rfl (World.news_of_block (cs := #[.int .i64 x, .slice none 0 0, .int .i64 0, .slice none 0 0]) (t := 66) (fr := (0, 0)) (heap_alloc_new wr _)) (by simp [accC, Value.oneCell']) (by decide) b1 b2 b3 _ rfl ?_; intro gg cap wz hown1 hgrow hat hlt2)
        have HO2 : Hid (OwnA wz w1.heap.size (.slice (some ⟨gg, 0, none⟩) (k + 1) cap) (ks.take (k + 1))) := Lib.hid (by
          rw [HTK.out]
          exact OwnA.app HLN.out.symm hown1)
        have HB2 : Hid (Below w1.heap.size w1 wz) := Lib.hid ((HBr.out.alloc hbs (acO x none 0 0 0 none 0 0)).grown hgrow (by simp; omega) (fun j hj => (World.ownsRow.lt HOWN.out j hj).1))
        clear hown1 hgrow hat hlt2 HO HBr HOWN hc
        go_wp2
        go_roundw
        case rel => exact ⟨k + 1, by omega, by go_num, HO2, HB2⟩
        case measure => simp [intOf]; omega
      · obtain rfl : k = nk := by omega
        have HO5 : OwnA wr w1.heap.size u7 ks := by
          have h := HO.out
          rwa [List.take_of_length_le (by have := hkn.out; omega)] at h
        obtain ⟨F, fc, e1, hF⟩ := HO5.fa
        rw [hkn.out] at e1
        subst e1
        have HF := Lib.hid hF
        have HVr := Lib.hid (HV1.out.below HBr.out)
        have HDr := Lib.hid (HD1.out.below HBr.out)
        have HBB := Lib.hid (HB1.out.below HBr.out)
        have HLr := Lib.hid (below_ext HL1.out HBr.out)
        obtain ⟨⟨c0, c1, c2⟩, c3, c4, c5⟩ := HBB.out
        clear HO HO5 hF HV1 HD1 HB1 HL1 HBr HS1
        go_wp2_with fail
        refine (name_any P Q G A B H key hQ _ HVr HDr).mono ?_
        rintro e w3 ⟨rfl, hb3⟩
        have HV3 := Lib.hid (HVr.out.below hb3)
        have HB3 := Lib.hid (HBB.out.below hb3)
        have HF3 := Lib.hid (HF.out.below hb3)
        have HL3 := Lib.hid (below_ext HLr.out hb3)
        obtain ⟨S, hSS⟩ : ∃ S, nmS P Q G A B H key = S := ⟨_, rfl⟩
        obtain ⟨r, hr⟩ : ∃ r, nmR P Q G A B H key = r := ⟨_, rfl⟩
        have HSS := Lib.hid hSS
        have HRR := Lib.hid hr
        rw [hSS, hr]
        clear hb3 hSS hr HVr HDr HBB HF HLr c0 c1 c2 c3 c4 c5
        go_wp2_with fail
        refine (find_any key F ks k fc hkn (by omega) _ HF3).mono ?_
        rintro e w4 ⟨rfl, hb4⟩
        have HV4 := Lib.hid (HV3.out.below hb4)
        have HB4 := Lib.hid (HB3.out.below hb4)
        have HF4 := Lib.hid (HF3.out.below hb4)
        have HL4 := Lib.hid (below_ext HL3.out hb4)
        clear hb4 HV3 HB3 HF3 HL3
        obtain ⟨f, hf⟩ : ∃ f, fnd key ks 0 = f := ⟨_, rfl⟩
        have HFF := Lib.hid hf
        rw [hf]
        clear hf
        go_wp2_with fail
        refine (rfind_any key F ks k fc hkn (by omega) _ HF4).mono ?_
        rintro e w5 ⟨rfl, rfl⟩
        rw [HFF.out]
        clear HF4 HFF
        have hff : (f != f) = false := by simp
        obtain ⟨⟨c0, c1, c2⟩, c3, c4, c5⟩ := HB4.out
        go_wp2_with fail
        refine (rbvalid_any P Q G A B H _ (Lib.hid rfl) hQ _).mono ?_
        rintro e w6 ⟨rfl, hb6⟩
        have HB6 := Lib.hid (HB4.out.below hb6)
        have HL6 := Lib.hid (below_ext HL4.out hb6)
        clear hb6 HV4 HB4 HL4 hff c0 c1 c2 c3 c4 c5
        cases hval : validB P Q G A B H with
        | false =>
          have hR : nmR P Q G A B H key = 1 := by rw [nmR, hval]; rfl
          obtain rfl : r = 1 := by rw [← HRR.out, hR]
          obtain rfl : S = ⟨#[]⟩ := by rw [← HSS.out, nmS, hR]; rfl
          clear hR hval HSS HRR
          go_wp2
          go_ret
          exact ⟨rfl, HL6.out⟩
        | true =>
          have HVAL := Lib.hid hval
          cases hkb : keyB P Q B key with
          | false =>
            have hR : nmR P Q G A B H key = 2 := by rw [nmR, hval, hkb]; rfl
            obtain rfl : r = 2 := by rw [← HRR.out, hR]
            obtain rfl : S = ⟨#[]⟩ := by rw [← HSS.out, nmS, hR]; rfl
            have HKB := Lib.hid hkb
            clear hR hval hkb HSS HRR
            obtain ⟨⟨c0, c1, c2⟩, c3, c4, c5⟩ := HB6.out
            go_wp2_with fail
            refine (iskey_any P Q G A B H key HVAL false HKB _).mono ?_
            rintro e w7 ⟨rfl, hb7⟩
            have HL7 := Lib.hid (below_ext HL6.out hb7)
            clear hb7 HL6 HB6 c0 c1 c2 c3 c4 c5
            go_wp2
            go_ret
            exact ⟨rfl, HL7.out⟩
          | true =>
            have hR : nmR P Q G A B H key = 0 := by rw [nmR, hval, hkb]; rfl
            obtain rfl : r = 0 := by rw [← HRR.out, hR]
            have HSN : Hid (nmT (nmL P Q G A B H key) = S) := Lib.hid (by rw [← HSS.out, nmS, if_pos hR])
            have HKB := Lib.hid hkb
            have HX := Lib.hid (r64_good hval hkb)
            clear hR hval hkb HSS HRR
            obtain ⟨⟨c0, c1, c2⟩, c3, c4, c5⟩ := HB6.out
            go_wp2_with fail
            refine (iskey_any P Q G A B H key HVAL true HKB _).mono ?_
            rintro e w7 ⟨rfl, hb7⟩
            have HB7 := Lib.hid (HB6.out.below hb7)
            have HL7 := Lib.hid (below_ext HL6.out hb7)
            clear hb7 HL6 HB6 c0 c1 c2 c3 c4 c5
            obtain ⟨⟨c0, c1, c2⟩, c3, c4, c5⟩ := HB7.out
            go_wp2_with fail
            refine (rname_any P Q G A B H key HX _).mono ?_
            rintro e w8 ⟨rfl, hb8⟩
            have HL8 := Lib.hid (below_ext HL7.out hb8)
            rw [HSN.out]
            clear hb8 HL7 HB7 c0 c1 c2 c3 c4 c5
            go_wp2
            go_ret
            exact ⟨rfl, HL8.out⟩
end Go.Proofs.YtdlhodbiaoafiaaDoor
