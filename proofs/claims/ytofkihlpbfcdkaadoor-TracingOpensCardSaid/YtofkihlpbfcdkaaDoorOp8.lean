/- Contracts and lemmas: Hex, HexR, TlT, TmL, TmK. -/
import Derived.Deep.AppendLies
import Derived.Test.YtofkihlpbfcdkaaDoorOp7
namespace Go.Proofs.YtofkihlpbfcdkaaDoor
open Go.RowKit SpM
set_option linter.unusedVariables false
set_option linter.unusedSimpArgs false
set_option maxRecDepth 100000
theorem hash_und : Tryd.prog.underlying 42 = some (.array 32 5) := by kernel_rfl
theorem index_arr {l : List Int} (hl : l.length = 32) {k : Nat} (hk : k < 32) (w : World) : (Instr.index 42 (.agg (arr .u8 l)) (.int .i64 (k : Int))).run Tryd.prog w = .ok (.int .u8 (l.getD k 0)) w := by
  obtain ⟨i1, hi1, hy0, hy1, hy2⟩ := info_parts byteInfo
  have h0 : (0 : Int) ≤ k ∧ (k : Int) < ((32 : Nat) : Int) := by omega
  have h1 : (arr .u8 l)[k]? = some (.int .u8 (l.getD k 0)) := arr_get (by omega)
  simp only [Instr.index, asIntOf, run_underlying hash_und, h0, go_sem]
  simp [h1, hk, go_sem]
def hexd (q : Int) : Int := if q < 10 then 48 + q else 87 + q
theorem index_digs0 : ∀ n : Nat, n < 16 → ∀ w, (Instr.index 9 (.string ⟨#[48, 49, 50, 51, 52, 53, 54, 55, 56, 57, 97, 98, 99, 100, 101, 102]⟩) (.int .u8 (n : Int))).run Tryd.prog w = .ok (.int .u8 (hexd n)) w
  | 0, _ => fun w => by kernel_rfl
  | 1, _ => fun w => by kernel_rfl
  | 2, _ => fun w => by kernel_rfl
  | 3, _ => fun w => by kernel_rfl
  | 4, _ => fun w => by kernel_rfl
  | 5, _ => fun w => by kernel_rfl
  | 6, _ => fun w => by kernel_rfl
  | 7, _ => fun w => by kernel_rfl
  | 8, _ => fun w => by kernel_rfl
  | 9, _ => fun w => by kernel_rfl
  | 10, _ => fun w => by kernel_rfl
  | 11, _ => fun w => by kernel_rfl
  | 12, _ => fun w => by kernel_rfl
  | 13, _ => fun w => by kernel_rfl
  | 14, _ => fun w => by kernel_rfl
  | 15, _ => fun w => by kernel_rfl
  | n + 16, h => fun w => absurd h (by omega)
theorem index_digs {q : Int} (h0 : 0 ≤ q) (h1 : q < 16) (w : World) : (Instr.index 9 (.string ⟨#[48, 49, 50, 51, 52, 53, 54, 55, 56, 57, 97, 98, 99, 100, 101, 102]⟩) (.int .u8 q)).run Tryd.prog w = .ok (.int .u8 (hexd q)) w := by
  obtain ⟨n, rfl⟩ : ∃ n : Nat, q = n := ⟨q.toNat, by omega⟩
  exact index_digs0 n (by omega) w
def hexL (l : List Int) : List Int := l.flatMap fun x => [hexd (x / 16), hexd (x % 16)]
theorem hexL_len (l : List Int) : (hexL l).length = 2 * l.length := by
  induction l with
  | nil => rfl
  | cons x t ih => simp [hexL] at ih ⊢; omega
theorem hexL_app (l m : List Int) : hexL (l ++ m) = hexL l ++ hexL m := by simp [hexL]
def txt (l : List Int) : ByteArray := ⟨(l.map fun x => UInt8.ofNat x.toNat).toArray⟩
def isB (l : List Int) : Prop := ∀ x ∈ l, 0 ≤ x ∧ x < 256
theorem byteCells_txt {l : List Int} (h : isB l) : Lib.byteCells (l.map fun x => UInt8.ofNat x.toNat) = l.map (Value.int .u8) := by
  unfold Lib.byteCells
  rw [List.map_map]
  apply List.map_congr_left
  intro x hx
  have := h x hx
  simp only [Function.comp, UInt8.toNat_ofNat']
  congr 1
  omega
theorem hexd_b {q : Int} (h0 : 0 ≤ q) (h1 : q < 16) : 0 ≤ hexd q ∧ hexd q < 256 := by unfold hexd; split <;> omega
theorem hexL_b {l : List Int} (h : isB l) : isB (hexL l) := by
  intro y hy
  obtain ⟨x, hx, hy2⟩ := List.mem_flatMap.1 hy
  have := h x hx
  simp only [List.mem_cons, List.not_mem_nil, or_false] at hy2
  rcases hy2 with rfl | rfl
  · exact hexd_b (by omega) (by omega)
  · exact hexd_b (by omega) (by omega)
theorem Bld.is {w : World} {b : Nat} {l : List Int} (h : Bld w b l) (hb : isB l) : Lib.IsBuilder 98 5 b b (Lib.byteCells (l.map fun x => UInt8.ofNat x.toNat)) w := by
  obtain ⟨p, v, hp, hblk, hown⟩ := h
  have h2 : Lib.BuilderAt 98 5 b b p (Lib.byteCells (l.map fun x => UInt8.ofNat x.toNat)) w := by
    refine ⟨Nat.le_refl b, v, hblk, ?_, ?_⟩
    · rw [byteCells_txt hb]
      have h3 := (hown.mono (Nat.le_succ b))
      unfold OwnK at h3
      simpa using h3
    · exact fun e => absurd (World.ownsRow.lt hown b e).1 (by omega)
  rcases hp with rfl | rfl
  · exact Or.inl h2
  · exact Or.inr h2
theorem Bld.new (w : World) : Bld (w.alloc (.cells #[.pointer none, .slice none 0 0] 98)) w.heap.size [] :=
  ⟨_, _, Or.inl rfl, heap_alloc_new _ _, ⟨rfl, Or.inl ⟨rfl, rfl⟩⟩⟩
theorem and15 {x : Int} (h0 : 0 ≤ x) (h1 : x < 256) : bits .and .u8 x 15 = x % 16 := by
  obtain ⟨n, rfl⟩ : ∃ n : Nat, x = n := ⟨x.toNat, by omega⟩
  have h2 : ∀ m : Nat, m < 256 → bits .and .u8 (m : Int) 15 = (m : Int) % 16 := by decide
  exact h2 n (by omega)
set_option maxHeartbeats 3200000 in
theorem hex_any (h : List Int) (hl : Hid (h.length = 32)) (hb : Hid (isB h)) (w : World) :
    Calls Tryd.prog 56 #[.agg (arr .u8 h)] w fun e w' => e = .returned (.string (txt (hexL h))) ∧ Below w.heap.size w w' := by
  obtain ⟨W, hW⟩ : ∃ W, (w.alloc (.cells (arr .u8 h) 42)).alloc (.cells #[.pointer none, .slice none 0 0] 98) = W := ⟨_, rfl⟩
  have hb0 : (w.alloc (.cells (arr .u8 h) 42)).heap.size = w.heap.size + 1 := by simp
  have HB0 : Hid (Below w.heap.size w W) := Lib.hid (by rw [← hW]; exact ((below_box0 w _).alloc (by simp) _))
  have HBb : Hid (Bld W (w.heap.size + 1) []) := Lib.hid (by rw [← hW, ← hb0]; exact Bld.new _)
  have HT : Hid (Blk .u8 42 W w.heap.size h) := Lib.hid (by rw [← hW]; exact (Blk.new w h).old _)
  have HW := Lib.hid hW
  clear hW hb0
  go_enter Tryd.func56, Tryd.ntmps56
  go_upto_region 2 with (fail)
  rw [HW.out]
  go_wp2_with ((with_reducible show wpList _ _ _ (⟨some 6, _, _, _, _, _⟩ :: _) _ _); refine wpList_load_row rfl 42 _ rfl w.heap.size rfl _ _ _ _ HT.out Tryd.underlying42 rfl (hash_info hl.out) ?_)
  clear HW HT
  go_loopw [7] (fun i u => ∃ k : Nat, k ≤ 32 ∧ i = .int .i64 k ∧ Hid (Bld u (w.heap.size + 1) (hexL (h.take k))) ∧ Hid (Below w.heap.size w u)) (fun i _ => 32 - (intOf i).toNat)
  case atStart => exact ⟨0, by omega, by simp, HBb, HB0⟩
  case round =>
    obtain ⟨k, hk, rfl, HBk, HLk⟩ := hrel
    by_cases hlt : k < 32
    · have d1 : decide ((k : Int) < 32) = true := by simp; omega
      obtain ⟨x, hx⟩ : ∃ x, h.getD k 0 = x := ⟨_, rfl⟩
      have hxb : 0 ≤ x ∧ x < 256 := by
        rw [← hx, List.getD_eq_getElem?_getD, List.getElem?_eq_getElem (by have := hl.out; omega)]
        exact hb.out _ (List.getElem_mem _)
      have hix := index_arr hl.out hlt
      rw [hx] at hix
      have hb1 := and15 hxb.1 hxb.2
      have hd1 := index_digs (q := x / 16) (by omega) (by omega)
      have hd2 := index_digs (q := x % 16) (by omega) (by omega)
      have HL0 : Hid ((hexL (h.take k)).length ≤ 100000) := Lib.hid (by rw [hexL_len, List.length_take]; omega)
      have HL1 : Hid ((hexL (h.take k) ++ [hexd (x / 16)]).length ≤ 100000) := Lib.hid (by rw [List.length_append, hexL_len, List.length_take]; simp; omega)
      have HTK : Hid ((hexL (h.take k) ++ [hexd (x / 16)]) ++ [hexd (x % 16)] = hexL (h.take (k + 1))) := Lib.hid (by
        rw [take_one (show k < h.length by have := hl.out; omega), hexL_app, hx]
        simp [hexL])
      clear hx
      go_wp2_with fail
      refine (wbyte_any (w.heap.size + 1) _ _ HL0.out _ HBk).mono ?_
      rintro e w1 ⟨⟨ua, rfl⟩, hBk1, hBl1⟩
      have HBk1 := Lib.hid hBk1
      have HLk1 := Lib.hid (HLk.out.trans (hBl1.mono (Nat.le_succ _)))
      clear hBk1 hBl1 HBk HLk
      go_wp2_with fail
      refine (wbyte_any (w.heap.size + 1) _ _ HL1.out _ HBk1).mono ?_
      rintro e w2 ⟨⟨ub, rfl⟩, hBk2, hBl2⟩
      rw [HTK.out] at hBk2
      have HBk2 := Lib.hid hBk2
      have HLk2 := Lib.hid (HLk1.out.trans (hBl2.mono (Nat.le_succ _)))
      clear hBk2 hBl2 HBk1 HLk1
      go_wp2
      go_roundw
      case rel => exact ⟨k + 1, by omega, by go_num, HBk2, HLk2⟩
      case measure => simp [intOf]; omega
    · obtain rfl : k = 32 := by omega
      have HBk2 : Hid (Bld wr (w.heap.size + 1) (hexL h)) := Lib.hid (by
        have h2 := HBk.out
        rwa [List.take_of_length_le (by rw [hl.out]; exact Nat.le_refl _)] at h2)
      have HNe : Hid ((hexL h).map (fun x => UInt8.ofNat x.toNat) ≠ []) := Lib.hid (by
        intro e
        have := congrArg List.length e
        rw [List.length_map, hexL_len, hl.out] at this
        simp at this)
      clear HBk
      go_wp2_with fail
      refine (Tryd.Builder_String (w.heap.size + 1) (w.heap.size + 1) _ _ (HBk2.out.is (hexL_b hb.out)) HNe.out).mono ?_
      rintro e w1 ⟨rfl, hb1⟩
      have HLk1 := Lib.hid (HLk.out.trans (hb1.mono (Nat.le_succ _)))
      clear hb1 HLk
      go_wp2
      go_ret
      exact ⟨rfl, HLk1.out⟩
theorem back_any {w : World} {B : Nat} {v : Value} {l : List Int} {n : Nat} (h : OwnK .u8 5 w B v l) (hb : isB l) (h0 : 0 < l.length) : (convert 63 9 v).run Tryd.prog w = .ok (.string (txt l)) w := by
  obtain ⟨g, cap, rfl, hg, hn, hc2, hc⟩ := h.cells h0
  have e := run_convert_bytes_back (P := Tryd.prog) w 63 9 5 ⟨g, 0, none⟩ cap (l.map fun x => UInt8.ofNat x.toNat) Tryd.underlying63 Tryd.underlying5 Tryd.underlying9 (fun j hj => by
    have hj2 : j < l.length := by simpa using hj
    obtain ⟨b, o, e1, e2⟩ := hc j hj2
    injection e1 with e1
    injection e1 with e1 e1b
    subst e1
    subst e1b
    have hx := hb (l.getD j 0) (by rw [List.getD_eq_getElem?_getD, List.getElem?_eq_getElem hj2]; exact List.getElem_mem _)
    have e3 : (((l.map fun x => UInt8.ofNat x.toNat)[j]'hj).toNat : Int) = l.getD j 0 := by
      rw [List.getElem_map, UInt8.toNat_ofNat']
      rw [List.getD_eq_getElem?_getD, List.getElem?_eq_getElem hj2] at hx ⊢
      simp only [Option.getD_some] at hx ⊢
      omega
    rw [e3, ← e2]
    simp [Addr.add]
    split <;> simp_all)
  rw [List.length_map] at e
  exact e
set_option maxHeartbeats 3200000 in
theorem rhex_any (h : List Int) (hl : Hid (h.length = 32)) (hb : Hid (isB h)) (w : World) :
    Calls Tryd.prog 43 #[.agg (arr .u8 h)] w fun e w' => e = .returned (.string (txt (hexL h))) ∧ Below w.heap.size w w' := by
  obtain ⟨i0, hi, hz0, hz1, hz2⟩ := info_parts byteInfo
  obtain ⟨W, hW⟩ : ∃ W, w.alloc (.cells (arr .u8 h) 42) = W := ⟨_, rfl⟩
  have hWs : W.heap.size = w.heap.size + 1 := by rw [← hW]; simp
  have HB0 : Hid (Below w.heap.size w W) := Lib.hid (by rw [← hW]; exact below_box0 w _)
  have HT : Hid (Blk .u8 42 W w.heap.size h) := Lib.hid (by rw [← hW]; exact Blk.new w h)
  have HW := Lib.hid hW
  clear hW
  go_enter Tryd.func43, Tryd.ntmps43
  go_upto_region 3 with (fail)
  rw [HW.out]
  clear HW
  go_wp2
  go_loopw [4, 5] (fun v i u => ∃ k : Nat, k ≤ 32 ∧ i = .int .i64 k ∧ Hid (OwnK .u8 5 u (w.heap.size + 1) v (hexL (h.take k))) ∧ Hid (Below (w.heap.size + 1) W u)) (fun _ i _ => 32 - (intOf i).toNat)
  case atStart => exact ⟨0, by omega, by simp, Lib.hid ⟨rfl, Or.inl ⟨rfl, rfl⟩⟩, Lib.hid (Below.refl _ _)⟩
  case round =>
    obtain ⟨k, hk, rfl, HO, HBr⟩ := hrel
    by_cases hlt : k < 32
    · have d1 : decide ((k : Int) < 32) = true := by simp; omega
      obtain ⟨x, hx⟩ : ∃ x, h.getD k 0 = x := ⟨_, rfl⟩
      have hxb : 0 ≤ x ∧ x < 256 := by
        rw [← hx, List.getD_eq_getElem?_getD, List.getElem?_eq_getElem (by have := hl.out; omega)]
        exact hb.out _ (List.getElem_mem _)
      have d3 : (k : Int) < 32 := by omega
      have hd1 := index_digs (q := x / 16) (by omega) (by omega)
      have hd2 := index_digs (q := x % 16) (by omega) (by omega)
      have e1 : x.tdiv 16 = x / 16 := Int.tdiv_eq_ediv_of_nonneg hxb.1
      have e2 : x.tmod 16 = x % 16 := Int.tmod_eq_emod_of_nonneg hxb.1
      have e3 : IntKind.u8.wrap (x / 16) = x / 16 := by simp [IntKind.wrap, IntKind.bits, IntKind.signed]; omega
      have e4 : IntKind.u8.wrap (x % 16) = x % 16 := by simp [IntKind.wrap, IntKind.bits, IntKind.signed]; omega
      obtain ⟨n, hn⟩ : ∃ n, (hexL (h.take k)).length = n := ⟨_, rfl⟩
      have hn2 : n ≤ 64 := by rw [← hn, hexL_len, List.length_take]; omega
      have HLN := Lib.hid hn
      have HOWN := Lib.hid (HO.out.row hn)
      have HTK : Hid (hexL (h.take k) ++ [hexd (x / 16), hexd (x % 16)] = hexL (h.take (k + 1))) := Lib.hid (by
        rw [take_one (show k < h.length by have := hl.out; omega), hexL_app, hx]
        simp [hexL])
      have hc : wr.cell? ⟨w.heap.size, k, none⟩ = some (.int .u8 x) := by
        rw [← hx]
        exact (HT.out.keepB (Nat.lt_succ_self _) HBr.out).cell (by have := hl.out; omega)
      have hsz := HBr.out.size
      have hS := Lib.hid (show ∀ u1 : World, Hid (Below wr.drew.heap.size wr.drew u1) → (u1.cell? ⟨w.heap.size, k, none⟩ = some (.int .u8 x) ∧ Hid (Below wr.drew.heap.size wr.drew u1)) from fun u1 h1 => ⟨cell_below (w := wr.drew) hc h1.out, h1⟩)
      clear hx hn hc HT
      go_wp2
      refine wp_region_T (S := fun w' => w'.cell? ⟨w.heap.size, k, none⟩ = some (.int .u8 x) ∧ Hid (Below wr.drew.heap.size wr.drew w')) (E := [14, 15]) (by kernel_rfl) (hS.out _ (Lib.hid (Below.refl _ _))) (fun hHeld => ?_)
      refine tkV 0 ?_
      try simp only [qq1, qq2, qq3, Act.put, qq4, qq5, qq6]
      refine tkV 1 ?_
      try simp only [qq1, qq2, qq3, Act.put, qq4, qq5, qq6]
      refine tkV 2 ?_
      try simp only [qq1, qq2, qq3, Act.put, qq4, qq5, qq6]
      refine tkV 3 ?_
      try simp only [qq1, qq2, qq3, Act.put, qq4, qq5, qq6]
      refine tkV 4 ?_
      try simp only [qq1, qq2, qq3, Act.put, qq4, qq5, qq6]
      refine tkV 5 ?_
      try simp only [qq1, qq2, qq3, Act.put, qq4, qq5, qq6]
      refine tkV 6 ?_
      try simp only [qq1, qq2, qq3, Act.put, qq4, qq5, qq6]
      refine tkV 7 ?_
      try simp only [qq1, qq2, qq3, Act.put, qq4, qq5, qq6]
      refine tkV 8 ?_
      try simp only [qq1, qq2, qq3, Act.put, qq4, qq5, qq6]
      refine tkV 9 ?_
      try simp only [qq1, qq2, qq3, Act.put, qq4, qq5, qq6]
      refine tkV 10 ?_
      try simp only [qq1, qq2, qq3, Act.put, qq4, qq5, qq6]
      refine tkV 11 ?_
      try simp only [qq1, qq2, qq3, Act.put, qq4, qq5, qq6]
      refine tkV 12 ?_
      try simp only [qq1, qq2, qq3, Act.put, qq4, qq5, qq6]
      refine wpT_one (i := 13) (by kernel_rfl) rfl (fun K hK => ?_)
      go_simp
      refine hK.out _ _ ?_ (fun hHeld => ?_)
      · exact hS.out _ (Lib.hid (below_box0 _ _))
      clear hK K
      try simp only [qq1, qq2, qq3, Act.put, qq4, qq5, qq6]
      refine wpT_pass (i := 14) (by kernel_rfl) (by simp) rfl (fun K hK => ?_)
      refine step_append_lies _ (by rfl) _ _ _ (by rfl) (w.heap.size + 1) 5 i0 _ 1 1 Tryd.underlying63 hi hz0 hz1 hz2 rfl (by omega) u4 n ((hexL (h.take k)).map (Value.int .u8)) (by rfl) ((HOWN.out.alloc _).drew)
        ⟨wr.heap.size, 0, none⟩ 2 2 [.int .u8 (hexd (x / 16)), .int .u8 (hexd (x % 16))] (by rfl) (by rfl) (World.news_of_block (cs := #[.int .u8 (hexd (x / 16)), .int .u8 (hexd (x % 16))]) (t := 5) (fr := (0, 0)) (heap_alloc_new wr _)) (by simp [Value.oneCell'])
        (by omega) (by unfold maxLen; omega) (by omega) (by simp; omega) (wr.heap.size + 1) (by simp) ?_; intro gg cap wz hown1 hgrow hat hlt2
      refine hK.out _ _ ?_
      clear hK K
      try simp only [qq1, qq2, qq3, Act.put, qq4, qq5, qq6]
      refine wpT_pass (i := 15) (by kernel_rfl) (by simp) rfl (fun K hK => ?_)
      go_simp
      refine hK.out _ _ ?_
      clear hK K
      try simp only [qq1, qq2, qq3, Act.put, qq4, qq5, qq6]
      refine wpT_done (by kernel_rfl) ?_ _
      have HB2 : Hid (Below (w.heap.size + 1) W wz) := Lib.hid (((HBr.out.alloc (by omega) (.cells #[.int .u8 (hexd (x / 16)), .int .u8 (hexd (x % 16))] 5)).drew).grown hgrow (by simp; omega) (fun j hj => by have := (World.ownsRow.lt HOWN.out j hj).1; omega))
      have HO2 : Hid (OwnK .u8 5 wz (w.heap.size + 1) (.slice (some ⟨gg, 0, none⟩) (n + 2) cap) (hexL (h.take (k + 1)))) := Lib.hid (by
        rw [← HTK.out]
        exact OwnK.app (ys := [hexd (x / 16), hexd (x % 16)]) HLN.out.symm rfl hown1)
      clear hown1 hgrow hat HO HBr
      go_wp2
      go_roundw
      case rel => exact ⟨k + 1, by omega, by go_num, HO2, HB2⟩
      case measure => simp [intOf]; omega
    · obtain rfl : k = 32 := by omega
      have HF : Hid (OwnK .u8 5 wr (w.heap.size + 1) u4 (hexL h)) := Lib.hid (by
        have h2 := HO.out
        rwa [List.take_of_length_le (by rw [hl.out]; exact Nat.le_refl _)] at h2)
      have hcv := back_any (n := 0) HF.out (hexL_b hb.out) (by rw [hexL_len, hl.out]; decide)
      have HE : Hid (Below w.heap.size w wr) := Lib.hid (HB0.out.trans (HBr.out.mono (Nat.le_succ _)))
      clear HO HBr
      go_wp2
      go_ret
      exact ⟨rfl, HE.out⟩
def tagLb : ByteArray := ⟨#[115, 112, 101, 99, 105, 101, 47, 111, 114, 100, 101, 114]⟩
def lbIt (h : List Int) (o : OrdR) : It := .lst [.byt h, .int o.num, .byt (bys o.rs), eIt o.E1 o.E2 o.al o.C o.zs]
def lbH (h : List Int) (o : OrdR) : List Int := tagged (bys tagLb) (enc (lbIt h o))
def lbS (h : List Int) (o : OrdR) : ByteArray := (⟨#[116, 114, 97, 99, 101, 58]⟩ : ByteArray) ++ (txt (hexL (lbH h o))).extract 0 16
theorem isB_of {l : List Int} (h : bytesB l = true) : isB l := fun x hx => by
  simp only [bytesB, List.all_eq_true, Bool.and_eq_true, decide_eq_true_eq] at h
  exact h x hx
theorem txt_size (l : List Int) : (txt l).size = l.length := by simp [txt, ByteArray.size]
theorem fits_lb {h : List Int} {o : OrdR} (hl : h.length = 32) (hb : bytesB h = true) (hi : OrdI o) (hs : OrdS o) : fits 8 (lbIt h o) := by
  have ho := fits_o hi hs
  refine ⟨by simp, fun x hx => ?_⟩
  simp only [List.mem_cons, List.not_mem_nil, or_false] at hx
  rcases hx with rfl | rfl | rfl | rfl
  · exact ⟨⟨by omega, by omega⟩, hb⟩
  · exact fits_mono (ho.2 _ (by simp [oIt])) (by decide)
  · exact fits_mono (ho.2 _ (by simp [oIt])) (by decide)
  · exact fits_mono (ho.2 _ (by simp [oIt])) (by decide)
theorem enc_lb {h : List Int} {o : OrdR} (hl : h.length = 32) (hs : OrdS o) : (enc (lbIt h o)).length ≤ 16384 := by
  have h1 := enc_o hs
  rw [oIt, enc_lst] at h1
  rw [lbIt, enc_lst]
  simp only [List.length_cons, List.length_append, be4_len, encL_cons, enc_byt, List.length_nil, show (encL []).length = 0 from rfl, hl] at h1 ⊢
  omega
set_option maxHeartbeats 12800000 in
theorem label_any (bO fO : Nat) (os : List OrdR) (n c : Nat) (K : Option Addr) (hs : List (List Int)) (m d i : Nat) (hn : Hid (os.length = n)) (hm : Hid (hs.length = m)) (hi : i < n) (him : i ≤ m) (hb1 : n ≤ 1000000) (hb2 : m ≤ 1000000) (h : List Int) (hh : Hid (befL hs i = h)) (hl : Hid (h.length = 32)) (hb : Hid (bytesB h = true)) (o : OrdR) (ho : Hid (orL os i = o)) (hI : Hid (OrdI o)) (hS : OrdS o) (w : World) (hv : Hid (VarsD w)) (hO : Hid (Os w (some ⟨bO, fO, none⟩) os)) (hK : Hid (Hs w K hs)) :
    Calls Tryd.prog 30 #[tlV (some ⟨bO, fO, none⟩) n c K m d, .int .i64 (i : Int)] w fun e' w' => e' = .returned (.string (lbS h o)) ∧ Below w.heap.size w w' := by
  obtain ⟨RR, hRR⟩ : ∃ R, tagged (bys tagLb) (enc (lbIt h o)) = R := ⟨_, rfl⟩
  rw [show lbS h o = (⟨#[116, 114, 97, 99, 101, 58]⟩ : ByteArray) ++ (txt (hexL (tagged (bys tagLb) (enc (lbIt h o))))).extract 0 16 from rfl, hRR]
  have HRR : Kp (tagged (bys tagLb) (enc (lbIt h o)) = RR) := ⟨hRR⟩
  have HRL : Hid (RR.length = 32) := Lib.hid (by rw [← hRR]; exact tagged_len _ _)
  have HRB : Hid (isB RR) := Lib.hid (by rw [← hRR]; exact isB_of (sha_bytes _))
  have HFIT : Hid (fits 8 (lbIt h o)) := Lib.hid (fits_lb hl.out hb.out hI.out hS)
  have HLEN : Hid ((enc (lbIt h o)).length ≤ 16384) := Lib.hid (enc_lb hl.out hS)
  clear hRR
  have hxs : (txt (hexL RR)).size = 64 := by rw [txt_size, hexL_len, HRL.out]
  obtain ⟨w0, HW, HBw, kC⟩ := stTl (some ⟨bO, fO, none⟩) n c K m d w
  have kO := Lib.hid (show ∀ u : World, Hid (Below w0.heap.size w0 u) → Hid (Os u (some ⟨bO, fO, none⟩) os) from fun u h => Lib.hid ((hO.out.below) (below_ext HBw.out h.out)))
  have kK := Lib.hid (show ∀ u : World, Hid (Below w0.heap.size w0 u) → Hid (Hs u K hs) from fun u h => Lib.hid ((hK.out.below) (below_ext HBw.out h.out)))
  have kD := Lib.hid (show ∀ u : World, Hid (Below w0.heap.size w0 u) → Hid (VarsD u) from fun u h => Lib.hid ((hv.out.below) (below_ext HBw.out h.out)))
  have HB_0 : Hid (Below w0.heap.size w0 w0) := Lib.hid (Below.refl _ _)
  clear hO hK hv
  obtain ⟨bX, fX, hX, hnine, hok⟩ := ((kO.out _ HB_0)).out i (by rw [hn.out]; exact hi)
  cases hX
  rw [show os.getD i noOrd = o from ho.out] at hnine hok
  obtain ⟨j0, j1, j2, j3, j4, j5, j6, j7, j8⟩ := hnine
  have HOK := Lib.hid hok
  clear hok
  go_enter Tryd.func30, Tryd.ntmps30
  go_upto_region 1 with (fail)
  rw [HW.out]
  obtain ⟨zc0, zc1⟩ := kC.out _ HB_0
  have hq := below_box0 w0 (orO o)
  have HB_1 := Lib.hid (below_ext HB_0.out hq)
  have hc : (w0.alloc (orO o)).cell? ⟨w0.heap.size, 0, none⟩ = some (.int .i64 o.num) ∧ (w0.alloc (orO o)).cell? ⟨w0.heap.size, 1, none⟩ = some (.string o.rs) ∧ (w0.alloc (orO o)).cell? ⟨w0.heap.size, 2, none⟩ = some (.int .i64 o.E1) ∧ (w0.alloc (orO o)).cell? ⟨w0.heap.size, 3, none⟩ = some (.int .i64 o.E2) ∧ (w0.alloc (orO o)).cell? ⟨w0.heap.size, 4, none⟩ = some (.slice o.A o.na o.ca) ∧ (w0.alloc (orO o)).cell? ⟨w0.heap.size, 5, none⟩ = some (.int .i64 o.C) ∧ (w0.alloc (orO o)).cell? ⟨w0.heap.size, 6, none⟩ = some (.slice o.Z o.nz o.cz) ∧ (w0.alloc (orO o)).cell? ⟨w0.heap.size, 7, none⟩ = some (.slice o.L o.np o.cp) ∧ (w0.alloc (orO o)).cell? ⟨w0.heap.size, 8, none⟩ = some (.int .i64 o.key) := ⟨allocs_cell rfl (by rfl), allocs_cell rfl (by rfl), allocs_cell rfl (by rfl), allocs_cell rfl (by rfl), allocs_cell rfl (by rfl), allocs_cell rfl (by rfl), allocs_cell rfl (by rfl), allocs_cell rfl (by rfl), allocs_cell rfl (by rfl)⟩
  have HC1 := Lib.hid hc
  clear hq
  obtain ⟨zc0x, zc1x⟩ := kC.out _ HB_1
  obtain ⟨zq0, zq1, zq2, zq3, zq4, zq5, zq6, zq7, zq8⟩ := hc
  go_upto_region 2 with (fail)
  obtain ⟨w1, hw⟩ : ∃ x, (w0.alloc (orO o)) = x := ⟨_, rfl⟩
  rw [hw] at HC1 HB_1 ⊢
  have HSN1 : Hid (w1.heap.size = w0.heap.size + 1) := Lib.hid (by rw [← hw]; simp)
  clear zc0 zc1 zc0x zc1x zq0 zq1 zq2 zq3 zq4 zq5 zq6 zq7 zq8
  clear hw
  have HB_w1_1 : Hid (Below w1.heap.size w1 w1) := Lib.hid (Below.refl _ _)
  have kE := Lib.hid (show ∀ u : World, Hid (Below w1.heap.size w1 u) → u.cell? ⟨w0.heap.size, 0, none⟩ = some (.int .i64 o.num) ∧ u.cell? ⟨w0.heap.size, 1, none⟩ = some (.string o.rs) ∧ u.cell? ⟨w0.heap.size, 2, none⟩ = some (.int .i64 o.E1) ∧ u.cell? ⟨w0.heap.size, 3, none⟩ = some (.int .i64 o.E2) ∧ u.cell? ⟨w0.heap.size, 4, none⟩ = some (.slice o.A o.na o.ca) ∧ u.cell? ⟨w0.heap.size, 5, none⟩ = some (.int .i64 o.C) ∧ u.cell? ⟨w0.heap.size, 6, none⟩ = some (.slice o.Z o.nz o.cz) ∧ u.cell? ⟨w0.heap.size, 7, none⟩ = some (.slice o.L o.np o.cp) ∧ u.cell? ⟨w0.heap.size, 8, none⟩ = some (.int .i64 o.key) from fun u h => ⟨cell_below HC1.out.1 h.out, cell_below HC1.out.2.1 h.out, cell_below HC1.out.2.2.1 h.out, cell_below HC1.out.2.2.2.1 h.out, cell_below HC1.out.2.2.2.2.1 h.out, cell_below HC1.out.2.2.2.2.2.1 h.out, cell_below HC1.out.2.2.2.2.2.2.1 h.out, cell_below HC1.out.2.2.2.2.2.2.2.1 h.out, cell_below HC1.out.2.2.2.2.2.2.2.2 h.out⟩)
  obtain ⟨zc0, zc1⟩ := kC.out _ HB_1
  obtain ⟨kE_0, kE_1, kE_2, kE_3, kE_4, kE_5, kE_6, kE_7, kE_8⟩ := kE.out _ HB_w1_1
  clear j0 j1 j2 j3 j4 j5 j6 j7 j8
  obtain ⟨zc0, zc1⟩ := kC.out _ HB_1
  obtain ⟨kE_0, kE_1, kE_2, kE_3, kE_4, kE_5, kE_6, kE_7, kE_8⟩ := kE.out _ HB_w1_1
  go_wp2_with fail
  refine (before_any (some ⟨bO, fO, none⟩) n c K hs m d i hm him hb2 _ (kK.out _ HB_1)).mono ?_
  rintro e w2 ⟨rfl, hb0⟩
  have HB_2 := Lib.hid (below_ext HB_1.out hb0)
  have HB_w1_2 := Lib.hid (below_ext HB_w1_1.out hb0)
  clear zc0 zc1 kE_0 kE_1 kE_2 kE_3 kE_4 kE_5 kE_6 kE_7 kE_8
  clear hb0
  rw [hh.out]
  have HA3 : Hid (Blk .u8 42 (w2.alloc (.cells #[.int .u8 0, .int .u8 0, .int .u8 0, .int .u8 0, .int .u8 0, .int .u8 0, .int .u8 0, .int .u8 0, .int .u8 0, .int .u8 0, .int .u8 0, .int .u8 0, .int .u8 0, .int .u8 0, .int .u8 0, .int .u8 0, .int .u8 0, .int .u8 0, .int .u8 0, .int .u8 0, .int .u8 0, .int .u8 0, .int .u8 0, .int .u8 0, .int .u8 0, .int .u8 0, .int .u8 0, .int .u8 0, .int .u8 0, .int .u8 0, .int .u8 0, .int .u8 0] 42)) w2.heap.size (zer 32)) := Lib.hid (by rw [zarrh]; exact Blk.new _ _)
  go_upto_region 3 with ((with_reducible show wpList _ _ _ (⟨none, Op.store _ (Operand.tmp 6) _, _, _, _, _⟩ :: _) _ _); refine wpList_store_row rfl 42 _ _ rfl w2.heap.size (arr .u8 h) rfl rfl _ _ HA3.out (hash_info hl.out) (arrs_sz (l := zer 32) rfl hl.out) (arr_one _) ?_)
  obtain ⟨w3, hw⟩ : ∃ x, (w2.alloc (.cells #[.int .u8 0, .int .u8 0, .int .u8 0, .int .u8 0, .int .u8 0, .int .u8 0, .int .u8 0, .int .u8 0, .int .u8 0, .int .u8 0, .int .u8 0, .int .u8 0, .int .u8 0, .int .u8 0, .int .u8 0, .int .u8 0, .int .u8 0, .int .u8 0, .int .u8 0, .int .u8 0, .int .u8 0, .int .u8 0, .int .u8 0, .int .u8 0, .int .u8 0, .int .u8 0, .int .u8 0, .int .u8 0, .int .u8 0, .int .u8 0, .int .u8 0, .int .u8 0] 42)).setRow w2.heap.size (arr .u8 h) = x := ⟨_, rfl⟩
  have HX3 : Hid (Blk .u8 42 w3 w2.heap.size h) := Lib.hid (by rw [← hw]; exact HA3.out.setRow)
  have hq : Below w2.heap.size w2 w3 := by rw [← hw]; exact below_setRow' (below_box0 _ _) (Nat.le_refl _)
  have HB_3 := Lib.hid (below_ext HB_2.out hq)
  have HB_w1_3 := Lib.hid (below_ext HB_w1_2.out hq)
  rw [hw]
  clear hw hq HA3
  have HB_w3_3 : Hid (Below w3.heap.size w3 w3) := Lib.hid (Below.refl _ _)
  obtain ⟨b3, hb3⟩ : ∃ x, w2.heap.size = x := ⟨_, rfl⟩
  rw [hb3] at HX3 ⊢
  have HQ3 := Lib.hid hb3
  clear hb3
  have kHB := Lib.hid (show ∀ u : World, Hid (Below w3.heap.size w3 u) → Hid (Blk .u8 42 u b3 h) from fun u h => Lib.hid (HX3.out.below h.out))
  obtain ⟨q1, q2⟩ : Hid (o.al.length = o.na) ∧ Hid (o.zs.length = o.nz) := ⟨Lib.hid HOK.out.1, Lib.hid HOK.out.2.1⟩
  have bna : o.na ≤ 20 := by rw [← q1.out]; exact hS.a
  have bnz : o.nz ≤ 20 := by rw [← q2.out]; exact hS.z
  have kA := Lib.hid (show ∀ u : World, Hid (Below w0.heap.size w0 u) → Hid (Sl u o.A o.al) from fun u h => Lib.hid (HOK.out.2.2.2.1.below h.out))
  have kZ := Lib.hid (show ∀ u : World, Hid (Below w0.heap.size w0 u) → Hid (Sl u o.Z o.zs) from fun u h => Lib.hid (HOK.out.2.2.2.2.1.below h.out))
  have hcv := fun w => run_bytes_of_string (P := Tryd.prog) w 9 63 5 o.rs Tryd.underlying9 Tryd.underlying63 Tryd.underlying5
  obtain ⟨zc0, zc1⟩ := kC.out _ HB_3
  obtain ⟨kE_0, kE_1, kE_2, kE_3, kE_4, kE_5, kE_6, kE_7, kE_8⟩ := kE.out _ HB_w1_3
  try simp only [Act.put]
  clear zc0 zc1 kE_0 kE_1 kE_2 kE_3 kE_4 kE_5 kE_6 kE_7 kE_8
  have hBx := Lib.hid (show ∀ u u2 : World, Hid (Below w0.heap.size w0 u ∧ Below w1.heap.size w1 u ∧ Below w3.heap.size w3 u) → Below u.heap.size u u2 → Hid (Below w0.heap.size w0 u2 ∧ Below w1.heap.size w1 u2 ∧ Below w3.heap.size w3 u2) from fun u u2 h1 h2 => Lib.hid ⟨(below_ext h1.out.1 h2), (below_ext h1.out.2.1 h2), (below_ext h1.out.2.2 h2)⟩)
  have hS := Lib.hid (show ∀ u : World, Hid (Below w0.heap.size w0 u ∧ Below w1.heap.size w1 u ∧ Below w3.heap.size w3 u) → (u.cell? ⟨w.heap.size, 0, none⟩ = some (.slice (some ⟨bO, fO, none⟩) n c) ∧ u.cell? ⟨w.heap.size, 1, none⟩ = some (.slice K m d) ∧ u.cell? ⟨w0.heap.size, 0, none⟩ = some (.int .i64 o.num) ∧ u.cell? ⟨w0.heap.size, 1, none⟩ = some (.string o.rs) ∧ u.cell? ⟨w0.heap.size, 2, none⟩ = some (.int .i64 o.E1) ∧ u.cell? ⟨w0.heap.size, 3, none⟩ = some (.int .i64 o.E2) ∧ u.cell? ⟨w0.heap.size, 4, none⟩ = some (.slice o.A o.na o.ca) ∧ u.cell? ⟨w0.heap.size, 5, none⟩ = some (.int .i64 o.C) ∧ u.cell? ⟨w0.heap.size, 6, none⟩ = some (.slice o.Z o.nz o.cz) ∧ u.cell? ⟨w0.heap.size, 7, none⟩ = some (.slice o.L o.np o.cp) ∧ u.cell? ⟨w0.heap.size, 8, none⟩ = some (.int .i64 o.key)) from fun u h1 => by
    obtain ⟨y0, y1⟩ := kC.out _ (Lib.hid h1.out.1)
    obtain ⟨kE_0, kE_1, kE_2, kE_3, kE_4, kE_5, kE_6, kE_7, kE_8⟩ := kE.out _ (Lib.hid h1.out.2.1)
    exact ⟨y0, y1, kE_0, kE_1, kE_2, kE_3, kE_4, kE_5, kE_6, kE_7, kE_8⟩)
  have HBA : Hid (Below w0.heap.size w0 w3 ∧ Below w1.heap.size w1 w3 ∧ Below w3.heap.size w3 w3) := Lib.hid ⟨HB_3.out, HB_w1_3.out, HB_w3_3.out⟩
  have HBD := hBx.out _ _ HBA (Below.refl _ _).drew
  refine wp_region_T (S := fun w' => w'.cell? ⟨w.heap.size, 0, none⟩ = some (.slice (some ⟨bO, fO, none⟩) n c) ∧ w'.cell? ⟨w.heap.size, 1, none⟩ = some (.slice K m d) ∧ w'.cell? ⟨w0.heap.size, 0, none⟩ = some (.int .i64 o.num) ∧ w'.cell? ⟨w0.heap.size, 1, none⟩ = some (.string o.rs) ∧ w'.cell? ⟨w0.heap.size, 2, none⟩ = some (.int .i64 o.E1) ∧ w'.cell? ⟨w0.heap.size, 3, none⟩ = some (.int .i64 o.E2) ∧ w'.cell? ⟨w0.heap.size, 4, none⟩ = some (.slice o.A o.na o.ca) ∧ w'.cell? ⟨w0.heap.size, 5, none⟩ = some (.int .i64 o.C) ∧ w'.cell? ⟨w0.heap.size, 6, none⟩ = some (.slice o.Z o.nz o.cz) ∧ w'.cell? ⟨w0.heap.size, 7, none⟩ = some (.slice o.L o.np o.cp) ∧ w'.cell? ⟨w0.heap.size, 8, none⟩ = some (.int .i64 o.key)) (E := [16]) (by kernel_rfl) (hS.out _ HBD) (fun hHeld => ?_)
  obtain ⟨wD, hwD⟩ : ∃ u, w3.drew = u := ⟨_, rfl⟩
  rw [hwD] at HBD hHeld ⊢
  have HSZD : Hid (w3.heap.size ≤ wD.heap.size) := Lib.hid (by rw [← hwD]; exact Nat.le_refl _)
  clear hwD
  refine tkV 0 ?_
  try simp only [qq1, qq2, qq3, Act.put, qq4, qq5, qq6]
  refine tkV 2 ?_
  try simp only [qq1, qq2, qq3, Act.put, qq4, qq5, qq6]
  refine tkV 3 ?_
  try simp only [qq1, qq2, qq3, Act.put, qq4, qq5, qq6]
  refine tkV 5 ?_
  try simp only [qq1, qq2, qq3, Act.put, qq4, qq5, qq6]
  refine tkV 6 ?_
  try simp only [qq1, qq2, qq3, Act.put, qq4, qq5, qq6]
  refine tkV 9 ?_
  try simp only [qq1, qq2, qq3, Act.put, qq4, qq5, qq6]
  refine tkV 10 ?_
  try simp only [qq1, qq2, qq3, Act.put, qq4, qq5, qq6]
  refine wpT_frame (fun T a0 hT ha0 => ?_)
  clear hHeld
  have G1_4_7_8_11_12_13_14_15 : ∀ (gC : Nat) (cC : Nat) (cE : Ic) (gL : Nat) (gT : Nat) (u : World), (Hid (Below w0.heap.size w0 u ∧ Below w1.heap.size w1 u ∧ Below w3.heap.size w3 u)) → (Hid (Sk .u8 u (some ⟨gC, 0, none⟩) (bys o.rs))) → (Hid (w0.heap.size ≤ gC)) → (Hid (ItS w0.heap.size u (eIt o.E1 o.E2 o.al o.C o.zs) cE)) → (Hid (u.heap[gL]? = some (.cells #[.int .i64 2, .int .i64 0, .slice (some ⟨b3, 0, none⟩) 32 32, .slice none 0 0, .int .i64 1, .int .i64 o.num, .slice none 0 0, .slice none 0 0, .int .i64 2, .int .i64 0, .slice (some ⟨gC, 0, none⟩) o.rs.size cC, .slice none 0 0, .int .i64 cE.kind, .int .i64 cE.n, .slice cE.B cE.nb cE.cb, .slice cE.L cE.nl cE.cl] 67))) → (Hid (w0.heap.size ≤ gL)) → (Hid (Blk .u8 42 u gT (zer 32))) → (Hid (w0.heap.size ≤ gT)) → T 1 #[true, true, true, true, true, true, true, true, true, true, true, true, true, true, true, true, false] (((((((((a0.put (some 17) (.agg #[.int .i64 2, .int .i64 (0), .slice (some ⟨b3, 0, none⟩) 32 32, .slice none 0 0])).put (some 20) (.agg #[.int .i64 1, .int .i64 (o.num), .slice none 0 0, .slice none 0 0])).put (some 23) (.slice (some ⟨gC, 0, none⟩) o.rs.size cC)).put (some 24) (.agg #[.int .i64 2, .int .i64 (0), .slice (some ⟨gC, 0, none⟩) o.rs.size cC, .slice none 0 0])).put (some 27) (.agg #[.int .i64 cE.kind, .int .i64 cE.n, .slice cE.B cE.nb cE.cb, .slice cE.L cE.nl cE.cl])).put (some 28) (.slice (some ⟨gL, 0, none⟩) 4 4)).put (some 29) (.agg #[.int .i64 3, .int .i64 (0), .slice none 0 0, .slice (some ⟨gL, 0, none⟩) 4 4])).put (some 30) (.agg (arr .u8 RR))).put (some 7) (.pointer (some ⟨gT, 0, none⟩))) u := by
    intro gC cC cE gL gT u FB FC FCl HE FL FLl FT FTl
    have hHeld := hS.out _ FB
    rw [hT, ha0]
    try simp only [qq1, qq2, qq3, Act.put, qq4, qq5, qq6]
    have HE_w0 := Lib.hid FB.out.1
    have HE_w1 := Lib.hid FB.out.2.1
    have HE_w3 := Lib.hid FB.out.2.2
    refine wpT_pass (i := 16) (by kernel_rfl) (by simp) rfl (fun K hK => ?_)
    rw [show (if Region.wanted _ _ = true then _ else _ : Prop) = _ from if_pos rfl]
    refine wp_store_row 42 _ _ rfl gT (arr .u8 RR) rfl rfl 42 _ FT.out (hash_info HRL.out) (arrs_sz (l := zer 32) rfl HRL.out) (arr_one _) ?_
    refine hK.out _ _ ?_
    clear hK K
    try simp only [qq1, qq2, qq3, Act.put, qq4, qq5, qq6]
    refine wpT_done (by kernel_rfl) ?_ _
    clear hHeld hT ha0
    obtain ⟨wq, hwq⟩ : ∃ x, u.setRow gT (arr .u8 RR) = x := ⟨_, rfl⟩
    have HTq : Hid (Blk .u8 42 wq gT RR) := Lib.hid (by rw [← hwq]; exact FT.out.setRow)
    have HBq : Hid (Below w0.heap.size w0 wq) := Lib.hid (by rw [← hwq]; exact below_setRow' FB.out.1 FTl.out)
    rw [hwq]
    clear hwq
    go_wp2_with ((with_reducible show wpList _ _ _ (⟨some 31, _, _, _, _, _⟩ :: _) _ _); refine wpList_load_row rfl 42 _ rfl gT rfl _ _ _ _ HTq.out Tryd.underlying42 rfl (hash_info HRL.out) ?_)
    refine (hex_any RR HRL HRB _).mono ?_
    rintro e w9 ⟨rfl, hb9⟩
    have hbF := below_ext HBw.out (below_ext HBq.out hb9)
    go_wp2
    go_ret
    exact ⟨rfl, hbF⟩
  have G1_4_7_8_11_12_13_14 : ∀ (gC : Nat) (cC : Nat) (cE : Ic) (gL : Nat) (u : World), (Hid (Below w0.heap.size w0 u ∧ Below w1.heap.size w1 u ∧ Below w3.heap.size w3 u)) → (Hid (Sk .u8 u (some ⟨gC, 0, none⟩) (bys o.rs))) → (Hid (w0.heap.size ≤ gC)) → (Hid (ItS w0.heap.size u (eIt o.E1 o.E2 o.al o.C o.zs) cE)) → (Hid (u.heap[gL]? = some (.cells #[.int .i64 2, .int .i64 0, .slice (some ⟨b3, 0, none⟩) 32 32, .slice none 0 0, .int .i64 1, .int .i64 o.num, .slice none 0 0, .slice none 0 0, .int .i64 2, .int .i64 0, .slice (some ⟨gC, 0, none⟩) o.rs.size cC, .slice none 0 0, .int .i64 cE.kind, .int .i64 cE.n, .slice cE.B cE.nb cE.cb, .slice cE.L cE.nl cE.cl] 67))) → (Hid (w0.heap.size ≤ gL)) → T 2 #[true, true, true, true, true, true, true, true, true, true, true, true, true, true, true, false, false] ((((((((a0.put (some 17) (.agg #[.int .i64 2, .int .i64 (0), .slice (some ⟨b3, 0, none⟩) 32 32, .slice none 0 0])).put (some 20) (.agg #[.int .i64 1, .int .i64 (o.num), .slice none 0 0, .slice none 0 0])).put (some 23) (.slice (some ⟨gC, 0, none⟩) o.rs.size cC)).put (some 24) (.agg #[.int .i64 2, .int .i64 (0), .slice (some ⟨gC, 0, none⟩) o.rs.size cC, .slice none 0 0])).put (some 27) (.agg #[.int .i64 cE.kind, .int .i64 cE.n, .slice cE.B cE.nb cE.cb, .slice cE.L cE.nl cE.cl])).put (some 28) (.slice (some ⟨gL, 0, none⟩) 4 4)).put (some 29) (.agg #[.int .i64 3, .int .i64 (0), .slice none 0 0, .slice (some ⟨gL, 0, none⟩) 4 4])).put (some 30) (.agg (arr .u8 RR))) u := by
    intro gC cC cE gL u FB FC FCl HE FL FLl
    have hHeld := hS.out _ FB
    rw [hT, ha0]
    try simp only [qq1, qq2, qq3, Act.put, qq4, qq5, qq6]
    refine wpT_one (i := 15) (by kernel_rfl) rfl (fun K hK => ?_)
    go_simp
    have FB2 := hBx.out _ _ FB (below_box0 u (.cells #[.int .u8 0, .int .u8 0, .int .u8 0, .int .u8 0, .int .u8 0, .int .u8 0, .int .u8 0, .int .u8 0, .int .u8 0, .int .u8 0, .int .u8 0, .int .u8 0, .int .u8 0, .int .u8 0, .int .u8 0, .int .u8 0, .int .u8 0, .int .u8 0, .int .u8 0, .int .u8 0, .int .u8 0, .int .u8 0, .int .u8 0, .int .u8 0, .int .u8 0, .int .u8 0, .int .u8 0, .int .u8 0, .int .u8 0, .int .u8 0, .int .u8 0, .int .u8 0] 42))
    refine hK.out _ _ ?_ (fun hHeld => ?_)
    · exact hS.out _ FB2
    clear hK K hHeld
    try simp only [qq1, qq2, qq3, Act.put, qq4, qq5, qq6]
    have hG := G1_4_7_8_11_12_13_14_15 gC cC cE gL u.heap.size (u.alloc (.cells #[.int .u8 0, .int .u8 0, .int .u8 0, .int .u8 0, .int .u8 0, .int .u8 0, .int .u8 0, .int .u8 0, .int .u8 0, .int .u8 0, .int .u8 0, .int .u8 0, .int .u8 0, .int .u8 0, .int .u8 0, .int .u8 0, .int .u8 0, .int .u8 0, .int .u8 0, .int .u8 0, .int .u8 0, .int .u8 0, .int .u8 0, .int .u8 0, .int .u8 0, .int .u8 0, .int .u8 0, .int .u8 0, .int .u8 0, .int .u8 0, .int .u8 0, .int .u8 0] 42)) FB2 (Lib.hid (FC.out.below (below_box0 u (.cells #[.int .u8 0, .int .u8 0, .int .u8 0, .int .u8 0, .int .u8 0, .int .u8 0, .int .u8 0, .int .u8 0, .int .u8 0, .int .u8 0, .int .u8 0, .int .u8 0, .int .u8 0, .int .u8 0, .int .u8 0, .int .u8 0, .int .u8 0, .int .u8 0, .int .u8 0, .int .u8 0, .int .u8 0, .int .u8 0, .int .u8 0, .int .u8 0, .int .u8 0, .int .u8 0, .int .u8 0, .int .u8 0, .int .u8 0, .int .u8 0, .int .u8 0, .int .u8 0] 42)))) (FCl) (Lib.hid (HE.out.kept (below_box0 u (.cells #[.int .u8 0, .int .u8 0, .int .u8 0, .int .u8 0, .int .u8 0, .int .u8 0, .int .u8 0, .int .u8 0, .int .u8 0, .int .u8 0, .int .u8 0, .int .u8 0, .int .u8 0, .int .u8 0, .int .u8 0, .int .u8 0, .int .u8 0, .int .u8 0, .int .u8 0, .int .u8 0, .int .u8 0, .int .u8 0, .int .u8 0, .int .u8 0, .int .u8 0, .int .u8 0, .int .u8 0, .int .u8 0, .int .u8 0, .int .u8 0, .int .u8 0, .int .u8 0] 42)))) (Lib.hid (blk_below FL.out (below_box0 u (.cells #[.int .u8 0, .int .u8 0, .int .u8 0, .int .u8 0, .int .u8 0, .int .u8 0, .int .u8 0, .int .u8 0, .int .u8 0, .int .u8 0, .int .u8 0, .int .u8 0, .int .u8 0, .int .u8 0, .int .u8 0, .int .u8 0, .int .u8 0, .int .u8 0, .int .u8 0, .int .u8 0, .int .u8 0, .int .u8 0, .int .u8 0, .int .u8 0, .int .u8 0, .int .u8 0, .int .u8 0, .int .u8 0, .int .u8 0, .int .u8 0, .int .u8 0, .int .u8 0] 42)))) (FLl) (Lib.hid (by rw [zarrh]; exact Blk.new _ _)) (Lib.hid FB.out.1.size)
    rw [hT, ha0] at hG
    (try simp only [qq1, qq2, qq3, Act.put, qq4, qq5, qq6] at hG)
    exact hG
  have G1_4_7_8_11_12_13_15 : ∀ (gC : Nat) (cC : Nat) (cE : Ic) (gL : Nat) (gT : Nat) (u : World), (Hid (Below w0.heap.size w0 u ∧ Below w1.heap.size w1 u ∧ Below w3.heap.size w3 u)) → (Hid (Sk .u8 u (some ⟨gC, 0, none⟩) (bys o.rs))) → (Hid (w0.heap.size ≤ gC)) → (Hid (ItS w0.heap.size u (eIt o.E1 o.E2 o.al o.C o.zs) cE)) → (Hid (u.heap[gL]? = some (.cells #[.int .i64 2, .int .i64 0, .slice (some ⟨b3, 0, none⟩) 32 32, .slice none 0 0, .int .i64 1, .int .i64 o.num, .slice none 0 0, .slice none 0 0, .int .i64 2, .int .i64 0, .slice (some ⟨gC, 0, none⟩) o.rs.size cC, .slice none 0 0, .int .i64 cE.kind, .int .i64 cE.n, .slice cE.B cE.nb cE.cb, .slice cE.L cE.nl cE.cl] 67))) → (Hid (w0.heap.size ≤ gL)) → (Hid (Blk .u8 42 u gT (zer 32))) → (Hid (w0.heap.size ≤ gT)) → T 2 #[true, true, true, true, true, true, true, true, true, true, true, true, true, true, false, true, false] ((((((((a0.put (some 17) (.agg #[.int .i64 2, .int .i64 (0), .slice (some ⟨b3, 0, none⟩) 32 32, .slice none 0 0])).put (some 20) (.agg #[.int .i64 1, .int .i64 (o.num), .slice none 0 0, .slice none 0 0])).put (some 23) (.slice (some ⟨gC, 0, none⟩) o.rs.size cC)).put (some 24) (.agg #[.int .i64 2, .int .i64 (0), .slice (some ⟨gC, 0, none⟩) o.rs.size cC, .slice none 0 0])).put (some 27) (.agg #[.int .i64 cE.kind, .int .i64 cE.n, .slice cE.B cE.nb cE.cb, .slice cE.L cE.nl cE.cl])).put (some 28) (.slice (some ⟨gL, 0, none⟩) 4 4)).put (some 29) (.agg #[.int .i64 3, .int .i64 (0), .slice none 0 0, .slice (some ⟨gL, 0, none⟩) 4 4])).put (some 7) (.pointer (some ⟨gT, 0, none⟩))) u := by
    intro gC cC cE gL gT u FB FC FCl HE FL FLl FT FTl
    have hHeld := hS.out _ FB
    rw [hT, ha0]
    try simp only [qq1, qq2, qq3, Act.put, qq4, qq5, qq6]
    refine wpT_one (i := 14) (by kernel_rfl) rfl (fun K hK => ?_)
    go_simp
    have hit : ItR u (lbIt h o) (Ic.mk 3 0 none 0 0 (some ⟨gL, 0, none⟩) 4 4) := itr_blk (fun k => match k with | 0 => icByt (some ⟨b3, 0, none⟩) 32 32 | 1 => icInt o.num | 2 => icByt (some ⟨gC, 0, none⟩) o.rs.size cC | _ => cE) FL.out rfl (fun k hk => by
        rcases (show k = 0 ∨ k = 1 ∨ k = 2 ∨ k = 3 by omega) with rfl | rfl | rfl | rfl <;> exact ⟨rfl, rfl, rfl, rfl⟩) (fun k hk => by
        rcases (show k = 0 ∨ k = 1 ∨ k = 2 ∨ k = 3 by omega) with rfl | rfl | rfl | rfl
        · exact itr_byt (kHB.out _ (Lib.hid FB.out.2.2)).out.sk hl.out
        · exact .int _ _ rfl rfl rfl rfl
        · exact itr_byt FC.out (bys_len o.rs)
        · exact HE.out.it)
    refine (tagI_any tagLb (by decide) (by decide) (lbIt h o) (Ic.mk 3 0 none 0 0 (some ⟨gL, 0, none⟩) 4 4) HFIT HLEN _ (kD.out _ (Lib.hid FB.out.1)) (Lib.hid hit)).mono ?_
    rintro e wB ⟨rfl, hq⟩
    clear hit
    rw [HRR.1]
    have FB2 := hBx.out _ _ FB hq
    refine hK.out _ _ ?_ (fun hHeld => ?_)
    · exact hS.out _ FB2
    clear hK K hHeld
    try simp only [qq1, qq2, qq3, Act.put, qq4, qq5, qq6]
    have hG := G1_4_7_8_11_12_13_14_15 gC cC cE gL gT wB FB2 (Lib.hid (FC.out.below hq)) (FCl) (Lib.hid (HE.out.kept hq)) (Lib.hid (blk_below FL.out hq)) (FLl) (Lib.hid (FT.out.below hq)) (FTl)
    rw [hT, ha0] at hG
    (try simp only [qq1, qq2, qq3, Act.put, qq4, qq5, qq6] at hG)
    exact hG
  have G1_4_7_8_11_12_13 : ∀ (gC : Nat) (cC : Nat) (cE : Ic) (gL : Nat) (u : World), (Hid (Below w0.heap.size w0 u ∧ Below w1.heap.size w1 u ∧ Below w3.heap.size w3 u)) → (Hid (Sk .u8 u (some ⟨gC, 0, none⟩) (bys o.rs))) → (Hid (w0.heap.size ≤ gC)) → (Hid (ItS w0.heap.size u (eIt o.E1 o.E2 o.al o.C o.zs) cE)) → (Hid (u.heap[gL]? = some (.cells #[.int .i64 2, .int .i64 0, .slice (some ⟨b3, 0, none⟩) 32 32, .slice none 0 0, .int .i64 1, .int .i64 o.num, .slice none 0 0, .slice none 0 0, .int .i64 2, .int .i64 0, .slice (some ⟨gC, 0, none⟩) o.rs.size cC, .slice none 0 0, .int .i64 cE.kind, .int .i64 cE.n, .slice cE.B cE.nb cE.cb, .slice cE.L cE.nl cE.cl] 67))) → (Hid (w0.heap.size ≤ gL)) → T 3 #[true, true, true, true, true, true, true, true, true, true, true, true, true, true, false, false, false] (((((((a0.put (some 17) (.agg #[.int .i64 2, .int .i64 (0), .slice (some ⟨b3, 0, none⟩) 32 32, .slice none 0 0])).put (some 20) (.agg #[.int .i64 1, .int .i64 (o.num), .slice none 0 0, .slice none 0 0])).put (some 23) (.slice (some ⟨gC, 0, none⟩) o.rs.size cC)).put (some 24) (.agg #[.int .i64 2, .int .i64 (0), .slice (some ⟨gC, 0, none⟩) o.rs.size cC, .slice none 0 0])).put (some 27) (.agg #[.int .i64 cE.kind, .int .i64 cE.n, .slice cE.B cE.nb cE.cb, .slice cE.L cE.nl cE.cl])).put (some 28) (.slice (some ⟨gL, 0, none⟩) 4 4)).put (some 29) (.agg #[.int .i64 3, .int .i64 (0), .slice none 0 0, .slice (some ⟨gL, 0, none⟩) 4 4])) u := by
    intro gC cC cE gL u FB FC FCl HE FL FLl
    have hHeld := hS.out _ FB
    rw [hT, ha0]
    try simp only [qq1, qq2, qq3, Act.put, qq4, qq5, qq6]
    refine wpT_two (i1 := 14) (i2 := 15) (by kernel_rfl) rfl rfl (fun K hK => ?_) (fun K hK => ?_)
    · skip
      go_simp
      have hit : ItR u (lbIt h o) (Ic.mk 3 0 none 0 0 (some ⟨gL, 0, none⟩) 4 4) := itr_blk (fun k => match k with | 0 => icByt (some ⟨b3, 0, none⟩) 32 32 | 1 => icInt o.num | 2 => icByt (some ⟨gC, 0, none⟩) o.rs.size cC | _ => cE) FL.out rfl (fun k hk => by
          rcases (show k = 0 ∨ k = 1 ∨ k = 2 ∨ k = 3 by omega) with rfl | rfl | rfl | rfl <;> exact ⟨rfl, rfl, rfl, rfl⟩) (fun k hk => by
          rcases (show k = 0 ∨ k = 1 ∨ k = 2 ∨ k = 3 by omega) with rfl | rfl | rfl | rfl
          · exact itr_byt (kHB.out _ (Lib.hid FB.out.2.2)).out.sk hl.out
          · exact .int _ _ rfl rfl rfl rfl
          · exact itr_byt FC.out (bys_len o.rs)
          · exact HE.out.it)
      refine (tagI_any tagLb (by decide) (by decide) (lbIt h o) (Ic.mk 3 0 none 0 0 (some ⟨gL, 0, none⟩) 4 4) HFIT HLEN _ (kD.out _ (Lib.hid FB.out.1)) (Lib.hid hit)).mono ?_
      rintro e wB ⟨rfl, hq⟩
      clear hit
      rw [HRR.1]
      have FB2 := hBx.out _ _ FB hq
      refine hK.out _ _ ?_ (fun hHeld => ?_)
      · exact hS.out _ FB2
      clear hK K hHeld
      try simp only [qq1, qq2, qq3, Act.put, qq4, qq5, qq6]
      have hG := G1_4_7_8_11_12_13_14 gC cC cE gL wB FB2 (Lib.hid (FC.out.below hq)) (FCl) (Lib.hid (HE.out.kept hq)) (Lib.hid (blk_below FL.out hq)) (FLl)
      rw [hT, ha0] at hG
      (try simp only [qq1, qq2, qq3, Act.put, qq4, qq5, qq6] at hG)
      exact hG
    · skip
      go_simp
      have FB2 := hBx.out _ _ FB (below_box0 u (.cells #[.int .u8 0, .int .u8 0, .int .u8 0, .int .u8 0, .int .u8 0, .int .u8 0, .int .u8 0, .int .u8 0, .int .u8 0, .int .u8 0, .int .u8 0, .int .u8 0, .int .u8 0, .int .u8 0, .int .u8 0, .int .u8 0, .int .u8 0, .int .u8 0, .int .u8 0, .int .u8 0, .int .u8 0, .int .u8 0, .int .u8 0, .int .u8 0, .int .u8 0, .int .u8 0, .int .u8 0, .int .u8 0, .int .u8 0, .int .u8 0, .int .u8 0, .int .u8 0] 42))
      refine hK.out _ _ ?_ (fun hHeld => ?_)
      · exact hS.out _ FB2
      clear hK K hHeld
      try simp only [qq1, qq2, qq3, Act.put, qq4, qq5, qq6]
      have hG := G1_4_7_8_11_12_13_15 gC cC cE gL u.heap.size (u.alloc (.cells #[.int .u8 0, .int .u8 0, .int .u8 0, .int .u8 0, .int .u8 0, .int .u8 0, .int .u8 0, .int .u8 0, .int .u8 0, .int .u8 0, .int .u8 0, .int .u8 0, .int .u8 0, .int .u8 0, .int .u8 0, .int .u8 0, .int .u8 0, .int .u8 0, .int .u8 0, .int .u8 0, .int .u8 0, .int .u8 0, .int .u8 0, .int .u8 0, .int .u8 0, .int .u8 0, .int .u8 0, .int .u8 0, .int .u8 0, .int .u8 0, .int .u8 0, .int .u8 0] 42)) FB2 (Lib.hid (FC.out.below (below_box0 u (.cells #[.int .u8 0, .int .u8 0, .int .u8 0, .int .u8 0, .int .u8 0, .int .u8 0, .int .u8 0, .int .u8 0, .int .u8 0, .int .u8 0, .int .u8 0, .int .u8 0, .int .u8 0, .int .u8 0, .int .u8 0, .int .u8 0, .int .u8 0, .int .u8 0, .int .u8 0, .int .u8 0, .int .u8 0, .int .u8 0, .int .u8 0, .int .u8 0, .int .u8 0, .int .u8 0, .int .u8 0, .int .u8 0, .int .u8 0, .int .u8 0, .int .u8 0, .int .u8 0] 42)))) (FCl) (Lib.hid (HE.out.kept (below_box0 u (.cells #[.int .u8 0, .int .u8 0, .int .u8 0, .int .u8 0, .int .u8 0, .int .u8 0, .int .u8 0, .int .u8 0, .int .u8 0, .int .u8 0, .int .u8 0, .int .u8 0, .int .u8 0, .int .u8 0, .int .u8 0, .int .u8 0, .int .u8 0, .int .u8 0, .int .u8 0, .int .u8 0, .int .u8 0, .int .u8 0, .int .u8 0, .int .u8 0, .int .u8 0, .int .u8 0, .int .u8 0, .int .u8 0, .int .u8 0, .int .u8 0, .int .u8 0, .int .u8 0] 42)))) (Lib.hid (blk_below FL.out (below_box0 u (.cells #[.int .u8 0, .int .u8 0, .int .u8 0, .int .u8 0, .int .u8 0, .int .u8 0, .int .u8 0, .int .u8 0, .int .u8 0, .int .u8 0, .int .u8 0, .int .u8 0, .int .u8 0, .int .u8 0, .int .u8 0, .int .u8 0, .int .u8 0, .int .u8 0, .int .u8 0, .int .u8 0, .int .u8 0, .int .u8 0, .int .u8 0, .int .u8 0, .int .u8 0, .int .u8 0, .int .u8 0, .int .u8 0, .int .u8 0, .int .u8 0, .int .u8 0, .int .u8 0] 42)))) (FLl) (Lib.hid (by rw [zarrh]; exact Blk.new _ _)) (Lib.hid FB.out.1.size)
      rw [hT, ha0] at hG
      (try simp only [qq1, qq2, qq3, Act.put, qq4, qq5, qq6] at hG)
      exact hG
  have G1_4_7_8_11_12_15 : ∀ (gC : Nat) (cC : Nat) (cE : Ic) (gL : Nat) (gT : Nat) (u : World), (Hid (Below w0.heap.size w0 u ∧ Below w1.heap.size w1 u ∧ Below w3.heap.size w3 u)) → (Hid (Sk .u8 u (some ⟨gC, 0, none⟩) (bys o.rs))) → (Hid (w0.heap.size ≤ gC)) → (Hid (ItS w0.heap.size u (eIt o.E1 o.E2 o.al o.C o.zs) cE)) → (Hid (u.heap[gL]? = some (.cells #[.int .i64 2, .int .i64 0, .slice (some ⟨b3, 0, none⟩) 32 32, .slice none 0 0, .int .i64 1, .int .i64 o.num, .slice none 0 0, .slice none 0 0, .int .i64 2, .int .i64 0, .slice (some ⟨gC, 0, none⟩) o.rs.size cC, .slice none 0 0, .int .i64 cE.kind, .int .i64 cE.n, .slice cE.B cE.nb cE.cb, .slice cE.L cE.nl cE.cl] 67))) → (Hid (w0.heap.size ≤ gL)) → (Hid (Blk .u8 42 u gT (zer 32))) → (Hid (w0.heap.size ≤ gT)) → T 3 #[true, true, true, true, true, true, true, true, true, true, true, true, true, false, false, true, false] (((((((a0.put (some 17) (.agg #[.int .i64 2, .int .i64 (0), .slice (some ⟨b3, 0, none⟩) 32 32, .slice none 0 0])).put (some 20) (.agg #[.int .i64 1, .int .i64 (o.num), .slice none 0 0, .slice none 0 0])).put (some 23) (.slice (some ⟨gC, 0, none⟩) o.rs.size cC)).put (some 24) (.agg #[.int .i64 2, .int .i64 (0), .slice (some ⟨gC, 0, none⟩) o.rs.size cC, .slice none 0 0])).put (some 27) (.agg #[.int .i64 cE.kind, .int .i64 cE.n, .slice cE.B cE.nb cE.cb, .slice cE.L cE.nl cE.cl])).put (some 28) (.slice (some ⟨gL, 0, none⟩) 4 4)).put (some 7) (.pointer (some ⟨gT, 0, none⟩))) u := by
    intro gC cC cE gL gT u FB FC FCl HE FL FLl FT FTl
    have hHeld := hS.out _ FB
    rw [hT, ha0]
    try simp only [qq1, qq2, qq3, Act.put, qq4, qq5, qq6]
    refine wpT_one (i := 13) (by kernel_rfl) rfl (fun K hK => ?_)
    go_simp
    refine (list_it (some ⟨gL, 0, none⟩) 4 4 _).mono ?_
    rintro e wB ⟨rfl, hq⟩
    have FB2 := hBx.out _ _ FB hq
    refine hK.out _ _ ?_ (fun hHeld => ?_)
    · exact hS.out _ FB2
    clear hK K hHeld
    try simp only [qq1, qq2, qq3, Act.put, qq4, qq5, qq6]
    have hG := G1_4_7_8_11_12_13_15 gC cC cE gL gT wB FB2 (Lib.hid (FC.out.below hq)) (FCl) (Lib.hid (HE.out.kept hq)) (Lib.hid (blk_below FL.out hq)) (FLl) (Lib.hid (FT.out.below hq)) (FTl)
    rw [hT, ha0] at hG
    (try simp only [qq1, qq2, qq3, Act.put, qq4, qq5, qq6] at hG)
    exact hG
  have G1_4_7_8_11_12 : ∀ (gC : Nat) (cC : Nat) (cE : Ic) (gL : Nat) (u : World), (Hid (Below w0.heap.size w0 u ∧ Below w1.heap.size w1 u ∧ Below w3.heap.size w3 u)) → (Hid (Sk .u8 u (some ⟨gC, 0, none⟩) (bys o.rs))) → (Hid (w0.heap.size ≤ gC)) → (Hid (ItS w0.heap.size u (eIt o.E1 o.E2 o.al o.C o.zs) cE)) → (Hid (u.heap[gL]? = some (.cells #[.int .i64 2, .int .i64 0, .slice (some ⟨b3, 0, none⟩) 32 32, .slice none 0 0, .int .i64 1, .int .i64 o.num, .slice none 0 0, .slice none 0 0, .int .i64 2, .int .i64 0, .slice (some ⟨gC, 0, none⟩) o.rs.size cC, .slice none 0 0, .int .i64 cE.kind, .int .i64 cE.n, .slice cE.B cE.nb cE.cb, .slice cE.L cE.nl cE.cl] 67))) → (Hid (w0.heap.size ≤ gL)) → T 4 #[true, true, true, true, true, true, true, true, true, true, true, true, true, false, false, false, false] ((((((a0.put (some 17) (.agg #[.int .i64 2, .int .i64 (0), .slice (some ⟨b3, 0, none⟩) 32 32, .slice none 0 0])).put (some 20) (.agg #[.int .i64 1, .int .i64 (o.num), .slice none 0 0, .slice none 0 0])).put (some 23) (.slice (some ⟨gC, 0, none⟩) o.rs.size cC)).put (some 24) (.agg #[.int .i64 2, .int .i64 (0), .slice (some ⟨gC, 0, none⟩) o.rs.size cC, .slice none 0 0])).put (some 27) (.agg #[.int .i64 cE.kind, .int .i64 cE.n, .slice cE.B cE.nb cE.cb, .slice cE.L cE.nl cE.cl])).put (some 28) (.slice (some ⟨gL, 0, none⟩) 4 4)) u := by
    intro gC cC cE gL u FB FC FCl HE FL FLl
    have hHeld := hS.out _ FB
    rw [hT, ha0]
    try simp only [qq1, qq2, qq3, Act.put, qq4, qq5, qq6]
    refine wpT_two (i1 := 13) (i2 := 15) (by kernel_rfl) rfl rfl (fun K hK => ?_) (fun K hK => ?_)
    · skip
      go_simp
      refine (list_it (some ⟨gL, 0, none⟩) 4 4 _).mono ?_
      rintro e wB ⟨rfl, hq⟩
      have FB2 := hBx.out _ _ FB hq
      refine hK.out _ _ ?_ (fun hHeld => ?_)
      · exact hS.out _ FB2
      clear hK K hHeld
      try simp only [qq1, qq2, qq3, Act.put, qq4, qq5, qq6]
      have hG := G1_4_7_8_11_12_13 gC cC cE gL wB FB2 (Lib.hid (FC.out.below hq)) (FCl) (Lib.hid (HE.out.kept hq)) (Lib.hid (blk_below FL.out hq)) (FLl)
      rw [hT, ha0] at hG
      (try simp only [qq1, qq2, qq3, Act.put, qq4, qq5, qq6] at hG)
      exact hG
    · skip
      go_simp
      have FB2 := hBx.out _ _ FB (below_box0 u (.cells #[.int .u8 0, .int .u8 0, .int .u8 0, .int .u8 0, .int .u8 0, .int .u8 0, .int .u8 0, .int .u8 0, .int .u8 0, .int .u8 0, .int .u8 0, .int .u8 0, .int .u8 0, .int .u8 0, .int .u8 0, .int .u8 0, .int .u8 0, .int .u8 0, .int .u8 0, .int .u8 0, .int .u8 0, .int .u8 0, .int .u8 0, .int .u8 0, .int .u8 0, .int .u8 0, .int .u8 0, .int .u8 0, .int .u8 0, .int .u8 0, .int .u8 0, .int .u8 0] 42))
      refine hK.out _ _ ?_ (fun hHeld => ?_)
      · exact hS.out _ FB2
      clear hK K hHeld
      try simp only [qq1, qq2, qq3, Act.put, qq4, qq5, qq6]
      have hG := G1_4_7_8_11_12_15 gC cC cE gL u.heap.size (u.alloc (.cells #[.int .u8 0, .int .u8 0, .int .u8 0, .int .u8 0, .int .u8 0, .int .u8 0, .int .u8 0, .int .u8 0, .int .u8 0, .int .u8 0, .int .u8 0, .int .u8 0, .int .u8 0, .int .u8 0, .int .u8 0, .int .u8 0, .int .u8 0, .int .u8 0, .int .u8 0, .int .u8 0, .int .u8 0, .int .u8 0, .int .u8 0, .int .u8 0, .int .u8 0, .int .u8 0, .int .u8 0, .int .u8 0, .int .u8 0, .int .u8 0, .int .u8 0, .int .u8 0] 42)) FB2 (Lib.hid (FC.out.below (below_box0 u (.cells #[.int .u8 0, .int .u8 0, .int .u8 0, .int .u8 0, .int .u8 0, .int .u8 0, .int .u8 0, .int .u8 0, .int .u8 0, .int .u8 0, .int .u8 0, .int .u8 0, .int .u8 0, .int .u8 0, .int .u8 0, .int .u8 0, .int .u8 0, .int .u8 0, .int .u8 0, .int .u8 0, .int .u8 0, .int .u8 0, .int .u8 0, .int .u8 0, .int .u8 0, .int .u8 0, .int .u8 0, .int .u8 0, .int .u8 0, .int .u8 0, .int .u8 0, .int .u8 0] 42)))) (FCl) (Lib.hid (HE.out.kept (below_box0 u (.cells #[.int .u8 0, .int .u8 0, .int .u8 0, .int .u8 0, .int .u8 0, .int .u8 0, .int .u8 0, .int .u8 0, .int .u8 0, .int .u8 0, .int .u8 0, .int .u8 0, .int .u8 0, .int .u8 0, .int .u8 0, .int .u8 0, .int .u8 0, .int .u8 0, .int .u8 0, .int .u8 0, .int .u8 0, .int .u8 0, .int .u8 0, .int .u8 0, .int .u8 0, .int .u8 0, .int .u8 0, .int .u8 0, .int .u8 0, .int .u8 0, .int .u8 0, .int .u8 0] 42)))) (Lib.hid (blk_below FL.out (below_box0 u (.cells #[.int .u8 0, .int .u8 0, .int .u8 0, .int .u8 0, .int .u8 0, .int .u8 0, .int .u8 0, .int .u8 0, .int .u8 0, .int .u8 0, .int .u8 0, .int .u8 0, .int .u8 0, .int .u8 0, .int .u8 0, .int .u8 0, .int .u8 0, .int .u8 0, .int .u8 0, .int .u8 0, .int .u8 0, .int .u8 0, .int .u8 0, .int .u8 0, .int .u8 0, .int .u8 0, .int .u8 0, .int .u8 0, .int .u8 0, .int .u8 0, .int .u8 0, .int .u8 0] 42)))) (FLl) (Lib.hid (by rw [zarrh]; exact Blk.new _ _)) (Lib.hid FB.out.1.size)
      rw [hT, ha0] at hG
      (try simp only [qq1, qq2, qq3, Act.put, qq4, qq5, qq6] at hG)
      exact hG
  have G1_4_7_8_11_15 : ∀ (gC : Nat) (cC : Nat) (cE : Ic) (gT : Nat) (u : World), (Hid (Below w0.heap.size w0 u ∧ Below w1.heap.size w1 u ∧ Below w3.heap.size w3 u)) → (Hid (Sk .u8 u (some ⟨gC, 0, none⟩) (bys o.rs))) → (Hid (w0.heap.size ≤ gC)) → (Hid (ItS w0.heap.size u (eIt o.E1 o.E2 o.al o.C o.zs) cE)) → (Hid (Blk .u8 42 u gT (zer 32))) → (Hid (w0.heap.size ≤ gT)) → T 4 #[true, true, true, true, true, true, true, true, true, true, true, true, false, false, false, true, false] ((((((a0.put (some 17) (.agg #[.int .i64 2, .int .i64 (0), .slice (some ⟨b3, 0, none⟩) 32 32, .slice none 0 0])).put (some 20) (.agg #[.int .i64 1, .int .i64 (o.num), .slice none 0 0, .slice none 0 0])).put (some 23) (.slice (some ⟨gC, 0, none⟩) o.rs.size cC)).put (some 24) (.agg #[.int .i64 2, .int .i64 (0), .slice (some ⟨gC, 0, none⟩) o.rs.size cC, .slice none 0 0])).put (some 27) (.agg #[.int .i64 cE.kind, .int .i64 cE.n, .slice cE.B cE.nb cE.cb, .slice cE.L cE.nl cE.cl])).put (some 7) (.pointer (some ⟨gT, 0, none⟩))) u := by
    intro gC cC cE gT u FB FC FCl HE FT FTl
    have hHeld := hS.out _ FB
    rw [hT, ha0]
    try simp only [qq1, qq2, qq3, Act.put, qq4, qq5, qq6]
    refine wpT_one (i := 12) (by kernel_rfl) rfl (fun K hK => ?_)
    go_simp
    have FB2 := hBx.out _ _ FB (below_box0 u (.cells #[.int .i64 2, .int .i64 0, .slice (some ⟨b3, 0, none⟩) 32 32, .slice none 0 0, .int .i64 1, .int .i64 o.num, .slice none 0 0, .slice none 0 0, .int .i64 2, .int .i64 0, .slice (some ⟨gC, 0, none⟩) o.rs.size cC, .slice none 0 0, .int .i64 cE.kind, .int .i64 cE.n, .slice cE.B cE.nb cE.cb, .slice cE.L cE.nl cE.cl] 67))
    refine hK.out _ _ ?_ (fun hHeld => ?_)
    · exact hS.out _ FB2
    clear hK K hHeld
    try simp only [qq1, qq2, qq3, Act.put, qq4, qq5, qq6]
    have hG := G1_4_7_8_11_12_15 gC cC cE u.heap.size gT (u.alloc (.cells #[.int .i64 2, .int .i64 0, .slice (some ⟨b3, 0, none⟩) 32 32, .slice none 0 0, .int .i64 1, .int .i64 o.num, .slice none 0 0, .slice none 0 0, .int .i64 2, .int .i64 0, .slice (some ⟨gC, 0, none⟩) o.rs.size cC, .slice none 0 0, .int .i64 cE.kind, .int .i64 cE.n, .slice cE.B cE.nb cE.cb, .slice cE.L cE.nl cE.cl] 67)) FB2 (Lib.hid (FC.out.below (below_box0 u (.cells #[.int .i64 2, .int .i64 0, .slice (some ⟨b3, 0, none⟩) 32 32, .slice none 0 0, .int .i64 1, .int .i64 o.num, .slice none 0 0, .slice none 0 0, .int .i64 2, .int .i64 0, .slice (some ⟨gC, 0, none⟩) o.rs.size cC, .slice none 0 0, .int .i64 cE.kind, .int .i64 cE.n, .slice cE.B cE.nb cE.cb, .slice cE.L cE.nl cE.cl] 67)))) (FCl) (Lib.hid (HE.out.kept (below_box0 u (.cells #[.int .i64 2, .int .i64 0, .slice (some ⟨b3, 0, none⟩) 32 32, .slice none 0 0, .int .i64 1, .int .i64 o.num, .slice none 0 0, .slice none 0 0, .int .i64 2, .int .i64 0, .slice (some ⟨gC, 0, none⟩) o.rs.size cC, .slice none 0 0, .int .i64 cE.kind, .int .i64 cE.n, .slice cE.B cE.nb cE.cb, .slice cE.L cE.nl cE.cl] 67)))) (Lib.hid (heap_alloc_new u _)) (Lib.hid (by have := FB.out.1.size; omega)) (Lib.hid (FT.out.below (below_box0 u (.cells #[.int .i64 2, .int .i64 0, .slice (some ⟨b3, 0, none⟩) 32 32, .slice none 0 0, .int .i64 1, .int .i64 o.num, .slice none 0 0, .slice none 0 0, .int .i64 2, .int .i64 0, .slice (some ⟨gC, 0, none⟩) o.rs.size cC, .slice none 0 0, .int .i64 cE.kind, .int .i64 cE.n, .slice cE.B cE.nb cE.cb, .slice cE.L cE.nl cE.cl] 67)))) (FTl)
    rw [hT, ha0] at hG
    (try simp only [qq1, qq2, qq3, Act.put, qq4, qq5, qq6] at hG)
    exact hG
  have G1_4_7_8_11 : ∀ (gC : Nat) (cC : Nat) (cE : Ic) (u : World), (Hid (Below w0.heap.size w0 u ∧ Below w1.heap.size w1 u ∧ Below w3.heap.size w3 u)) → (Hid (Sk .u8 u (some ⟨gC, 0, none⟩) (bys o.rs))) → (Hid (w0.heap.size ≤ gC)) → (Hid (ItS w0.heap.size u (eIt o.E1 o.E2 o.al o.C o.zs) cE)) → T 5 #[true, true, true, true, true, true, true, true, true, true, true, true, false, false, false, false, false] (((((a0.put (some 17) (.agg #[.int .i64 2, .int .i64 (0), .slice (some ⟨b3, 0, none⟩) 32 32, .slice none 0 0])).put (some 20) (.agg #[.int .i64 1, .int .i64 (o.num), .slice none 0 0, .slice none 0 0])).put (some 23) (.slice (some ⟨gC, 0, none⟩) o.rs.size cC)).put (some 24) (.agg #[.int .i64 2, .int .i64 (0), .slice (some ⟨gC, 0, none⟩) o.rs.size cC, .slice none 0 0])).put (some 27) (.agg #[.int .i64 cE.kind, .int .i64 cE.n, .slice cE.B cE.nb cE.cb, .slice cE.L cE.nl cE.cl])) u := by
    intro gC cC cE u FB FC FCl HE
    have hHeld := hS.out _ FB
    rw [hT, ha0]
    try simp only [qq1, qq2, qq3, Act.put, qq4, qq5, qq6]
    refine wpT_two (i1 := 12) (i2 := 15) (by kernel_rfl) rfl rfl (fun K hK => ?_) (fun K hK => ?_)
    · skip
      go_simp
      have FB2 := hBx.out _ _ FB (below_box0 u (.cells #[.int .i64 2, .int .i64 0, .slice (some ⟨b3, 0, none⟩) 32 32, .slice none 0 0, .int .i64 1, .int .i64 o.num, .slice none 0 0, .slice none 0 0, .int .i64 2, .int .i64 0, .slice (some ⟨gC, 0, none⟩) o.rs.size cC, .slice none 0 0, .int .i64 cE.kind, .int .i64 cE.n, .slice cE.B cE.nb cE.cb, .slice cE.L cE.nl cE.cl] 67))
      refine hK.out _ _ ?_ (fun hHeld => ?_)
      · exact hS.out _ FB2
      clear hK K hHeld
      try simp only [qq1, qq2, qq3, Act.put, qq4, qq5, qq6]
      have hG := G1_4_7_8_11_12 gC cC cE u.heap.size (u.alloc (.cells #[.int .i64 2, .int .i64 0, .slice (some ⟨b3, 0, none⟩) 32 32, .slice none 0 0, .int .i64 1, .int .i64 o.num, .slice none 0 0, .slice none 0 0, .int .i64 2, .int .i64 0, .slice (some ⟨gC, 0, none⟩) o.rs.size cC, .slice none 0 0, .int .i64 cE.kind, .int .i64 cE.n, .slice cE.B cE.nb cE.cb, .slice cE.L cE.nl cE.cl] 67)) FB2 (Lib.hid (FC.out.below (below_box0 u (.cells #[.int .i64 2, .int .i64 0, .slice (some ⟨b3, 0, none⟩) 32 32, .slice none 0 0, .int .i64 1, .int .i64 o.num, .slice none 0 0, .slice none 0 0, .int .i64 2, .int .i64 0, .slice (some ⟨gC, 0, none⟩) o.rs.size cC, .slice none 0 0, .int .i64 cE.kind, .int .i64 cE.n, .slice cE.B cE.nb cE.cb, .slice cE.L cE.nl cE.cl] 67)))) (FCl) (Lib.hid (HE.out.kept (below_box0 u (.cells #[.int .i64 2, .int .i64 0, .slice (some ⟨b3, 0, none⟩) 32 32, .slice none 0 0, .int .i64 1, .int .i64 o.num, .slice none 0 0, .slice none 0 0, .int .i64 2, .int .i64 0, .slice (some ⟨gC, 0, none⟩) o.rs.size cC, .slice none 0 0, .int .i64 cE.kind, .int .i64 cE.n, .slice cE.B cE.nb cE.cb, .slice cE.L cE.nl cE.cl] 67)))) (Lib.hid (heap_alloc_new u _)) (Lib.hid (by have := FB.out.1.size; omega))
      rw [hT, ha0] at hG
      (try simp only [qq1, qq2, qq3, Act.put, qq4, qq5, qq6] at hG)
      exact hG
    · skip
      go_simp
      have FB2 := hBx.out _ _ FB (below_box0 u (.cells #[.int .u8 0, .int .u8 0, .int .u8 0, .int .u8 0, .int .u8 0, .int .u8 0, .int .u8 0, .int .u8 0, .int .u8 0, .int .u8 0, .int .u8 0, .int .u8 0, .int .u8 0, .int .u8 0, .int .u8 0, .int .u8 0, .int .u8 0, .int .u8 0, .int .u8 0, .int .u8 0, .int .u8 0, .int .u8 0, .int .u8 0, .int .u8 0, .int .u8 0, .int .u8 0, .int .u8 0, .int .u8 0, .int .u8 0, .int .u8 0, .int .u8 0, .int .u8 0] 42))
      refine hK.out _ _ ?_ (fun hHeld => ?_)
      · exact hS.out _ FB2
      clear hK K hHeld
      try simp only [qq1, qq2, qq3, Act.put, qq4, qq5, qq6]
      have hG := G1_4_7_8_11_15 gC cC cE u.heap.size (u.alloc (.cells #[.int .u8 0, .int .u8 0, .int .u8 0, .int .u8 0, .int .u8 0, .int .u8 0, .int .u8 0, .int .u8 0, .int .u8 0, .int .u8 0, .int .u8 0, .int .u8 0, .int .u8 0, .int .u8 0, .int .u8 0, .int .u8 0, .int .u8 0, .int .u8 0, .int .u8 0, .int .u8 0, .int .u8 0, .int .u8 0, .int .u8 0, .int .u8 0, .int .u8 0, .int .u8 0, .int .u8 0, .int .u8 0, .int .u8 0, .int .u8 0, .int .u8 0, .int .u8 0] 42)) FB2 (Lib.hid (FC.out.below (below_box0 u (.cells #[.int .u8 0, .int .u8 0, .int .u8 0, .int .u8 0, .int .u8 0, .int .u8 0, .int .u8 0, .int .u8 0, .int .u8 0, .int .u8 0, .int .u8 0, .int .u8 0, .int .u8 0, .int .u8 0, .int .u8 0, .int .u8 0, .int .u8 0, .int .u8 0, .int .u8 0, .int .u8 0, .int .u8 0, .int .u8 0, .int .u8 0, .int .u8 0, .int .u8 0, .int .u8 0, .int .u8 0, .int .u8 0, .int .u8 0, .int .u8 0, .int .u8 0, .int .u8 0] 42)))) (FCl) (Lib.hid (HE.out.kept (below_box0 u (.cells #[.int .u8 0, .int .u8 0, .int .u8 0, .int .u8 0, .int .u8 0, .int .u8 0, .int .u8 0, .int .u8 0, .int .u8 0, .int .u8 0, .int .u8 0, .int .u8 0, .int .u8 0, .int .u8 0, .int .u8 0, .int .u8 0, .int .u8 0, .int .u8 0, .int .u8 0, .int .u8 0, .int .u8 0, .int .u8 0, .int .u8 0, .int .u8 0, .int .u8 0, .int .u8 0, .int .u8 0, .int .u8 0, .int .u8 0, .int .u8 0, .int .u8 0, .int .u8 0] 42)))) (Lib.hid (by rw [zarrh]; exact Blk.new _ _)) (Lib.hid FB.out.1.size)
      rw [hT, ha0] at hG
      (try simp only [qq1, qq2, qq3, Act.put, qq4, qq5, qq6] at hG)
      exact hG
  have G1_4_7_8_15 : ∀ (gC : Nat) (cC : Nat) (gT : Nat) (u : World), (Hid (Below w0.heap.size w0 u ∧ Below w1.heap.size w1 u ∧ Below w3.heap.size w3 u)) → (Hid (Sk .u8 u (some ⟨gC, 0, none⟩) (bys o.rs))) → (Hid (w0.heap.size ≤ gC)) → (Hid (Blk .u8 42 u gT (zer 32))) → (Hid (w0.heap.size ≤ gT)) → T 5 #[true, true, true, true, true, true, true, true, true, true, true, false, false, false, false, true, false] (((((a0.put (some 17) (.agg #[.int .i64 2, .int .i64 (0), .slice (some ⟨b3, 0, none⟩) 32 32, .slice none 0 0])).put (some 20) (.agg #[.int .i64 1, .int .i64 (o.num), .slice none 0 0, .slice none 0 0])).put (some 23) (.slice (some ⟨gC, 0, none⟩) o.rs.size cC)).put (some 24) (.agg #[.int .i64 2, .int .i64 (0), .slice (some ⟨gC, 0, none⟩) o.rs.size cC, .slice none 0 0])).put (some 7) (.pointer (some ⟨gT, 0, none⟩))) u := by
    intro gC cC gT u FB FC FCl FT FTl
    have hHeld := hS.out _ FB
    rw [hT, ha0]
    try simp only [qq1, qq2, qq3, Act.put, qq4, qq5, qq6]
    refine wpT_one (i := 11) (by kernel_rfl) rfl (fun K hK => ?_)
    go_simp
    refine (eitem_any o.E1 o.E2 o.A o.na o.ca o.al o.C o.Z o.nz o.cz o.zs q1 q2 (by omega) (by omega) _ (kA.out _ (Lib.hid FB.out.1)) (kZ.out _ (Lib.hid FB.out.1))).mono ?_
    rintro e wB ⟨cB, rfl, hit, hq⟩
    have FB2 := hBx.out _ _ FB hq
    refine hK.out _ _ ?_ (fun hHeld => ?_)
    · exact hS.out _ FB2
    clear hK K hHeld
    try simp only [qq1, qq2, qq3, Act.put, qq4, qq5, qq6]
    have hG := G1_4_7_8_11_15 gC cC cB gT wB FB2 (Lib.hid (FC.out.below hq)) (FCl) (Lib.hid (hit.mono (by have := FB.out.1.size; omega))) (Lib.hid (FT.out.below hq)) (FTl)
    rw [hT, ha0] at hG
    (try simp only [qq1, qq2, qq3, Act.put, qq4, qq5, qq6] at hG)
    exact hG
  have G1_4_7_8 : ∀ (gC : Nat) (cC : Nat) (u : World), (Hid (Below w0.heap.size w0 u ∧ Below w1.heap.size w1 u ∧ Below w3.heap.size w3 u)) → (Hid (Sk .u8 u (some ⟨gC, 0, none⟩) (bys o.rs))) → (Hid (w0.heap.size ≤ gC)) → T 6 #[true, true, true, true, true, true, true, true, true, true, true, false, false, false, false, false, false] ((((a0.put (some 17) (.agg #[.int .i64 2, .int .i64 (0), .slice (some ⟨b3, 0, none⟩) 32 32, .slice none 0 0])).put (some 20) (.agg #[.int .i64 1, .int .i64 (o.num), .slice none 0 0, .slice none 0 0])).put (some 23) (.slice (some ⟨gC, 0, none⟩) o.rs.size cC)).put (some 24) (.agg #[.int .i64 2, .int .i64 (0), .slice (some ⟨gC, 0, none⟩) o.rs.size cC, .slice none 0 0])) u := by
    intro gC cC u FB FC FCl
    have hHeld := hS.out _ FB
    rw [hT, ha0]
    try simp only [qq1, qq2, qq3, Act.put, qq4, qq5, qq6]
    refine wpT_two (i1 := 11) (i2 := 15) (by kernel_rfl) rfl rfl (fun K hK => ?_) (fun K hK => ?_)
    · skip
      go_simp
      refine (eitem_any o.E1 o.E2 o.A o.na o.ca o.al o.C o.Z o.nz o.cz o.zs q1 q2 (by omega) (by omega) _ (kA.out _ (Lib.hid FB.out.1)) (kZ.out _ (Lib.hid FB.out.1))).mono ?_
      rintro e wB ⟨cB, rfl, hit, hq⟩
      have FB2 := hBx.out _ _ FB hq
      refine hK.out _ _ ?_ (fun hHeld => ?_)
      · exact hS.out _ FB2
      clear hK K hHeld
      try simp only [qq1, qq2, qq3, Act.put, qq4, qq5, qq6]
      have hG := G1_4_7_8_11 gC cC cB wB FB2 (Lib.hid (FC.out.below hq)) (FCl) (Lib.hid (hit.mono (by have := FB.out.1.size; omega)))
      rw [hT, ha0] at hG
      (try simp only [qq1, qq2, qq3, Act.put, qq4, qq5, qq6] at hG)
      exact hG
    · skip
      go_simp
      have FB2 := hBx.out _ _ FB (below_box0 u (.cells #[.int .u8 0, .int .u8 0, .int .u8 0, .int .u8 0, .int .u8 0, .int .u8 0, .int .u8 0, .int .u8 0, .int .u8 0, .int .u8 0, .int .u8 0, .int .u8 0, .int .u8 0, .int .u8 0, .int .u8 0, .int .u8 0, .int .u8 0, .int .u8 0, .int .u8 0, .int .u8 0, .int .u8 0, .int .u8 0, .int .u8 0, .int .u8 0, .int .u8 0, .int .u8 0, .int .u8 0, .int .u8 0, .int .u8 0, .int .u8 0, .int .u8 0, .int .u8 0] 42))
      refine hK.out _ _ ?_ (fun hHeld => ?_)
      · exact hS.out _ FB2
      clear hK K hHeld
      try simp only [qq1, qq2, qq3, Act.put, qq4, qq5, qq6]
      have hG := G1_4_7_8_15 gC cC u.heap.size (u.alloc (.cells #[.int .u8 0, .int .u8 0, .int .u8 0, .int .u8 0, .int .u8 0, .int .u8 0, .int .u8 0, .int .u8 0, .int .u8 0, .int .u8 0, .int .u8 0, .int .u8 0, .int .u8 0, .int .u8 0, .int .u8 0, .int .u8 0, .int .u8 0, .int .u8 0, .int .u8 0, .int .u8 0, .int .u8 0, .int .u8 0, .int .u8 0, .int .u8 0, .int .u8 0, .int .u8 0, .int .u8 0, .int .u8 0, .int .u8 0, .int .u8 0, .int .u8 0, .int .u8 0] 42)) FB2 (Lib.hid (FC.out.below (below_box0 u (.cells #[.int .u8 0, .int .u8 0, .int .u8 0, .int .u8 0, .int .u8 0, .int .u8 0, .int .u8 0, .int .u8 0, .int .u8 0, .int .u8 0, .int .u8 0, .int .u8 0, .int .u8 0, .int .u8 0, .int .u8 0, .int .u8 0, .int .u8 0, .int .u8 0, .int .u8 0, .int .u8 0, .int .u8 0, .int .u8 0, .int .u8 0, .int .u8 0, .int .u8 0, .int .u8 0, .int .u8 0, .int .u8 0, .int .u8 0, .int .u8 0, .int .u8 0, .int .u8 0] 42)))) (FCl) (Lib.hid (by rw [zarrh]; exact Blk.new _ _)) (Lib.hid FB.out.1.size)
      rw [hT, ha0] at hG
      (try simp only [qq1, qq2, qq3, Act.put, qq4, qq5, qq6] at hG)
      exact hG
  have G1_4_7_15 : ∀ (gC : Nat) (cC : Nat) (gT : Nat) (u : World), (Hid (Below w0.heap.size w0 u ∧ Below w1.heap.size w1 u ∧ Below w3.heap.size w3 u)) → (Hid (Sk .u8 u (some ⟨gC, 0, none⟩) (bys o.rs))) → (Hid (w0.heap.size ≤ gC)) → (Hid (Blk .u8 42 u gT (zer 32))) → (Hid (w0.heap.size ≤ gT)) → T 6 #[true, true, true, true, true, true, true, true, false, true, true, false, false, false, false, true, false] ((((a0.put (some 17) (.agg #[.int .i64 2, .int .i64 (0), .slice (some ⟨b3, 0, none⟩) 32 32, .slice none 0 0])).put (some 20) (.agg #[.int .i64 1, .int .i64 (o.num), .slice none 0 0, .slice none 0 0])).put (some 23) (.slice (some ⟨gC, 0, none⟩) o.rs.size cC)).put (some 7) (.pointer (some ⟨gT, 0, none⟩))) u := by
    intro gC cC gT u FB FC FCl FT FTl
    have hHeld := hS.out _ FB
    rw [hT, ha0]
    try simp only [qq1, qq2, qq3, Act.put, qq4, qq5, qq6]
    refine wpT_one (i := 8) (by kernel_rfl) rfl (fun K hK => ?_)
    go_simp
    refine (text_it (some ⟨gC, 0, none⟩) o.rs.size cC _).mono ?_
    rintro e wB ⟨rfl, hq⟩
    have FB2 := hBx.out _ _ FB hq
    refine hK.out _ _ ?_ (fun hHeld => ?_)
    · exact hS.out _ FB2
    clear hK K hHeld
    try simp only [qq1, qq2, qq3, Act.put, qq4, qq5, qq6]
    have hG := G1_4_7_8_15 gC cC gT wB FB2 (Lib.hid (FC.out.below hq)) (FCl) (Lib.hid (FT.out.below hq)) (FTl)
    rw [hT, ha0] at hG
    (try simp only [qq1, qq2, qq3, Act.put, qq4, qq5, qq6] at hG)
    exact hG
  have G1_4_7 : ∀ (gC : Nat) (cC : Nat) (u : World), (Hid (Below w0.heap.size w0 u ∧ Below w1.heap.size w1 u ∧ Below w3.heap.size w3 u)) → (Hid (Sk .u8 u (some ⟨gC, 0, none⟩) (bys o.rs))) → (Hid (w0.heap.size ≤ gC)) → T 7 #[true, true, true, true, true, true, true, true, false, true, true, false, false, false, false, false, false] (((a0.put (some 17) (.agg #[.int .i64 2, .int .i64 (0), .slice (some ⟨b3, 0, none⟩) 32 32, .slice none 0 0])).put (some 20) (.agg #[.int .i64 1, .int .i64 (o.num), .slice none 0 0, .slice none 0 0])).put (some 23) (.slice (some ⟨gC, 0, none⟩) o.rs.size cC)) u := by
    intro gC cC u FB FC FCl
    have hHeld := hS.out _ FB
    rw [hT, ha0]
    try simp only [qq1, qq2, qq3, Act.put, qq4, qq5, qq6]
    refine wpT_two (i1 := 8) (i2 := 15) (by kernel_rfl) rfl rfl (fun K hK => ?_) (fun K hK => ?_)
    · skip
      go_simp
      refine (text_it (some ⟨gC, 0, none⟩) o.rs.size cC _).mono ?_
      rintro e wB ⟨rfl, hq⟩
      have FB2 := hBx.out _ _ FB hq
      refine hK.out _ _ ?_ (fun hHeld => ?_)
      · exact hS.out _ FB2
      clear hK K hHeld
      try simp only [qq1, qq2, qq3, Act.put, qq4, qq5, qq6]
      have hG := G1_4_7_8 gC cC wB FB2 (Lib.hid (FC.out.below hq)) (FCl)
      rw [hT, ha0] at hG
      (try simp only [qq1, qq2, qq3, Act.put, qq4, qq5, qq6] at hG)
      exact hG
    · skip
      go_simp
      have FB2 := hBx.out _ _ FB (below_box0 u (.cells #[.int .u8 0, .int .u8 0, .int .u8 0, .int .u8 0, .int .u8 0, .int .u8 0, .int .u8 0, .int .u8 0, .int .u8 0, .int .u8 0, .int .u8 0, .int .u8 0, .int .u8 0, .int .u8 0, .int .u8 0, .int .u8 0, .int .u8 0, .int .u8 0, .int .u8 0, .int .u8 0, .int .u8 0, .int .u8 0, .int .u8 0, .int .u8 0, .int .u8 0, .int .u8 0, .int .u8 0, .int .u8 0, .int .u8 0, .int .u8 0, .int .u8 0, .int .u8 0] 42))
      refine hK.out _ _ ?_ (fun hHeld => ?_)
      · exact hS.out _ FB2
      clear hK K hHeld
      try simp only [qq1, qq2, qq3, Act.put, qq4, qq5, qq6]
      have hG := G1_4_7_15 gC cC u.heap.size (u.alloc (.cells #[.int .u8 0, .int .u8 0, .int .u8 0, .int .u8 0, .int .u8 0, .int .u8 0, .int .u8 0, .int .u8 0, .int .u8 0, .int .u8 0, .int .u8 0, .int .u8 0, .int .u8 0, .int .u8 0, .int .u8 0, .int .u8 0, .int .u8 0, .int .u8 0, .int .u8 0, .int .u8 0, .int .u8 0, .int .u8 0, .int .u8 0, .int .u8 0, .int .u8 0, .int .u8 0, .int .u8 0, .int .u8 0, .int .u8 0, .int .u8 0, .int .u8 0, .int .u8 0] 42)) FB2 (Lib.hid (FC.out.below (below_box0 u (.cells #[.int .u8 0, .int .u8 0, .int .u8 0, .int .u8 0, .int .u8 0, .int .u8 0, .int .u8 0, .int .u8 0, .int .u8 0, .int .u8 0, .int .u8 0, .int .u8 0, .int .u8 0, .int .u8 0, .int .u8 0, .int .u8 0, .int .u8 0, .int .u8 0, .int .u8 0, .int .u8 0, .int .u8 0, .int .u8 0, .int .u8 0, .int .u8 0, .int .u8 0, .int .u8 0, .int .u8 0, .int .u8 0, .int .u8 0, .int .u8 0, .int .u8 0, .int .u8 0] 42)))) (FCl) (Lib.hid (by rw [zarrh]; exact Blk.new _ _)) (Lib.hid FB.out.1.size)
      rw [hT, ha0] at hG
      (try simp only [qq1, qq2, qq3, Act.put, qq4, qq5, qq6] at hG)
      exact hG
  have G1_4_15 : ∀ (gT : Nat) (u : World), (Hid (Below w0.heap.size w0 u ∧ Below w1.heap.size w1 u ∧ Below w3.heap.size w3 u)) → (Hid (Blk .u8 42 u gT (zer 32))) → (Hid (w0.heap.size ≤ gT)) → T 7 #[true, true, true, true, true, true, true, false, false, true, true, false, false, false, false, true, false] (((a0.put (some 17) (.agg #[.int .i64 2, .int .i64 (0), .slice (some ⟨b3, 0, none⟩) 32 32, .slice none 0 0])).put (some 20) (.agg #[.int .i64 1, .int .i64 (o.num), .slice none 0 0, .slice none 0 0])).put (some 7) (.pointer (some ⟨gT, 0, none⟩))) u := by
    intro gT u FB FT FTl
    have hHeld := hS.out _ FB
    rw [hT, ha0]
    try simp only [qq1, qq2, qq3, Act.put, qq4, qq5, qq6]
    refine wpT_one (i := 7) (by kernel_rfl) rfl (fun K hK => ?_)
    go_simp
    have FB2 := hBx.out _ _ FB ((below_box0 u (.cells (bytesRow o.rs (grownCap u o.rs.size 0 5)) 5 ((bytesRow o.rs (grownCap u o.rs.size 0 5)).size, (bytesRow o.rs (grownCap u o.rs.size 0 5)).size + 1))).drew)
    refine hK.out _ _ ?_ (fun hHeld => ?_)
    · exact hS.out _ FB2
    clear hK K hHeld
    try simp only [qq1, qq2, qq3, Act.put, qq4, qq5, qq6]
    have hG := G1_4_7_15 u.heap.size ((grownCap u o.rs.size 0 5)) gT (u.alloc (.cells (bytesRow o.rs (grownCap u o.rs.size 0 5)) 5 ((bytesRow o.rs (grownCap u o.rs.size 0 5)).size, (bytesRow o.rs (grownCap u o.rs.size 0 5)).size + 1))).drew FB2 (Lib.hid ((bys_sk (heap_alloc_new u _)).below ((Below.refl _ _).drew))) (Lib.hid (by have := FB.out.1.size; omega)) (Lib.hid (FT.out.below ((below_box0 u (.cells (bytesRow o.rs (grownCap u o.rs.size 0 5)) 5 ((bytesRow o.rs (grownCap u o.rs.size 0 5)).size, (bytesRow o.rs (grownCap u o.rs.size 0 5)).size + 1))).drew))) (FTl)
    rw [hT, ha0] at hG
    (try simp only [qq1, qq2, qq3, Act.put, qq4, qq5, qq6] at hG)
    exact hG
  have G1_7_15 : ∀ (gC : Nat) (cC : Nat) (gT : Nat) (u : World), (Hid (Below w0.heap.size w0 u ∧ Below w1.heap.size w1 u ∧ Below w3.heap.size w3 u)) → (Hid (Sk .u8 u (some ⟨gC, 0, none⟩) (bys o.rs))) → (Hid (w0.heap.size ≤ gC)) → (Hid (Blk .u8 42 u gT (zer 32))) → (Hid (w0.heap.size ≤ gT)) → T 7 #[true, true, true, true, false, true, true, true, false, true, true, false, false, false, false, true, false] (((a0.put (some 17) (.agg #[.int .i64 2, .int .i64 (0), .slice (some ⟨b3, 0, none⟩) 32 32, .slice none 0 0])).put (some 23) (.slice (some ⟨gC, 0, none⟩) o.rs.size cC)).put (some 7) (.pointer (some ⟨gT, 0, none⟩))) u := by
    intro gC cC gT u FB FC FCl FT FTl
    have hHeld := hS.out _ FB
    rw [hT, ha0]
    try simp only [qq1, qq2, qq3, Act.put, qq4, qq5, qq6]
    refine wpT_one (i := 4) (by kernel_rfl) rfl (fun K hK => ?_)
    go_simp
    refine (number_it o.num _).mono ?_
    rintro e wB ⟨rfl, hq⟩
    have FB2 := hBx.out _ _ FB hq
    refine hK.out _ _ ?_ (fun hHeld => ?_)
    · exact hS.out _ FB2
    clear hK K hHeld
    try simp only [qq1, qq2, qq3, Act.put, qq4, qq5, qq6]
    have hG := G1_4_7_15 gC cC gT wB FB2 (Lib.hid (FC.out.below hq)) (FCl) (Lib.hid (FT.out.below hq)) (FTl)
    rw [hT, ha0] at hG
    (try simp only [qq1, qq2, qq3, Act.put, qq4, qq5, qq6] at hG)
    exact hG
  have G1_4 : ∀  (u : World), (Hid (Below w0.heap.size w0 u ∧ Below w1.heap.size w1 u ∧ Below w3.heap.size w3 u)) → T 8 #[true, true, true, true, true, true, true, false, false, true, true, false, false, false, false, false, false] ((a0.put (some 17) (.agg #[.int .i64 2, .int .i64 (0), .slice (some ⟨b3, 0, none⟩) 32 32, .slice none 0 0])).put (some 20) (.agg #[.int .i64 1, .int .i64 (o.num), .slice none 0 0, .slice none 0 0])) u := by
    intro  u FB
    have hHeld := hS.out _ FB
    rw [hT, ha0]
    try simp only [qq1, qq2, qq3, Act.put, qq4, qq5, qq6]
    refine wpT_two (i1 := 7) (i2 := 15) (by kernel_rfl) rfl rfl (fun K hK => ?_) (fun K hK => ?_)
    · skip
      go_simp
      have FB2 := hBx.out _ _ FB ((below_box0 u (.cells (bytesRow o.rs (grownCap u o.rs.size 0 5)) 5 ((bytesRow o.rs (grownCap u o.rs.size 0 5)).size, (bytesRow o.rs (grownCap u o.rs.size 0 5)).size + 1))).drew)
      refine hK.out _ _ ?_ (fun hHeld => ?_)
      · exact hS.out _ FB2
      clear hK K hHeld
      try simp only [qq1, qq2, qq3, Act.put, qq4, qq5, qq6]
      have hG := G1_4_7 u.heap.size ((grownCap u o.rs.size 0 5)) (u.alloc (.cells (bytesRow o.rs (grownCap u o.rs.size 0 5)) 5 ((bytesRow o.rs (grownCap u o.rs.size 0 5)).size, (bytesRow o.rs (grownCap u o.rs.size 0 5)).size + 1))).drew FB2 (Lib.hid ((bys_sk (heap_alloc_new u _)).below ((Below.refl _ _).drew))) (Lib.hid (by have := FB.out.1.size; omega))
      rw [hT, ha0] at hG
      (try simp only [qq1, qq2, qq3, Act.put, qq4, qq5, qq6] at hG)
      exact hG
    · skip
      go_simp
      have FB2 := hBx.out _ _ FB (below_box0 u (.cells #[.int .u8 0, .int .u8 0, .int .u8 0, .int .u8 0, .int .u8 0, .int .u8 0, .int .u8 0, .int .u8 0, .int .u8 0, .int .u8 0, .int .u8 0, .int .u8 0, .int .u8 0, .int .u8 0, .int .u8 0, .int .u8 0, .int .u8 0, .int .u8 0, .int .u8 0, .int .u8 0, .int .u8 0, .int .u8 0, .int .u8 0, .int .u8 0, .int .u8 0, .int .u8 0, .int .u8 0, .int .u8 0, .int .u8 0, .int .u8 0, .int .u8 0, .int .u8 0] 42))
      refine hK.out _ _ ?_ (fun hHeld => ?_)
      · exact hS.out _ FB2
      clear hK K hHeld
      try simp only [qq1, qq2, qq3, Act.put, qq4, qq5, qq6]
      have hG := G1_4_15 u.heap.size (u.alloc (.cells #[.int .u8 0, .int .u8 0, .int .u8 0, .int .u8 0, .int .u8 0, .int .u8 0, .int .u8 0, .int .u8 0, .int .u8 0, .int .u8 0, .int .u8 0, .int .u8 0, .int .u8 0, .int .u8 0, .int .u8 0, .int .u8 0, .int .u8 0, .int .u8 0, .int .u8 0, .int .u8 0, .int .u8 0, .int .u8 0, .int .u8 0, .int .u8 0, .int .u8 0, .int .u8 0, .int .u8 0, .int .u8 0, .int .u8 0, .int .u8 0, .int .u8 0, .int .u8 0] 42)) FB2 (Lib.hid (by rw [zarrh]; exact Blk.new _ _)) (Lib.hid FB.out.1.size)
      rw [hT, ha0] at hG
      (try simp only [qq1, qq2, qq3, Act.put, qq4, qq5, qq6] at hG)
      exact hG
  have G1_7 : ∀ (gC : Nat) (cC : Nat) (u : World), (Hid (Below w0.heap.size w0 u ∧ Below w1.heap.size w1 u ∧ Below w3.heap.size w3 u)) → (Hid (Sk .u8 u (some ⟨gC, 0, none⟩) (bys o.rs))) → (Hid (w0.heap.size ≤ gC)) → T 8 #[true, true, true, true, false, true, true, true, false, true, true, false, false, false, false, false, false] ((a0.put (some 17) (.agg #[.int .i64 2, .int .i64 (0), .slice (some ⟨b3, 0, none⟩) 32 32, .slice none 0 0])).put (some 23) (.slice (some ⟨gC, 0, none⟩) o.rs.size cC)) u := by
    intro gC cC u FB FC FCl
    have hHeld := hS.out _ FB
    rw [hT, ha0]
    try simp only [qq1, qq2, qq3, Act.put, qq4, qq5, qq6]
    refine wpT_two (i1 := 4) (i2 := 15) (by kernel_rfl) rfl rfl (fun K hK => ?_) (fun K hK => ?_)
    · skip
      go_simp
      refine (number_it o.num _).mono ?_
      rintro e wB ⟨rfl, hq⟩
      have FB2 := hBx.out _ _ FB hq
      refine hK.out _ _ ?_ (fun hHeld => ?_)
      · exact hS.out _ FB2
      clear hK K hHeld
      try simp only [qq1, qq2, qq3, Act.put, qq4, qq5, qq6]
      have hG := G1_4_7 gC cC wB FB2 (Lib.hid (FC.out.below hq)) (FCl)
      rw [hT, ha0] at hG
      (try simp only [qq1, qq2, qq3, Act.put, qq4, qq5, qq6] at hG)
      exact hG
    · skip
      go_simp
      have FB2 := hBx.out _ _ FB (below_box0 u (.cells #[.int .u8 0, .int .u8 0, .int .u8 0, .int .u8 0, .int .u8 0, .int .u8 0, .int .u8 0, .int .u8 0, .int .u8 0, .int .u8 0, .int .u8 0, .int .u8 0, .int .u8 0, .int .u8 0, .int .u8 0, .int .u8 0, .int .u8 0, .int .u8 0, .int .u8 0, .int .u8 0, .int .u8 0, .int .u8 0, .int .u8 0, .int .u8 0, .int .u8 0, .int .u8 0, .int .u8 0, .int .u8 0, .int .u8 0, .int .u8 0, .int .u8 0, .int .u8 0] 42))
      refine hK.out _ _ ?_ (fun hHeld => ?_)
      · exact hS.out _ FB2
      clear hK K hHeld
      try simp only [qq1, qq2, qq3, Act.put, qq4, qq5, qq6]
      have hG := G1_7_15 gC cC u.heap.size (u.alloc (.cells #[.int .u8 0, .int .u8 0, .int .u8 0, .int .u8 0, .int .u8 0, .int .u8 0, .int .u8 0, .int .u8 0, .int .u8 0, .int .u8 0, .int .u8 0, .int .u8 0, .int .u8 0, .int .u8 0, .int .u8 0, .int .u8 0, .int .u8 0, .int .u8 0, .int .u8 0, .int .u8 0, .int .u8 0, .int .u8 0, .int .u8 0, .int .u8 0, .int .u8 0, .int .u8 0, .int .u8 0, .int .u8 0, .int .u8 0, .int .u8 0, .int .u8 0, .int .u8 0] 42)) FB2 (Lib.hid (FC.out.below (below_box0 u (.cells #[.int .u8 0, .int .u8 0, .int .u8 0, .int .u8 0, .int .u8 0, .int .u8 0, .int .u8 0, .int .u8 0, .int .u8 0, .int .u8 0, .int .u8 0, .int .u8 0, .int .u8 0, .int .u8 0, .int .u8 0, .int .u8 0, .int .u8 0, .int .u8 0, .int .u8 0, .int .u8 0, .int .u8 0, .int .u8 0, .int .u8 0, .int .u8 0, .int .u8 0, .int .u8 0, .int .u8 0, .int .u8 0, .int .u8 0, .int .u8 0, .int .u8 0, .int .u8 0] 42)))) (FCl) (Lib.hid (by rw [zarrh]; exact Blk.new _ _)) (Lib.hid FB.out.1.size)
      rw [hT, ha0] at hG
      (try simp only [qq1, qq2, qq3, Act.put, qq4, qq5, qq6] at hG)
      exact hG
  have G1_15 : ∀ (gT : Nat) (u : World), (Hid (Below w0.heap.size w0 u ∧ Below w1.heap.size w1 u ∧ Below w3.heap.size w3 u)) → (Hid (Blk .u8 42 u gT (zer 32))) → (Hid (w0.heap.size ≤ gT)) → T 8 #[true, true, true, true, false, true, true, false, false, true, true, false, false, false, false, true, false] ((a0.put (some 17) (.agg #[.int .i64 2, .int .i64 (0), .slice (some ⟨b3, 0, none⟩) 32 32, .slice none 0 0])).put (some 7) (.pointer (some ⟨gT, 0, none⟩))) u := by
    intro gT u FB FT FTl
    have hHeld := hS.out _ FB
    rw [hT, ha0]
    try simp only [qq1, qq2, qq3, Act.put, qq4, qq5, qq6]
    refine wpT_two (i1 := 4) (i2 := 7) (by kernel_rfl) rfl rfl (fun K hK => ?_) (fun K hK => ?_)
    · skip
      go_simp
      refine (number_it o.num _).mono ?_
      rintro e wB ⟨rfl, hq⟩
      have FB2 := hBx.out _ _ FB hq
      refine hK.out _ _ ?_ (fun hHeld => ?_)
      · exact hS.out _ FB2
      clear hK K hHeld
      try simp only [qq1, qq2, qq3, Act.put, qq4, qq5, qq6]
      have hG := G1_4_15 gT wB FB2 (Lib.hid (FT.out.below hq)) (FTl)
      rw [hT, ha0] at hG
      (try simp only [qq1, qq2, qq3, Act.put, qq4, qq5, qq6] at hG)
      exact hG
    · skip
      go_simp
      have FB2 := hBx.out _ _ FB ((below_box0 u (.cells (bytesRow o.rs (grownCap u o.rs.size 0 5)) 5 ((bytesRow o.rs (grownCap u o.rs.size 0 5)).size, (bytesRow o.rs (grownCap u o.rs.size 0 5)).size + 1))).drew)
      refine hK.out _ _ ?_ (fun hHeld => ?_)
      · exact hS.out _ FB2
      clear hK K hHeld
      try simp only [qq1, qq2, qq3, Act.put, qq4, qq5, qq6]
      have hG := G1_7_15 u.heap.size ((grownCap u o.rs.size 0 5)) gT (u.alloc (.cells (bytesRow o.rs (grownCap u o.rs.size 0 5)) 5 ((bytesRow o.rs (grownCap u o.rs.size 0 5)).size, (bytesRow o.rs (grownCap u o.rs.size 0 5)).size + 1))).drew FB2 (Lib.hid ((bys_sk (heap_alloc_new u _)).below ((Below.refl _ _).drew))) (Lib.hid (by have := FB.out.1.size; omega)) (Lib.hid (FT.out.below ((below_box0 u (.cells (bytesRow o.rs (grownCap u o.rs.size 0 5)) 5 ((bytesRow o.rs (grownCap u o.rs.size 0 5)).size, (bytesRow o.rs (grownCap u o.rs.size 0 5)).size + 1))).drew))) (FTl)
      rw [hT, ha0] at hG
      (try simp only [qq1, qq2, qq3, Act.put, qq4, qq5, qq6] at hG)
      exact hG
  have G7_15 : ∀ (gC : Nat) (cC : Nat) (gT : Nat) (u : World), (Hid (Below w0.heap.size w0 u ∧ Below w1.heap.size w1 u ∧ Below w3.heap.size w3 u)) → (Hid (Sk .u8 u (some ⟨gC, 0, none⟩) (bys o.rs))) → (Hid (w0.heap.size ≤ gC)) → (Hid (Blk .u8 42 u gT (zer 32))) → (Hid (w0.heap.size ≤ gT)) → T 8 #[true, false, true, true, false, true, true, true, false, true, true, false, false, false, false, true, false] ((a0.put (some 23) (.slice (some ⟨gC, 0, none⟩) o.rs.size cC)).put (some 7) (.pointer (some ⟨gT, 0, none⟩))) u := by
    intro gC cC gT u FB FC FCl FT FTl
    have hHeld := hS.out _ FB
    rw [hT, ha0]
    try simp only [qq1, qq2, qq3, Act.put, qq4, qq5, qq6]
    refine wpT_one (i := 1) (by kernel_rfl) rfl (fun K hK => ?_)
    go_simp
    refine (text_it (some ⟨b3, 0, none⟩) 32 32 _).mono ?_
    rintro e wB ⟨rfl, hq⟩
    have FB2 := hBx.out _ _ FB hq
    refine hK.out _ _ ?_ (fun hHeld => ?_)
    · exact hS.out _ FB2
    clear hK K hHeld
    try simp only [qq1, qq2, qq3, Act.put, qq4, qq5, qq6]
    have hG := G1_7_15 gC cC gT wB FB2 (Lib.hid (FC.out.below hq)) (FCl) (Lib.hid (FT.out.below hq)) (FTl)
    rw [hT, ha0] at hG
    (try simp only [qq1, qq2, qq3, Act.put, qq4, qq5, qq6] at hG)
    exact hG
  have G1 : ∀  (u : World), (Hid (Below w0.heap.size w0 u ∧ Below w1.heap.size w1 u ∧ Below w3.heap.size w3 u)) → T 9 #[true, true, true, true, false, true, true, false, false, true, true, false, false, false, false, false, false] (a0.put (some 17) (.agg #[.int .i64 2, .int .i64 (0), .slice (some ⟨b3, 0, none⟩) 32 32, .slice none 0 0])) u := by
    intro  u FB
    have hHeld := hS.out _ FB
    rw [hT, ha0]
    try simp only [qq1, qq2, qq3, Act.put, qq4, qq5, qq6]
    refine wpT_three (i1 := 4) (i2 := 7) (i3 := 15) (by kernel_rfl) rfl rfl rfl (fun K hK => ?_) (fun K hK => ?_) (fun K hK => ?_)
    · skip
      go_simp
      refine (number_it o.num _).mono ?_
      rintro e wB ⟨rfl, hq⟩
      have FB2 := hBx.out _ _ FB hq
      refine hK.out _ _ ?_ (fun hHeld => ?_)
      · exact hS.out _ FB2
      clear hK K hHeld
      try simp only [qq1, qq2, qq3, Act.put, qq4, qq5, qq6]
      have hG := G1_4  wB FB2
      rw [hT, ha0] at hG
      (try simp only [qq1, qq2, qq3, Act.put, qq4, qq5, qq6] at hG)
      exact hG
    · skip
      go_simp
      have FB2 := hBx.out _ _ FB ((below_box0 u (.cells (bytesRow o.rs (grownCap u o.rs.size 0 5)) 5 ((bytesRow o.rs (grownCap u o.rs.size 0 5)).size, (bytesRow o.rs (grownCap u o.rs.size 0 5)).size + 1))).drew)
      refine hK.out _ _ ?_ (fun hHeld => ?_)
      · exact hS.out _ FB2
      clear hK K hHeld
      try simp only [qq1, qq2, qq3, Act.put, qq4, qq5, qq6]
      have hG := G1_7 u.heap.size ((grownCap u o.rs.size 0 5)) (u.alloc (.cells (bytesRow o.rs (grownCap u o.rs.size 0 5)) 5 ((bytesRow o.rs (grownCap u o.rs.size 0 5)).size, (bytesRow o.rs (grownCap u o.rs.size 0 5)).size + 1))).drew FB2 (Lib.hid ((bys_sk (heap_alloc_new u _)).below ((Below.refl _ _).drew))) (Lib.hid (by have := FB.out.1.size; omega))
      rw [hT, ha0] at hG
      (try simp only [qq1, qq2, qq3, Act.put, qq4, qq5, qq6] at hG)
      exact hG
    · skip
      go_simp
      have FB2 := hBx.out _ _ FB (below_box0 u (.cells #[.int .u8 0, .int .u8 0, .int .u8 0, .int .u8 0, .int .u8 0, .int .u8 0, .int .u8 0, .int .u8 0, .int .u8 0, .int .u8 0, .int .u8 0, .int .u8 0, .int .u8 0, .int .u8 0, .int .u8 0, .int .u8 0, .int .u8 0, .int .u8 0, .int .u8 0, .int .u8 0, .int .u8 0, .int .u8 0, .int .u8 0, .int .u8 0, .int .u8 0, .int .u8 0, .int .u8 0, .int .u8 0, .int .u8 0, .int .u8 0, .int .u8 0, .int .u8 0] 42))
      refine hK.out _ _ ?_ (fun hHeld => ?_)
      · exact hS.out _ FB2
      clear hK K hHeld
      try simp only [qq1, qq2, qq3, Act.put, qq4, qq5, qq6]
      have hG := G1_15 u.heap.size (u.alloc (.cells #[.int .u8 0, .int .u8 0, .int .u8 0, .int .u8 0, .int .u8 0, .int .u8 0, .int .u8 0, .int .u8 0, .int .u8 0, .int .u8 0, .int .u8 0, .int .u8 0, .int .u8 0, .int .u8 0, .int .u8 0, .int .u8 0, .int .u8 0, .int .u8 0, .int .u8 0, .int .u8 0, .int .u8 0, .int .u8 0, .int .u8 0, .int .u8 0, .int .u8 0, .int .u8 0, .int .u8 0, .int .u8 0, .int .u8 0, .int .u8 0, .int .u8 0, .int .u8 0] 42)) FB2 (Lib.hid (by rw [zarrh]; exact Blk.new _ _)) (Lib.hid FB.out.1.size)
      rw [hT, ha0] at hG
      (try simp only [qq1, qq2, qq3, Act.put, qq4, qq5, qq6] at hG)
      exact hG
  have G7 : ∀ (gC : Nat) (cC : Nat) (u : World), (Hid (Below w0.heap.size w0 u ∧ Below w1.heap.size w1 u ∧ Below w3.heap.size w3 u)) → (Hid (Sk .u8 u (some ⟨gC, 0, none⟩) (bys o.rs))) → (Hid (w0.heap.size ≤ gC)) → T 9 #[true, false, true, true, false, true, true, true, false, true, true, false, false, false, false, false, false] (a0.put (some 23) (.slice (some ⟨gC, 0, none⟩) o.rs.size cC)) u := by
    intro gC cC u FB FC FCl
    have hHeld := hS.out _ FB
    rw [hT, ha0]
    try simp only [qq1, qq2, qq3, Act.put, qq4, qq5, qq6]
    refine wpT_two (i1 := 1) (i2 := 15) (by kernel_rfl) rfl rfl (fun K hK => ?_) (fun K hK => ?_)
    · skip
      go_simp
      refine (text_it (some ⟨b3, 0, none⟩) 32 32 _).mono ?_
      rintro e wB ⟨rfl, hq⟩
      have FB2 := hBx.out _ _ FB hq
      refine hK.out _ _ ?_ (fun hHeld => ?_)
      · exact hS.out _ FB2
      clear hK K hHeld
      try simp only [qq1, qq2, qq3, Act.put, qq4, qq5, qq6]
      have hG := G1_7 gC cC wB FB2 (Lib.hid (FC.out.below hq)) (FCl)
      rw [hT, ha0] at hG
      (try simp only [qq1, qq2, qq3, Act.put, qq4, qq5, qq6] at hG)
      exact hG
    · skip
      go_simp
      have FB2 := hBx.out _ _ FB (below_box0 u (.cells #[.int .u8 0, .int .u8 0, .int .u8 0, .int .u8 0, .int .u8 0, .int .u8 0, .int .u8 0, .int .u8 0, .int .u8 0, .int .u8 0, .int .u8 0, .int .u8 0, .int .u8 0, .int .u8 0, .int .u8 0, .int .u8 0, .int .u8 0, .int .u8 0, .int .u8 0, .int .u8 0, .int .u8 0, .int .u8 0, .int .u8 0, .int .u8 0, .int .u8 0, .int .u8 0, .int .u8 0, .int .u8 0, .int .u8 0, .int .u8 0, .int .u8 0, .int .u8 0] 42))
      refine hK.out _ _ ?_ (fun hHeld => ?_)
      · exact hS.out _ FB2
      clear hK K hHeld
      try simp only [qq1, qq2, qq3, Act.put, qq4, qq5, qq6]
      have hG := G7_15 gC cC u.heap.size (u.alloc (.cells #[.int .u8 0, .int .u8 0, .int .u8 0, .int .u8 0, .int .u8 0, .int .u8 0, .int .u8 0, .int .u8 0, .int .u8 0, .int .u8 0, .int .u8 0, .int .u8 0, .int .u8 0, .int .u8 0, .int .u8 0, .int .u8 0, .int .u8 0, .int .u8 0, .int .u8 0, .int .u8 0, .int .u8 0, .int .u8 0, .int .u8 0, .int .u8 0, .int .u8 0, .int .u8 0, .int .u8 0, .int .u8 0, .int .u8 0, .int .u8 0, .int .u8 0, .int .u8 0] 42)) FB2 (Lib.hid (FC.out.below (below_box0 u (.cells #[.int .u8 0, .int .u8 0, .int .u8 0, .int .u8 0, .int .u8 0, .int .u8 0, .int .u8 0, .int .u8 0, .int .u8 0, .int .u8 0, .int .u8 0, .int .u8 0, .int .u8 0, .int .u8 0, .int .u8 0, .int .u8 0, .int .u8 0, .int .u8 0, .int .u8 0, .int .u8 0, .int .u8 0, .int .u8 0, .int .u8 0, .int .u8 0, .int .u8 0, .int .u8 0, .int .u8 0, .int .u8 0, .int .u8 0, .int .u8 0, .int .u8 0, .int .u8 0] 42)))) (FCl) (Lib.hid (by rw [zarrh]; exact Blk.new _ _)) (Lib.hid FB.out.1.size)
      rw [hT, ha0] at hG
      (try simp only [qq1, qq2, qq3, Act.put, qq4, qq5, qq6] at hG)
      exact hG
  have G15 : ∀ (gT : Nat) (u : World), (Hid (Below w0.heap.size w0 u ∧ Below w1.heap.size w1 u ∧ Below w3.heap.size w3 u)) → (Hid (Blk .u8 42 u gT (zer 32))) → (Hid (w0.heap.size ≤ gT)) → T 9 #[true, false, true, true, false, true, true, false, false, true, true, false, false, false, false, true, false] (a0.put (some 7) (.pointer (some ⟨gT, 0, none⟩))) u := by
    intro gT u FB FT FTl
    have hHeld := hS.out _ FB
    rw [hT, ha0]
    try simp only [qq1, qq2, qq3, Act.put, qq4, qq5, qq6]
    refine wpT_two (i1 := 1) (i2 := 7) (by kernel_rfl) rfl rfl (fun K hK => ?_) (fun K hK => ?_)
    · skip
      go_simp
      refine (text_it (some ⟨b3, 0, none⟩) 32 32 _).mono ?_
      rintro e wB ⟨rfl, hq⟩
      have FB2 := hBx.out _ _ FB hq
      refine hK.out _ _ ?_ (fun hHeld => ?_)
      · exact hS.out _ FB2
      clear hK K hHeld
      try simp only [qq1, qq2, qq3, Act.put, qq4, qq5, qq6]
      have hG := G1_15 gT wB FB2 (Lib.hid (FT.out.below hq)) (FTl)
      rw [hT, ha0] at hG
      (try simp only [qq1, qq2, qq3, Act.put, qq4, qq5, qq6] at hG)
      exact hG
    · skip
      go_simp
      have FB2 := hBx.out _ _ FB ((below_box0 u (.cells (bytesRow o.rs (grownCap u o.rs.size 0 5)) 5 ((bytesRow o.rs (grownCap u o.rs.size 0 5)).size, (bytesRow o.rs (grownCap u o.rs.size 0 5)).size + 1))).drew)
      refine hK.out _ _ ?_ (fun hHeld => ?_)
      · exact hS.out _ FB2
      clear hK K hHeld
      try simp only [qq1, qq2, qq3, Act.put, qq4, qq5, qq6]
      have hG := G7_15 u.heap.size ((grownCap u o.rs.size 0 5)) gT (u.alloc (.cells (bytesRow o.rs (grownCap u o.rs.size 0 5)) 5 ((bytesRow o.rs (grownCap u o.rs.size 0 5)).size, (bytesRow o.rs (grownCap u o.rs.size 0 5)).size + 1))).drew FB2 (Lib.hid ((bys_sk (heap_alloc_new u _)).below ((Below.refl _ _).drew))) (Lib.hid (by have := FB.out.1.size; omega)) (Lib.hid (FT.out.below ((below_box0 u (.cells (bytesRow o.rs (grownCap u o.rs.size 0 5)) 5 ((bytesRow o.rs (grownCap u o.rs.size 0 5)).size, (bytesRow o.rs (grownCap u o.rs.size 0 5)).size + 1))).drew))) (FTl)
      rw [hT, ha0] at hG
      (try simp only [qq1, qq2, qq3, Act.put, qq4, qq5, qq6] at hG)
      exact hG
  have G0 : ∀  (u : World), (Hid (Below w0.heap.size w0 u ∧ Below w1.heap.size w1 u ∧ Below w3.heap.size w3 u)) → T 10 #[true, false, true, true, false, true, true, false, false, true, true, false, false, false, false, false, false] a0 u := by
    intro  u FB
    have hHeld := hS.out _ FB
    rw [hT, ha0]
    try simp only [qq1, qq2, qq3, Act.put, qq4, qq5, qq6]
    refine wpT_three (i1 := 1) (i2 := 7) (i3 := 15) (by kernel_rfl) rfl rfl rfl (fun K hK => ?_) (fun K hK => ?_) (fun K hK => ?_)
    · skip
      go_simp
      refine (text_it (some ⟨b3, 0, none⟩) 32 32 _).mono ?_
      rintro e wB ⟨rfl, hq⟩
      have FB2 := hBx.out _ _ FB hq
      refine hK.out _ _ ?_ (fun hHeld => ?_)
      · exact hS.out _ FB2
      clear hK K hHeld
      try simp only [qq1, qq2, qq3, Act.put, qq4, qq5, qq6]
      have hG := G1  wB FB2
      rw [hT, ha0] at hG
      (try simp only [qq1, qq2, qq3, Act.put, qq4, qq5, qq6] at hG)
      exact hG
    · skip
      go_simp
      have FB2 := hBx.out _ _ FB ((below_box0 u (.cells (bytesRow o.rs (grownCap u o.rs.size 0 5)) 5 ((bytesRow o.rs (grownCap u o.rs.size 0 5)).size, (bytesRow o.rs (grownCap u o.rs.size 0 5)).size + 1))).drew)
      refine hK.out _ _ ?_ (fun hHeld => ?_)
      · exact hS.out _ FB2
      clear hK K hHeld
      try simp only [qq1, qq2, qq3, Act.put, qq4, qq5, qq6]
      have hG := G7 u.heap.size ((grownCap u o.rs.size 0 5)) (u.alloc (.cells (bytesRow o.rs (grownCap u o.rs.size 0 5)) 5 ((bytesRow o.rs (grownCap u o.rs.size 0 5)).size, (bytesRow o.rs (grownCap u o.rs.size 0 5)).size + 1))).drew FB2 (Lib.hid ((bys_sk (heap_alloc_new u _)).below ((Below.refl _ _).drew))) (Lib.hid (by have := FB.out.1.size; omega))
      rw [hT, ha0] at hG
      (try simp only [qq1, qq2, qq3, Act.put, qq4, qq5, qq6] at hG)
      exact hG
    · skip
      go_simp
      have FB2 := hBx.out _ _ FB (below_box0 u (.cells #[.int .u8 0, .int .u8 0, .int .u8 0, .int .u8 0, .int .u8 0, .int .u8 0, .int .u8 0, .int .u8 0, .int .u8 0, .int .u8 0, .int .u8 0, .int .u8 0, .int .u8 0, .int .u8 0, .int .u8 0, .int .u8 0, .int .u8 0, .int .u8 0, .int .u8 0, .int .u8 0, .int .u8 0, .int .u8 0, .int .u8 0, .int .u8 0, .int .u8 0, .int .u8 0, .int .u8 0, .int .u8 0, .int .u8 0, .int .u8 0, .int .u8 0, .int .u8 0] 42))
      refine hK.out _ _ ?_ (fun hHeld => ?_)
      · exact hS.out _ FB2
      clear hK K hHeld
      try simp only [qq1, qq2, qq3, Act.put, qq4, qq5, qq6]
      have hG := G15 u.heap.size (u.alloc (.cells #[.int .u8 0, .int .u8 0, .int .u8 0, .int .u8 0, .int .u8 0, .int .u8 0, .int .u8 0, .int .u8 0, .int .u8 0, .int .u8 0, .int .u8 0, .int .u8 0, .int .u8 0, .int .u8 0, .int .u8 0, .int .u8 0, .int .u8 0, .int .u8 0, .int .u8 0, .int .u8 0, .int .u8 0, .int .u8 0, .int .u8 0, .int .u8 0, .int .u8 0, .int .u8 0, .int .u8 0, .int .u8 0, .int .u8 0, .int .u8 0, .int .u8 0, .int .u8 0] 42)) FB2 (Lib.hid (by rw [zarrh]; exact Blk.new _ _)) (Lib.hid FB.out.1.size)
      rw [hT, ha0] at hG
      (try simp only [qq1, qq2, qq3, Act.put, qq4, qq5, qq6] at hG)
      exact hG
  exact G0 _ HBD
theorem intInfoX : (Tryd.prog.info? 3).map (fun i => (i.zero, i.size, i.bytes)) = some (some (.int .i64 0), 1, 8) := by kernel_rfl
def trcL (os : List OrdR) : Nat → List Int
  | 0 => []
  | k + 1 => if (orL os k).key = 0 then trcL os k else trcL os k ++ [(orL os k).key]
theorem trcL_len (os : List OrdR) : ∀ k, (trcL os k).length ≤ k
  | 0 => Nat.le_refl _
  | k + 1 => by
    have := trcL_len os k
    rw [trcL]; split
    · omega
    · rw [List.length_append]; simp; omega
theorem none_any (O : Option Addr) (n c : Nat) (K : Option Addr) (m d : Nat) (r : Bool) (hr : Hid ((decide (n = 0) && decide (m = 0)) = r)) (w : World) :
    Calls Tryd.prog 10 #[tlV O n c K m d] w fun e' w' => e' = .returned (.bool r) ∧ Below w.heap.size w w' := by
  have HX := below_box0 w (tlO O n c K m d)
  have hr1 := hr.out
  by_cases h0 : n = 0
  · subst h0
    by_cases h1 : m = 0
    · subst h1
      have hr2 : r = true := by rw [← hr1]; rfl
      subst hr2
      clear hr1 hr
      go_enter Tryd.func10, Tryd.ntmps10
      go_wp2
      go_ret
      exact ⟨rfl, HX⟩
    · have d1 : decide ((m : Int) = 0) = false := by simp; omega
      have d2 : ((m : Int) == 0) = false := by simp; omega
      have hr2 : r = false := by rw [← hr1]; simp [h1]
      subst hr2
      clear hr1 hr h1
      go_enter Tryd.func10, Tryd.ntmps10
      go_wp2
      go_ret
      exact ⟨by first | rfl | simp, HX⟩
  · have d1 : decide ((n : Int) = 0) = false := by simp; omega
    have d2 : ((n : Int) == 0) = false := by simp; omega
    have hr2 : r = false := by rw [← hr1]; simp [h0]
    subst hr2
    clear hr1 hr h0
    go_enter Tryd.func10, Tryd.ntmps10
    go_wp2
    go_ret
    exact ⟨by first | rfl | simp, HX⟩
set_option maxHeartbeats 6400000 in
theorem dig_f (O : Option Addr) (os : List OrdR) (n c : Nat) (K : Option Addr) (hs : List (List Int)) (m d : Nat) (hn : Hid (os.length = n)) (hm : Hid (hs.length = m)) (hI : ∀ k, k < n → OrdI (orL os k)) (hb1 : n ≤ 1000000) (hb2 : m ≤ 1000000) (hr : Kp (trlB os hs = false)) (w : World) (hv : Hid (VarsD w)) (hO : Hid (Os w O os)) (hK : Hid (Hs w K hs)) :
    Calls Tryd.prog 14 #[tlV O n c K m d] w fun e' w' => e' = .returned (.agg (arr .u8 (zer 32))) ∧ Below w.heap.size w w' := by
  obtain ⟨w0, hW⟩ : ∃ W, ((w.alloc (tlO O n c K m d)).alloc (.cells #[.int .u8 0, .int .u8 0, .int .u8 0, .int .u8 0, .int .u8 0, .int .u8 0, .int .u8 0, .int .u8 0, .int .u8 0, .int .u8 0, .int .u8 0, .int .u8 0, .int .u8 0, .int .u8 0, .int .u8 0, .int .u8 0, .int .u8 0, .int .u8 0, .int .u8 0, .int .u8 0, .int .u8 0, .int .u8 0, .int .u8 0, .int .u8 0, .int .u8 0, .int .u8 0, .int .u8 0, .int .u8 0, .int .u8 0, .int .u8 0, .int .u8 0, .int .u8 0] 42)) = W := ⟨_, rfl⟩
  have HBw : Hid (Below w.heap.size w w0) := Lib.hid (by rw [← hW]; exact below_two (Below.refl _ _))
  have hc : w0.cell? ⟨w.heap.size, 0, none⟩ = some (.slice O n c) ∧ w0.cell? ⟨w.heap.size, 1, none⟩ = some (.slice K m d) := by rw [← hW]; exact ⟨cell_below (allocs_cell (by simp) (by rfl)) (below_box0 _ _), cell_below (allocs_cell (by simp) (by rfl)) (below_box0 _ _)⟩
  have kC := Lib.hid (show ∀ u : World, Hid (Below w0.heap.size w0 u) → u.cell? ⟨w.heap.size, 0, none⟩ = some (.slice O n c) ∧ u.cell? ⟨w.heap.size, 1, none⟩ = some (.slice K m d) from fun u h => ⟨cell_below hc.1 h.out, cell_below hc.2 h.out⟩)
  have kD := Lib.hid (show ∀ u : World, Hid (Below w0.heap.size w0 u) → Hid (VarsD u) from fun u h => Lib.hid ((hv.out.below) (below_ext HBw.out h.out)))
  have kOs := Lib.hid (show ∀ u : World, Hid (Below w0.heap.size w0 u) → Hid (Os u O os) from fun u h => Lib.hid ((hO.out.below) (below_ext HBw.out h.out)))
  have kHs := Lib.hid (show ∀ u : World, Hid (Below w0.heap.size w0 u) → Hid (Hs u K hs) from fun u h => Lib.hid ((hK.out.below) (below_ext HBw.out h.out)))
  have HB_0 : Hid (Below w0.heap.size w0 w0) := Lib.hid (Below.refl _ _)
  have HW := Lib.hid hW
  have kRB := Lib.hid (show ∀ u : World, Hid (Below w0.heap.size w0 u) → Hid (Blk .u8 42 u (w.heap.size + 1) (zer 32)) from fun u h9 => Lib.hid (Blk.below (by rw [← hW, zarrh]; exact heap_alloc2_new _ _ _) h9.out))
  clear hW hc hv hO hK
  go_enter Tryd.func14, Tryd.ntmps14
  go_upto_region 1 with (fail)
  rw [HW.out]
  obtain ⟨zc0, zc1⟩ := kC.out _ HB_0
  go_wp2_with fail
  refine (tval_any O os n c K hs m d hn hm hI hb1 hb2 false hr _ (kD.out _ HB_0) (kOs.out _ HB_0) (kHs.out _ HB_0)).mono ?_
  rintro e w1 ⟨rfl, hb0⟩
  have HB_1 := Lib.hid (below_ext HB_0.out hb0)
  clear zc0 zc1
  clear hb0
  obtain ⟨zc0, zc1⟩ := kC.out _ HB_1
  have HRF := kRB.out _ HB_1
  have hbF := below_setRow' (below_ext HBw.out HB_1.out) (cs := arr .u8 (zer 32)) (Nat.le_add_right w.heap.size 1)
  go_wp2_with ((with_reducible show wpList _ _ _ (⟨none, _, _, _, _, _⟩ :: _) _ _); refine wpList_store_row rfl 42 _ _ rfl (w.heap.size + 1) (arr .u8 (zer 32)) rfl rfl _ _ HRF.out (hash_info (by simp [zer])) rfl (arr_one _) ?_)
  have hrw := HRF.out.setRow (l' := (zer 32))
  exact bodyPost_ret (v := .agg (arr .u8 (zer 32))) (results_cell1 (p := 2) (ty := 42) rfl _ _ ⟨w.heap.size + 1, 0, none⟩ _ rfl (run_loadVar_row _ _ _ _ _ _ _ hrw Tryd.underlying42 rfl (hash_info (by simp [zer])))) rfl ⟨rfl, hbF⟩
set_option maxHeartbeats 6400000 in
theorem dig_t (O : Option Addr) (os : List OrdR) (n c : Nat) (K : Option Addr) (hs : List (List Int)) (m d : Nat) (hn : Hid (os.length = n)) (hm : Hid (hs.length = m)) (hI : ∀ k, k < n → OrdI (orL os k)) (hb1 : n ≤ 1000000) (hb2 : m ≤ 1000000) (hl32 : (befL hs m).length = 32) (hr : Kp (trlB os hs = true)) (w : World) (hv : Hid (VarsD w)) (hO : Hid (Os w O os)) (hK : Hid (Hs w K hs)) :
    Calls Tryd.prog 14 #[tlV O n c K m d] w fun e' w' => e' = .returned (.agg (arr .u8 (befL hs m))) ∧ Below w.heap.size w w' := by
  obtain ⟨w0, hW⟩ : ∃ W, ((w.alloc (tlO O n c K m d)).alloc (.cells #[.int .u8 0, .int .u8 0, .int .u8 0, .int .u8 0, .int .u8 0, .int .u8 0, .int .u8 0, .int .u8 0, .int .u8 0, .int .u8 0, .int .u8 0, .int .u8 0, .int .u8 0, .int .u8 0, .int .u8 0, .int .u8 0, .int .u8 0, .int .u8 0, .int .u8 0, .int .u8 0, .int .u8 0, .int .u8 0, .int .u8 0, .int .u8 0, .int .u8 0, .int .u8 0, .int .u8 0, .int .u8 0, .int .u8 0, .int .u8 0, .int .u8 0, .int .u8 0] 42)) = W := ⟨_, rfl⟩
  have HBw : Hid (Below w.heap.size w w0) := Lib.hid (by rw [← hW]; exact below_two (Below.refl _ _))
  have hc : w0.cell? ⟨w.heap.size, 0, none⟩ = some (.slice O n c) ∧ w0.cell? ⟨w.heap.size, 1, none⟩ = some (.slice K m d) := by rw [← hW]; exact ⟨cell_below (allocs_cell (by simp) (by rfl)) (below_box0 _ _), cell_below (allocs_cell (by simp) (by rfl)) (below_box0 _ _)⟩
  have kC := Lib.hid (show ∀ u : World, Hid (Below w0.heap.size w0 u) → u.cell? ⟨w.heap.size, 0, none⟩ = some (.slice O n c) ∧ u.cell? ⟨w.heap.size, 1, none⟩ = some (.slice K m d) from fun u h => ⟨cell_below hc.1 h.out, cell_below hc.2 h.out⟩)
  have kD := Lib.hid (show ∀ u : World, Hid (Below w0.heap.size w0 u) → Hid (VarsD u) from fun u h => Lib.hid ((hv.out.below) (below_ext HBw.out h.out)))
  have kOs := Lib.hid (show ∀ u : World, Hid (Below w0.heap.size w0 u) → Hid (Os u O os) from fun u h => Lib.hid ((hO.out.below) (below_ext HBw.out h.out)))
  have kHs := Lib.hid (show ∀ u : World, Hid (Below w0.heap.size w0 u) → Hid (Hs u K hs) from fun u h => Lib.hid ((hK.out.below) (below_ext HBw.out h.out)))
  have HB_0 : Hid (Below w0.heap.size w0 w0) := Lib.hid (Below.refl _ _)
  have HW := Lib.hid hW
  have kRB := Lib.hid (show ∀ u : World, Hid (Below w0.heap.size w0 u) → Hid (Blk .u8 42 u (w.heap.size + 1) (zer 32)) from fun u h9 => Lib.hid (Blk.below (by rw [← hW, zarrh]; exact heap_alloc2_new _ _ _) h9.out))
  clear hW hc hv hO hK
  go_enter Tryd.func14, Tryd.ntmps14
  go_upto_region 1 with (fail)
  rw [HW.out]
  obtain ⟨zc0, zc1⟩ := kC.out _ HB_0
  go_wp2_with fail
  refine (tval_any O os n c K hs m d hn hm hI hb1 hb2 true hr _ (kD.out _ HB_0) (kOs.out _ HB_0) (kHs.out _ HB_0)).mono ?_
  rintro e w1 ⟨rfl, hb0⟩
  have HB_1 := Lib.hid (below_ext HB_0.out hb0)
  clear zc0 zc1
  clear hb0
  obtain ⟨zc0, zc1⟩ := kC.out _ HB_1
  go_wp2_with fail
  refine (before_any O n c K hs m d m hm (Nat.le_refl _) hb2 _ (kHs.out _ HB_1)).mono ?_
  rintro e w2 ⟨rfl, hb0⟩
  have HB_2 := Lib.hid (below_ext HB_1.out hb0)
  clear zc0 zc1
  clear hb0
  obtain ⟨zc0, zc1⟩ := kC.out _ HB_2
  obtain ⟨hq9, hhq⟩ : ∃ x, befL hs m = x := ⟨_, rfl⟩
  rw [hhq] at hl32
  rw [hhq]
  have HHQ := Lib.hid hhq
  clear hhq
  have HRF := kRB.out _ HB_2
  have hbF := below_setRow' (below_ext HBw.out HB_2.out) (cs := arr .u8 hq9) (Nat.le_add_right w.heap.size 1)
  go_wp2_with ((with_reducible show wpList _ _ _ (⟨none, _, _, _, _, _⟩ :: _) _ _); refine wpList_store_row rfl 42 _ _ rfl (w.heap.size + 1) (arr .u8 hq9) rfl rfl _ _ HRF.out (hash_info hl32) (arrs_sz (by simp [zer]) hl32) (arr_one _) ?_)
  have hrw := HRF.out.setRow (l' := hq9)
  exact bodyPost_ret (v := .agg (arr .u8 hq9)) (results_cell1 (p := 2) (ty := 42) rfl _ _ ⟨w.heap.size + 1, 0, none⟩ _ rfl (run_loadVar_row _ _ _ _ _ _ _ hrw Tryd.underlying42 rfl (hash_info hl32))) rfl ⟨by rw [HHQ.out], hbF⟩
set_option maxHeartbeats 6400000 in
theorem tlab_1 (O : Option Addr) (os : List OrdR) (n c : Nat) (K : Option Addr) (hs : List (List Int)) (m d : Nat) (hn : Hid (os.length = n)) (hm : Hid (hs.length = m)) (hI : ∀ k, k < n → OrdI (orL os k)) (hb1 : n ≤ 1000000) (hb2 : m ≤ 1000000) (i : Int) (hr : Kp (trlB os hs = false)) (w : World) (hv : Hid (VarsD w)) (hO : Hid (Os w O os)) (hK : Hid (Hs w K hs)) :
    Calls Tryd.prog 8 #[tlV O n c K m d, .int .i64 i] w fun e' w' => e' = .returned (.tuple #[.string ⟨#[]⟩, .int .i64 1]) ∧ Below w.heap.size w w' := by
  obtain ⟨w0, HW, HBw, kC⟩ := stTl O n c K m d w
  have kD := Lib.hid (show ∀ u : World, Hid (Below w0.heap.size w0 u) → Hid (VarsD u) from fun u h => Lib.hid ((hv.out.below) (below_ext HBw.out h.out)))
  have kOs := Lib.hid (show ∀ u : World, Hid (Below w0.heap.size w0 u) → Hid (Os u O os) from fun u h => Lib.hid ((hO.out.below) (below_ext HBw.out h.out)))
  have kHs := Lib.hid (show ∀ u : World, Hid (Below w0.heap.size w0 u) → Hid (Hs u K hs) from fun u h => Lib.hid ((hK.out.below) (below_ext HBw.out h.out)))
  have HB_0 : Hid (Below w0.heap.size w0 w0) := Lib.hid (Below.refl _ _)
  clear hv hO hK
  go_enter Tryd.func8, Tryd.ntmps8
  go_upto_region 1 with (fail)
  rw [HW.out]
  obtain ⟨zc0, zc1⟩ := kC.out _ HB_0
  go_wp2_with fail
  refine (tval_any O os n c K hs m d hn hm hI hb1 hb2 false hr _ (kD.out _ HB_0) (kOs.out _ HB_0) (kHs.out _ HB_0)).mono ?_
  rintro e w1 ⟨rfl, hb0⟩
  have HB_1 := Lib.hid (below_ext HB_0.out hb0)
  clear zc0 zc1
  clear hb0
  obtain ⟨zc0, zc1⟩ := kC.out _ HB_1
  have hbF := below_ext HBw.out HB_1.out
  go_wp2
  go_ret2
  exact ⟨rfl, hbF⟩
set_option maxHeartbeats 6400000 in
theorem tlab_2 (O : Option Addr) (os : List OrdR) (n c : Nat) (K : Option Addr) (hs : List (List Int)) (m d : Nat) (hn : Hid (os.length = n)) (hm : Hid (hs.length = m)) (hI : ∀ k, k < n → OrdI (orL os k)) (hb1 : n ≤ 1000000) (hb2 : m ≤ 1000000) (i : Int) (h : i < 0) (hr : Kp (trlB os hs = true)) (w : World) (hv : Hid (VarsD w)) (hO : Hid (Os w O os)) (hK : Hid (Hs w K hs)) :
    Calls Tryd.prog 8 #[tlV O n c K m d, .int .i64 i] w fun e' w' => e' = .returned (.tuple #[.string ⟨#[]⟩, .int .i64 7]) ∧ Below w.heap.size w w' := by
  have e1 : decide (i < 0) = true := by simpa using h
  obtain ⟨w0, HW, HBw, kC⟩ := stTl O n c K m d w
  have kD := Lib.hid (show ∀ u : World, Hid (Below w0.heap.size w0 u) → Hid (VarsD u) from fun u h => Lib.hid ((hv.out.below) (below_ext HBw.out h.out)))
  have kOs := Lib.hid (show ∀ u : World, Hid (Below w0.heap.size w0 u) → Hid (Os u O os) from fun u h => Lib.hid ((hO.out.below) (below_ext HBw.out h.out)))
  have kHs := Lib.hid (show ∀ u : World, Hid (Below w0.heap.size w0 u) → Hid (Hs u K hs) from fun u h => Lib.hid ((hK.out.below) (below_ext HBw.out h.out)))
  have HB_0 : Hid (Below w0.heap.size w0 w0) := Lib.hid (Below.refl _ _)
  clear hv hO hK
  go_enter Tryd.func8, Tryd.ntmps8
  go_upto_region 1 with (fail)
  rw [HW.out]
  obtain ⟨zc0, zc1⟩ := kC.out _ HB_0
  go_wp2_with fail
  refine (tval_any O os n c K hs m d hn hm hI hb1 hb2 true hr _ (kD.out _ HB_0) (kOs.out _ HB_0) (kHs.out _ HB_0)).mono ?_
  rintro e w1 ⟨rfl, hb0⟩
  have HB_1 := Lib.hid (below_ext HB_0.out hb0)
  clear zc0 zc1
  clear hb0
  obtain ⟨zc0, zc1⟩ := kC.out _ HB_1
  have hbF := below_ext HBw.out HB_1.out
  go_wp2
  go_ret2
  exact ⟨rfl, hbF⟩
set_option maxHeartbeats 6400000 in
theorem tlab_3 (O : Option Addr) (os : List OrdR) (n c : Nat) (K : Option Addr) (hs : List (List Int)) (m d : Nat) (hn : Hid (os.length = n)) (hm : Hid (hs.length = m)) (hI : ∀ k, k < n → OrdI (orL os k)) (hb1 : n ≤ 1000000) (hb2 : m ≤ 1000000) (i : Int) (h0 : 0 ≤ i) (h : (n : Int) ≤ i) (hr : Kp (trlB os hs = true)) (w : World) (hv : Hid (VarsD w)) (hO : Hid (Os w O os)) (hK : Hid (Hs w K hs)) :
    Calls Tryd.prog 8 #[tlV O n c K m d, .int .i64 i] w fun e' w' => e' = .returned (.tuple #[.string ⟨#[]⟩, .int .i64 7]) ∧ Below w.heap.size w w' := by
  have e1 : decide (i < 0) = false := by simp; omega
  have e2 : decide ((n : Int) ≤ i) = true := by simpa using h
  obtain ⟨w0, HW, HBw, kC⟩ := stTl O n c K m d w
  have kD := Lib.hid (show ∀ u : World, Hid (Below w0.heap.size w0 u) → Hid (VarsD u) from fun u h => Lib.hid ((hv.out.below) (below_ext HBw.out h.out)))
  have kOs := Lib.hid (show ∀ u : World, Hid (Below w0.heap.size w0 u) → Hid (Os u O os) from fun u h => Lib.hid ((hO.out.below) (below_ext HBw.out h.out)))
  have kHs := Lib.hid (show ∀ u : World, Hid (Below w0.heap.size w0 u) → Hid (Hs u K hs) from fun u h => Lib.hid ((hK.out.below) (below_ext HBw.out h.out)))
  have HB_0 : Hid (Below w0.heap.size w0 w0) := Lib.hid (Below.refl _ _)
  clear hv hO hK
  go_enter Tryd.func8, Tryd.ntmps8
  go_upto_region 1 with (fail)
  rw [HW.out]
  obtain ⟨zc0, zc1⟩ := kC.out _ HB_0
  go_wp2_with fail
  refine (tval_any O os n c K hs m d hn hm hI hb1 hb2 true hr _ (kD.out _ HB_0) (kOs.out _ HB_0) (kHs.out _ HB_0)).mono ?_
  rintro e w1 ⟨rfl, hb0⟩
  have HB_1 := Lib.hid (below_ext HB_0.out hb0)
  clear zc0 zc1
  clear hb0
  obtain ⟨zc0, zc1⟩ := kC.out _ HB_1
  have hbF := below_ext HBw.out HB_1.out
  go_wp2
  go_ret2
  exact ⟨rfl, hbF⟩
set_option maxHeartbeats 6400000 in
theorem tlab_4 (O : Option Addr) (os : List OrdR) (n c : Nat) (K : Option Addr) (hs : List (List Int)) (m d : Nat) (hn : Hid (os.length = n)) (hm : Hid (hs.length = m)) (hI : ∀ k, k < n → OrdI (orL os k)) (hb1 : n ≤ 1000000) (hb2 : m ≤ 1000000) (i : Nat) (hi : i < n) (him : i ≤ m) (h : List Int) (hh : Hid (befL hs i = h)) (hl : Hid (h.length = 32)) (hb : Hid (bytesB h = true)) (o : OrdR) (ho : Hid (orL os i = o)) (hSo : OrdS o) (hr : Kp (trlB os hs = true)) (w : World) (hv : Hid (VarsD w)) (hO : Hid (Os w O os)) (hK : Hid (Hs w K hs)) :
    Calls Tryd.prog 8 #[tlV O n c K m d, .int .i64 (i : Int)] w fun e' w' => e' = .returned (.tuple #[.string (lbS h o), .int .i64 0]) ∧ Below w.heap.size w w' := by
  have e1 : decide ((i : Int) < 0) = false := by simp
  have e2 : decide ((n : Int) ≤ (i : Int)) = false := by simp; omega
  obtain ⟨w0, HW, HBw, kC⟩ := stTl O n c K m d w
  have kD := Lib.hid (show ∀ u : World, Hid (Below w0.heap.size w0 u) → Hid (VarsD u) from fun u h => Lib.hid ((hv.out.below) (below_ext HBw.out h.out)))
  have kOs := Lib.hid (show ∀ u : World, Hid (Below w0.heap.size w0 u) → Hid (Os u O os) from fun u h => Lib.hid ((hO.out.below) (below_ext HBw.out h.out)))
  have kHs := Lib.hid (show ∀ u : World, Hid (Below w0.heap.size w0 u) → Hid (Hs u K hs) from fun u h => Lib.hid ((hK.out.below) (below_ext HBw.out h.out)))
  have HB_0 : Hid (Below w0.heap.size w0 w0) := Lib.hid (Below.refl _ _)
  clear hv hO hK
  go_enter Tryd.func8, Tryd.ntmps8
  go_upto_region 1 with (fail)
  rw [HW.out]
  obtain ⟨zc0, zc1⟩ := kC.out _ HB_0
  go_wp2_with fail
  refine (tval_any O os n c K hs m d hn hm hI hb1 hb2 true hr _ (kD.out _ HB_0) (kOs.out _ HB_0) (kHs.out _ HB_0)).mono ?_
  rintro e w1 ⟨rfl, hb0⟩
  have HB_1 := Lib.hid (below_ext HB_0.out hb0)
  clear zc0 zc1
  clear hb0
  obtain ⟨zc0, zc1⟩ := kC.out _ HB_1
  obtain ⟨bO, fO, hOe, _, _⟩ := ((kOs.out _ HB_1)).out i (by rw [hn.out]; exact hi)
  subst hOe
  go_wp2_with fail
  refine (label_any bO fO os n c K hs m d i hn hm hi him hb1 hb2 h hh hl hb o ho (Lib.hid (by have := hI i hi; rw [ho.out] at this; exact this)) hSo _ (kD.out _ HB_1) (kOs.out _ HB_1) (kHs.out _ HB_1)).mono ?_
  rintro e w2 ⟨rfl, hb0⟩
  have HB_2 := Lib.hid (below_ext HB_1.out hb0)
  clear zc0 zc1
  clear hb0
  obtain ⟨zc0, zc1⟩ := kC.out _ HB_2
  have hbF := below_ext HBw.out HB_2.out
  go_wp2
  go_ret2
  exact ⟨rfl, hbF⟩
set_option maxHeartbeats 6400000 in
theorem trc_f (O : Option Addr) (os : List OrdR) (n c : Nat) (K : Option Addr) (hs : List (List Int)) (m d : Nat) (hn : Hid (os.length = n)) (hm : Hid (hs.length = m)) (hI : ∀ k, k < n → OrdI (orL os k)) (hb1 : n ≤ 1000000) (hb2 : m ≤ 1000000) (hr : Kp (trlB os hs = false)) (w : World) (hv : Hid (VarsD w)) (hO : Hid (Os w O os)) (hK : Hid (Hs w K hs)) :
    Calls Tryd.prog 9 #[tlV O n c K m d] w fun e' w' => e' = .returned (.slice none 0 0) ∧ Below w.heap.size w w' := by
  obtain ⟨w0, HW, HBw, kC⟩ := stTl O n c K m d w
  have kD := Lib.hid (show ∀ u : World, Hid (Below w0.heap.size w0 u) → Hid (VarsD u) from fun u h => Lib.hid ((hv.out.below) (below_ext HBw.out h.out)))
  have kOs := Lib.hid (show ∀ u : World, Hid (Below w0.heap.size w0 u) → Hid (Os u O os) from fun u h => Lib.hid ((hO.out.below) (below_ext HBw.out h.out)))
  have kHs := Lib.hid (show ∀ u : World, Hid (Below w0.heap.size w0 u) → Hid (Hs u K hs) from fun u h => Lib.hid ((hK.out.below) (below_ext HBw.out h.out)))
  have HB_0 : Hid (Below w0.heap.size w0 w0) := Lib.hid (Below.refl _ _)
  clear hv hO hK
  go_enter Tryd.func9, Tryd.ntmps9
  go_upto_region 1 with (fail)
  rw [HW.out]
  obtain ⟨zc0, zc1⟩ := kC.out _ HB_0
  go_wp2_with fail
  refine (tval_any O os n c K hs m d hn hm hI hb1 hb2 false hr _ (kD.out _ HB_0) (kOs.out _ HB_0) (kHs.out _ HB_0)).mono ?_
  rintro e w1 ⟨rfl, hb0⟩
  have HB_1 := Lib.hid (below_ext HB_0.out hb0)
  clear zc0 zc1
  clear hb0
  obtain ⟨zc0, zc1⟩ := kC.out _ HB_1
  have hbF := below_ext HBw.out HB_1.out
  go_wp2
  go_ret
  exact ⟨rfl, hbF⟩
def TrcOut (xs : List Int) (w : World) (e : Ending) (w' : World) : Prop := ∃ A c, e = .returned (.slice A xs.length c) ∧ Sl w' A xs ∧ Below w.heap.size w w'
set_option maxHeartbeats 12800000 in
theorem trc_t (O : Option Addr) (os : List OrdR) (n c : Nat) (K : Option Addr) (hs : List (List Int)) (m d : Nat) (hn : Hid (os.length = n)) (hm : Hid (hs.length = m)) (hI : ∀ k, k < n → OrdI (orL os k)) (hb1 : n ≤ 1000000) (hb2 : m ≤ 1000000) (hr : Kp (trlB os hs = true)) (w : World) (hv : Hid (VarsD w)) (hO : Hid (Os w O os)) (hK : Hid (Hs w K hs)) :
    Calls Tryd.prog 9 #[tlV O n c K m d] w (TrcOut (trcL os n) w) := by
  obtain ⟨i0, hi, hz0, hz1, hz2⟩ := info_parts intInfoX
  obtain ⟨w0, HW, HBw, kC⟩ := stTl O n c K m d w
  have kD := Lib.hid (show ∀ u : World, Hid (Below w0.heap.size w0 u) → Hid (VarsD u) from fun u h => Lib.hid ((hv.out.below) (below_ext HBw.out h.out)))
  have kOs := Lib.hid (show ∀ u : World, Hid (Below w0.heap.size w0 u) → Hid (Os u O os) from fun u h => Lib.hid ((hO.out.below) (below_ext HBw.out h.out)))
  have kHs := Lib.hid (show ∀ u : World, Hid (Below w0.heap.size w0 u) → Hid (Hs u K hs) from fun u h => Lib.hid ((hK.out.below) (below_ext HBw.out h.out)))
  have HB_0 : Hid (Below w0.heap.size w0 w0) := Lib.hid (Below.refl _ _)
  clear hv hO hK
  go_enter Tryd.func9, Tryd.ntmps9
  go_upto_region 1 with (fail)
  rw [HW.out]
  obtain ⟨zc0, zc1⟩ := kC.out _ HB_0
  go_wp2_with fail
  refine (tval_any O os n c K hs m d hn hm hI hb1 hb2 true hr _ (kD.out _ HB_0) (kOs.out _ HB_0) (kHs.out _ HB_0)).mono ?_
  rintro e w1 ⟨rfl, hb0⟩
  have HB_1 := Lib.hid (below_ext HB_0.out hb0)
  clear zc0 zc1
  clear hb0
  obtain ⟨zc0, zc1⟩ := kC.out _ HB_1
  go_wp2
  have HB1 := HB_1
  clear zc0 zc1
  go_loopw [3, 12] (fun v i u => ∃ k : Nat, k ≤ n ∧ i = .int .i64 k ∧ Hid (OwnL u w1.heap.size v (trcL os k)) ∧ Hid (Below w1.heap.size w1 u)) (fun _ i _ => n - (intOf i).toNat)
  case atStart => exact ⟨0, by omega, rfl, Lib.hid (ownL_nil _ _), Lib.hid (Below.refl _ _)⟩
  case round =>
    obtain ⟨k, hk, rfl, HOW, HBr⟩ := hrel
    have HBq : Hid (Below w0.heap.size w0 wr) := Lib.hid (below_ext HB1.out HBr.out)
    by_cases hlt : k < n
    · obtain ⟨bO, fO, hOe, hnine, _⟩ := (kOs.out _ HBq).out k (by rw [hn.out]; exact hlt)
      subst hOe
      obtain ⟨o, hoe⟩ : ∃ x, orL os k = x := ⟨_, rfl⟩
      rw [show os.getD k noOrd = o from hoe] at hnine
      have HST : Hid (trcL os (k + 1) = if o.key = 0 then trcL os k else trcL os k ++ [o.key]) := Lib.hid (by rw [trcL, hoe])
      have HLN := Lib.hid (trcL_len os k)
      obtain ⟨T, hT⟩ : ∃ x, trcL os k = x := ⟨_, rfl⟩
      rw [hT] at HST HOW HLN
      clear hoe hT
      obtain ⟨j0, j1, j2, j3, j4, j5, j6, j7, j8⟩ := hnine
      have HBa := Lib.hid (below_box0 wr (orO o))
      have hb5 : (wr.alloc (orO o)).heap[wr.heap.size]? = some (orO o) := heap_alloc_new _ _
      have x8 : (wr.alloc (orO o)).cell? ⟨wr.heap.size, 8, none⟩ = some (.int .i64 o.key) := cell_blk hb5 8
      clear hb5
      cases hk0 : (o.key == 0) with
      | true =>
        have e3 : (o.key != 0) = false := by rw [bne, hk0]; rfl
        have HT2 : Hid (OwnL (wr.alloc (orO o)) w1.heap.size u3 (trcL os (k + 1))) := Lib.hid (by rw [HST.out, if_pos (by simpa using hk0)]; exact HOW.out.keep HBa.out)
        have HB2 : Hid (Below w1.heap.size w1 (wr.alloc (orO o))) := Lib.hid (below_ext HBr.out HBa.out)
        clear hk0
        go_wp2
        go_roundw
        case rel => exact ⟨k + 1, by omega, by go_num, HT2, HB2⟩
        case measure => simp [intOf]; omega
      | false =>
        have e3 : (o.key != 0) = true := by rw [bne, hk0]; rfl
        have HST2 : Hid (trcL os (k + 1) = T ++ [o.key]) := Lib.hid (by rw [HST.out, if_neg (by simpa using hk0)])
        clear hk0
        obtain ⟨q, hq⟩ : ∃ x, T.length = x := ⟨_, rfl⟩
        have HQ := Lib.hid hq
        have hql : q ≤ k := by rw [← hq]; exact HLN.out
        have HOA : Hid (OwnL (wr.alloc (orO o)) w1.heap.size u3 T) := Lib.hid (HOW.out.keep HBa.out)
        have hbs : w1.heap.size ≤ (wr.alloc (orO o)).heap.size := by have := HBr.out.size; simp; omega
        have hown : (wr.alloc (orO o)).ownsRow w1.heap.size 3 1 u3 q (T.map (Value.int .i64)) := by
          have h3 := HOA.out
          unfold OwnL at h3
          rwa [hq] at h3
        clear hq
        go_upto_region 8 with (fail)
        obtain ⟨wx, hwx⟩ : ∃ x, wr.alloc (orO o) = x := ⟨_, rfl⟩
        rw [hwx] at x8 hown HOA HBa hbs ⊢
        clear hwx j0 j1 j2 j3 j4 j5 j6 j7 j8
        go_wp2_with (at_builtin; refine wpList_append_own _ rfl _ _ 26 rfl w1.heap.size 3 i0 (.int .i64 0) 1 8 Tryd.underlying26 hi hz0 hz1 hz2 rfl (by decide) _ _ _ rfl (hown.alloc _) ⟨wx.heap.size, 0, none⟩ 1 1 [.int .i64 o.key] rfl rfl (cell_one_new _ _ _) (ints_oneCell .i64 [o.key]) (by unfold maxLen; omega) (by omega) (by simp; omega) ?_; intro v' w3 hown1 hgrow1 _)
        have HT2 : Hid (OwnL w3 w1.heap.size v' (trcL os (k + 1))) := Lib.hid (by rw [HST2.out]; exact OwnL.app HQ.out.symm hown1)
        have HB2 : Hid (Below w1.heap.size w1 w3) := Lib.hid (HOA.out.below (below_ext HBr.out HBa.out) hbs hgrow1)
        clear hown hown1 hgrow1
        go_roundw
        case rel => exact ⟨k + 1, by omega, by go_num, HT2, HB2⟩
        case measure => simp [intOf]; omega
    · have hke : k = n := by omega
      rw [hke] at HOW
      obtain ⟨A9, c9, hv9, hs9, hg9⟩ := OwnL.sl HOW.out
      subst hv9
      have hbF := below_ext HBw.out HBq.out
      go_wp2
      go_ret
      exact ⟨A9, c9, rfl, hs9, hbF⟩
theorem sl_old {wB w : World} {D : Nat → Prop} {A : Option Addr} {xs : List Int} (h : Sl wB A xs) (hb : Below wB.heap.size wB w) (hD : ∀ b, b < wB.heap.size → ¬ D b) : Dep D w (fun u => Sl u A xs) := by
  refine sl_dep (h.below hb) fun b o e h0 => ?_
  obtain ⟨b', o', e', hc⟩ := h 0 h0
  rw [e] at e'
  cases e'
  exact hD _ (World.block_lt_of_cell? _ _ hc)
set_option maxHeartbeats 25600000 in
theorem copy_c (ix : Nat) (O : Option Addr) (os : List OrdR) (n c : Nat) (K : Option Addr) (hs : List (List Int)) (m d : Nat) (hn : Hid (os.length = n)) (hm : Hid (hs.length = m)) (hb1 : n ≤ 1000000) (hb2 : m ≤ 1000000) (hb3 : ∀ k, k < n → (orL os k).np ≤ 1000000) (wB : World) (hOB : Hid (Os wB O os)) (w : World) (hbB : Hid (Below wB.heap.size wB w)) (hK : Hid (Hs w K hs)) :
    Calls Tryd.prog 19 #[tlV O n c K m d] w (ClOut wB.heap.size ix os n hs m w) := by
  obtain ⟨w0, hW⟩ : ∃ W, ((w.alloc (tlO O n c K m d)).alloc (.cells #[.slice none 0 0, .slice none 0 0] 25)) = W := ⟨_, rfl⟩
  have HBw : Hid (Below w.heap.size w w0) := Lib.hid (by rw [← hW]; exact below_two (Below.refl _ _))
  have hc : w0.cell? ⟨w.heap.size, 0, none⟩ = some (.slice O n c) ∧ w0.cell? ⟨w.heap.size, 1, none⟩ = some (.slice K m d) ∧ Own w0 ⟨w.heap.size + 1, 0, none⟩ (.slice none 0 0) ∧ Own w0 ⟨w.heap.size + 1, 1, none⟩ (.slice none 0 0) := by rw [← hW]; exact ⟨cell_below (allocs_cell (by simp) (by rfl)) (below_box0 _ _), cell_below (allocs_cell (by simp) (by rfl)) (below_box0 _ _), allocs_own (by simp) (by rfl), allocs_own (by simp) (by rfl)⟩
  have kC := Lib.hid (show ∀ u : World, Hid (Below w0.heap.size w0 u) → u.cell? ⟨w.heap.size, 0, none⟩ = some (.slice O n c) ∧ u.cell? ⟨w.heap.size, 1, none⟩ = some (.slice K m d) ∧ Own u ⟨w.heap.size + 1, 0, none⟩ (.slice none 0 0) ∧ Own u ⟨w.heap.size + 1, 1, none⟩ (.slice none 0 0) from fun u h => ⟨cell_below hc.1 h.out, cell_below hc.2.1 h.out, (hc.2.2.1).below h.out, (hc.2.2.2).below h.out⟩)
  have kHs := Lib.hid (show ∀ u : World, Hid (Below w0.heap.size w0 u) → Hid (Hs u K hs) from fun u h => Lib.hid ((hK.out.below) (below_ext HBw.out h.out)))
  have kOs := Lib.hid (show ∀ u : World, Hid (Below w0.heap.size w0 u) → Hid (Os u O os) from fun u h => Lib.hid (((hOB.out.below hbB.out).below) (below_ext HBw.out h.out)))
  have HB_0 : Hid (Below w0.heap.size w0 w0) := Lib.hid (Below.refl _ _)
  have HW := Lib.hid hW
  have kRB := Lib.hid (show ∀ u : World, Hid (Below w0.heap.size w0 u) → Hid (u.heap[w.heap.size + 1]? = some (.cells #[.slice none 0 0, .slice none 0 0] 25)) from fun u h => Lib.hid (blk_below (by rw [← hW]; exact heap_alloc2_new _ _ _) h.out))
  clear hW hc hK
  have HSZ0 : Hid (w0.heap.size = w.heap.size + 2) := Lib.hid (by rw [← HW.out]; simp)
  have HBB : Hid (∀ u : World, Hid (Below w0.heap.size w0 u) → Below wB.heap.size wB u) := Lib.hid (fun u h => below_ext hbB.out (below_ext HBw.out h.out))
  have HLW : Hid (wB.heap.size ≤ w.heap.size) := Lib.hid hbB.out.size
  obtain ⟨i0, hi, hz0, hz1, hz2⟩ := info_parts hshInfo
  obtain ⟨i1, hi1, hy0, hy1, hy2⟩ := info_parts ordInfo
  obtain ⟨i2, hi2, hx0, hx1, hx2⟩ := info_parts prtInfo
  have hq0 := below_box0 w0 (.cells #[] 42)
  have HB_1 := Lib.hid (below_ext HB_0.out hq0)
  clear hq0
  have hrow : (w0.alloc (.cells #[] 42)).ownsRow w0.heap.size 42 32 (.slice (some ⟨w0.heap.size, 0, none⟩) 0 0) 0 [] := World.ownsRow_lit w0 #[] 0 (Nat.le_refl _) (by decide) rfl
  have hnw := hs_news ((kHs.out _ HB_1)).out hm.out
  have hln : (hs.flatMap hshC).length = m * 32 := by rw [flat_len hshC 32 hs (fun x hx => by rw [hshC, List.length_map]; exact hs_lens ((kHs.out _ HB_1)).out x hx), hm.out]
  have b1 : 0 + m ≤ maxLen := by unfold maxLen; omega
  have b2 : (0 + m) * 32 ≤ 140737488355328 := by omega
  go_enter Tryd.func19, Tryd.ntmps19
  go_upto_region 1 with (fail)
  rw [HW.out]
  obtain ⟨zc0, zc1, ⟨zc2, zf2⟩, ⟨zc3, zf3⟩⟩ := kC.out _ HB_1
  go_upto_region 2 with (at_builtin; refine wpList_append_all rfl _ _ 23 rfl w0.heap.size 42 i0 (.agg (arr .u8 (zer 32))) 32 32 Tryd.underlying23 hi hz0 hz1 hz2 (by rfl) (by decide) _ _ _ rfl hrow K m d _ rfl hln hnw (hsh_one _) b1 b2 (by simp) ?_; intro A1 c1 w1 hown1 hgrow1 hgg1)
  clear zc0 zc1 zc2 zf2 zc3 zf3
  have HB1 : Hid (Below w0.heap.size w0 w1) := Lib.hid (((Below.refl w0.heap.size w0).alloc (Nat.le_refl _) (.cells #[] 42)).grown hgrow1 (by simp) (fun j hj => by cases hj; exact Nat.le_refl _))
  have hk1 : w1.ownsRow w0.heap.size 42 32 (.slice A1 m c1) m (hs.flatMap hshC) := by simpa using hown1
  have HKL := Lib.hid (own_slice hk1)
  have HK1 := Lib.hid hk1
  obtain ⟨B, hB⟩ : ∃ x, w1.heap.size = x := ⟨_, rfl⟩
  obtain ⟨W, hW⟩ : ∃ x, w1.alloc (.cells #[.slice none 0 0, .slice A1 m c1] 25) = x := ⟨_, rfl⟩
  have HSB : Hid (W.heap.size = B + 1 ∧ w0.heap.size ≤ B) := Lib.hid ⟨by rw [← hW, ← hB]; simp, by rw [← hB]; exact HB1.out.size⟩
  have hbk : W.heap[B]? = some (.cells #[.slice none 0 0, .slice A1 m c1] 25) := by rw [← hW, ← hB]; exact heap_alloc_new _ _
  have HV0 : Hid (Own W ⟨B, 0, none⟩ (.slice none 0 0)) := Lib.hid ⟨cell_blk hbk 0, frozen_blk hbk 0⟩
  have HV10 : Hid (Own W ⟨B, 1, none⟩ (.slice A1 m c1)) := Lib.hid ⟨cell_blk hbk 1, frozen_blk hbk 1⟩
  have HBX : Hid (Below w0.heap.size w0 W) := Lib.hid (below_ext HB1.out (by rw [← hW]; exact below_box0 _ _))
  have HKW : Hid (Below w1.heap.size w1 W) := Lib.hid (by rw [← hW]; exact below_box0 _ _)
  have HSB2 := Lib.hid hB
  rw [hW, hB]
  clear hW hB hbk hown1 hgrow1 hgg1 hrow hnw hln b1 b2 hk1
  go_wp2
  go_loopw [4] (fun i u => ∃ (k : Nat) (v : Value) (os' : List OrdR) (Li : Option Nat), k ≤ n ∧ i = .int .i64 k ∧ Hid (os'.length = k) ∧ Hid (Own u ⟨B, 0, none⟩ v) ∧ Hid (Own u ⟨B, 1, none⟩ (.slice A1 m c1)) ∧ Hid (u.ownsRow (B + 1) 46 9 v k (os'.flatMap ordC)) ∧ Hid (ClI wB.heap.size ix B v Li os os' k u) ∧ Hid (Below B W u)) (fun i _ => n - (intOf i).toNat)
  case atStart => exact ⟨0, _, [], none, by omega, rfl, Lib.hid rfl, HV0, HV10, Lib.hid (World.ownsRow_nil _ _ _ _), Lib.hid (ClI.nil _ _ _ _ _ _), Lib.hid (Below.refl _ _)⟩
  case round =>
    obtain ⟨k, v, os', Li, hk, rfl, HCL, HV, HV1, HO, HG, HBr⟩ := hrel
    have HBr0 : Hid (Below w0.heap.size w0 wr) := Lib.hid (HBX.out.trans (HBr.out.mono HSB.out.2))
    have hBW := HBr.out.size
    have hsb := HSB.out
    by_cases hlt : k < n
    · skip
      have hkl : k < os.length := by rw [hn.out]; exact hlt
      obtain ⟨b, f, hA, h9, hok⟩ := (kOs.out _ HBr0).out k hkl
      obtain ⟨_, _, -, -, hokB⟩ := hOB.out k hkl
      subst hA
      have hnp0 := hb3 k hlt
      obtain ⟨o, ho⟩ : ∃ o, os.getD k noOrd = o := ⟨_, rfl⟩
      have HPP : Hid (orL os k = o) := Lib.hid ho
      rw [ho] at h9 hok hokB
      rw [HPP.out] at hnp0
      have HOKB := Lib.hid hokB
      obtain ⟨j0, j1, j2, j3, j4, j5, j6, j7, j8⟩ := h9
      obtain ⟨ok1, ok2, ⟨ok3, okc⟩, ok4, ok5, ok6⟩ := hok
      have HPA := Lib.hid ok6
      have HPN := Lib.hid ok3
      clear ho ok1 ok2 ok3 okc ok4 ok5 ok6 hkl hokB
      obtain ⟨zc0, zc1, ⟨zc2, zf2⟩, ⟨zc3, zf3⟩⟩ := kC.out _ HBr0
      have hq0 := below_box0 wr (orO o)
      have HB_2 := Lib.hid (below_ext HBr0.out hq0)
      clear hq0
      obtain ⟨zc0x, zc1x, ⟨zc2x, zf2x⟩, ⟨zc3x, zf3x⟩⟩ := kC.out _ HB_2
      have hb5 : (wr.alloc (orO o)).heap[wr.heap.size]? = some (orO o) := heap_alloc_new _ _
      have HX0 : Hid (Own (wr.alloc (orO o)) ⟨wr.heap.size, 0, none⟩ (.int .i64 o.num) ∧ Own (wr.alloc (orO o)) ⟨wr.heap.size, 1, none⟩ (.string o.rs) ∧ Own (wr.alloc (orO o)) ⟨wr.heap.size, 2, none⟩ (.int .i64 o.E1) ∧ Own (wr.alloc (orO o)) ⟨wr.heap.size, 3, none⟩ (.int .i64 o.E2) ∧ Own (wr.alloc (orO o)) ⟨wr.heap.size, 4, none⟩ (.slice o.A o.na o.ca) ∧ Own (wr.alloc (orO o)) ⟨wr.heap.size, 5, none⟩ (.int .i64 o.C) ∧ Own (wr.alloc (orO o)) ⟨wr.heap.size, 6, none⟩ (.slice o.Z o.nz o.cz) ∧ Own (wr.alloc (orO o)) ⟨wr.heap.size, 7, none⟩ (.slice o.L o.np o.cp) ∧ Own (wr.alloc (orO o)) ⟨wr.heap.size, 8, none⟩ (.int .i64 o.key)) := Lib.hid ⟨⟨cell_blk hb5 0, frozen_blk hb5 0⟩, ⟨cell_blk hb5 1, frozen_blk hb5 1⟩, ⟨cell_blk hb5 2, frozen_blk hb5 2⟩, ⟨cell_blk hb5 3, frozen_blk hb5 3⟩, ⟨cell_blk hb5 4, frozen_blk hb5 4⟩, ⟨cell_blk hb5 5, frozen_blk hb5 5⟩, ⟨cell_blk hb5 6, frozen_blk hb5 6⟩, ⟨cell_blk hb5 7, frozen_blk hb5 7⟩, ⟨cell_blk hb5 8, frozen_blk hb5 8⟩⟩
      obtain ⟨⟨x0, y0⟩, ⟨x1, y1⟩, ⟨x2, y2⟩, ⟨x3, y3⟩, ⟨x4, y4⟩, ⟨x5, y5⟩, ⟨x6, y6⟩, ⟨x7, y7⟩, ⟨x8, y8⟩⟩ := HX0.out
      clear hb5
      go_upto_region 6 with (fail)
      clear zc0 zc1 zc2 zf2 zc3 zf3 zc0x zc1x zc2x zf2x zc3x zf3x
      clear x0 y0 x1 y1 x2 y2 x3 y3 x4 y4 x5 y5 x6 y6 x7 y7 x8 y8
      obtain ⟨w5, hw5⟩ : ∃ x, wr.alloc (orO o) = x := ⟨_, rfl⟩
      rw [hw5] at HX0 HB_2 ⊢
      have HS5 : Hid (w5.heap.size = wr.heap.size + 1) := Lib.hid (by rw [← hw5]; simp)
      have HB5 : Hid (Below wr.heap.size wr w5) := Lib.hid (by rw [← hw5]; exact below_box0 _ _)
      have HB5w := HB5
      clear hw5 j0 j1 j2 j3 j4 j5 j6 j7 j8
      obtain ⟨X, hX⟩ : ∃ x, wr.heap.size = x := ⟨_, rfl⟩
      rw [hX] at HX0 HS5 HB5 hBW ⊢
      have HXE := Lib.hid hX
      clear hX
      have hrow2 : (w5.alloc (.cells #[] 56)).ownsRow w5.heap.size 56 5 (.slice (some ⟨w5.heap.size, 0, none⟩) 0 0) 0 [] := World.ownsRow_lit w5 #[] 0 (Nat.le_refl _) (by decide) rfl
      have HPA5 := Lib.hid ((HPA.out.below HB5w.out).below (below_box0 w5 (.cells #[] 56)))
      have hnw2 := pa_news HPA5.out HPN.out
      have hln2 : (o.ps.flatMap prtC).length = o.np * 5 := by rw [flat_len prtC 5 o.ps (fun _ _ => rfl), HPN.out]
      have b3 : 0 + o.np ≤ maxLen := by unfold maxLen; omega
      have b4 : (0 + o.np) * 72 ≤ 140737488355328 := by omega
      have hno2 : (Value.slice (some ⟨w5.heap.size, 0, none⟩) 0 0).ownBlock ≠ some X := fun e => by
        have e2 : w5.heap.size = X := by simpa [Value.ownBlock] using e
        have := HS5.out
        omega
      obtain ⟨X0, X1, X2, X3, X4, X5, X6, X7, X8⟩ := HX0.out
      obtain ⟨x7, y7⟩ := X7.below (below_box0 w5 (.cells #[] 56))
      go_upto_region 7 with (at_builtin; refine wpList_append_all rfl _ _ 44 rfl w5.heap.size 56 i2 (.agg #[.int .i64 0, .int .i64 0, .slice none 0 0, .int .i64 0, .slice none 0 0]) 5 72 Tryd.underlying44 hi2 hx0 hx1 hx2 (by rfl) (by decide) _ _ _ rfl hrow2 o.L o.np o.cp _ rfl hln2 hnw2 (prt_one _) b3 b4 (by simp) ?_; intro A2 c2 w6 hown2 hgrow2 hgg2; obtain ⟨q1, q2⟩ := own_grown2 (HX0.out.2.2.2.2.2.2.2.1.below (below_box0 w5 (.cells #[] 56))) hgrow2 hno2)
      have hown3 : w6.ownsRow w5.heap.size 56 5 (.slice A2 o.np c2) o.np (o.ps.flatMap prtC) := by simpa using hown2
      have HB6 : Hid (Below w5.heap.size w5 w6) := Lib.hid (((Below.refl w5.heap.size w5).alloc (Nat.le_refl _) (.cells #[] 56)).grown hgrow2 (by simp) (fun j hj => by cases hj; exact Nat.le_refl _))
      have hz6 := HB6.out.size
      obtain ⟨w7, hw7⟩ : ∃ x, w6.setCell ⟨X, 7, none⟩ (.slice A2 o.np c2) = x := ⟨_, rfl⟩
      have HB7 : Hid (Below wr.heap.size wr w7) := Lib.hid (by rw [← hw7]; refine (below_ext HB5w.out HB6.out).setCell (by rw [HXE.out]; exact Nat.le_refl _) _)
      have hz7 : w7.heap.size = w6.heap.size := by rw [← hw7, World.size_setCell]
      have g6 : ∀ j u9, Own w5 ⟨X, j, none⟩ u9 → Own w6 ⟨X, j, none⟩ u9 := fun j u9 h => h.below HB6.out
      have HX7 : Hid (Own w7 ⟨X, 0, none⟩ (.int .i64 o.num) ∧ Own w7 ⟨X, 1, none⟩ (.string o.rs) ∧ Own w7 ⟨X, 2, none⟩ (.int .i64 o.E1) ∧ Own w7 ⟨X, 3, none⟩ (.int .i64 o.E2) ∧ Own w7 ⟨X, 4, none⟩ (.slice o.A o.na o.ca) ∧ Own w7 ⟨X, 5, none⟩ (.int .i64 o.C) ∧ Own w7 ⟨X, 6, none⟩ (.slice o.Z o.nz o.cz) ∧ Own w7 ⟨X, 7, none⟩ (.slice A2 o.np c2) ∧ Own w7 ⟨X, 8, none⟩ (.int .i64 o.key)) := Lib.hid (by
        rw [← hw7]
        exact ⟨own_set_ne2 (g6 _ _ X0) (by simp), own_set_ne2 (g6 _ _ X1) (by simp), own_set_ne2 (g6 _ _ X2) (by simp), own_set_ne2 (g6 _ _ X3) (by simp), own_set_ne2 (g6 _ _ X4) (by simp), own_set_ne2 (g6 _ _ X5) (by simp), own_set_ne2 (g6 _ _ X6) (by simp), own_set_eq2 (g6 _ _ X7), own_set_ne2 (g6 _ _ X8) (by simp)⟩)
      have HV7 : Hid (Own w7 ⟨B, 0, none⟩ v) := Lib.hid (HV.out.below HB7.out)
      have HV17 : Hid (Own w7 ⟨B, 1, none⟩ (.slice A1 m c1)) := Lib.hid (HV1.out.below HB7.out)
      have HO7 : Hid (w7.ownsRow (B + 1) 46 9 v k (os'.flatMap ordC)) := Lib.hid (World.ownsRow.kept HO.out (gb_below HB7.out none) (own_none _))
      have HLW0 := HLW.out
      have HSZ9 : w.heap.size ≤ w0.heap.size := by have := HSZ0.out; omega
      have hs5 := HS5.out
      have HBB7 : Hid (Below wB.heap.size wB w7) := Lib.hid (below_ext (HBB.out _ HBr0) HB7.out)
      obtain ⟨A9, c9, e9, hc9, hlo9⟩ := own_slice hown3
      cases e9
      have HLO : Hid (∀ b, (Value.slice A2 o.np c2).ownBlock = some b → w5.heap.size ≤ b ∧ b < w7.heap.size) := Lib.hid (fun b e => by have := hlo9 b e; omega)
      have HQ7 : Hid (OrdQ B (fun b => (wB.heap.size ≤ b ∧ b < X) ∨ (Value.slice A2 o.np c2).ownBlock = some b) w7 (reL o A2 c2)) := Lib.hid (by
        have hcl : ∀ b, b < wB.heap.size → ¬ ((wB.heap.size ≤ b ∧ b < X) ∨ (Value.slice A2 o.np c2).ownBlock = some b) := fun b hb e => by
          rcases e with e | e
          · omega
          · have := (HLO.out b e).1; omega
        obtain ⟨p1, p2, p3, p4, p5, p6⟩ := HOKB.out
        refine ⟨p1, p2, p3.1, hc9, sl_old p4 HBB7.out hcl, sl_old p5 HBB7.out hcl, fun w' h' q hq => ?_, ?_⟩
        · obtain ⟨_, _, _, _, _, _, _, _, r1, r2, r3, r4⟩ := p6 q hq
          exact ⟨r1, r2, (sl_old r3 HBB7.out hcl) w' h', (sl_old r4 HBB7.out hcl) w' h'⟩
        · rw [← hw7]
          exact World.ownsRow.kept (own_mono hown3 (by omega)) (grown_set2 _ _ _ _) (Or.inr (fun e => by have := (hlo9 _ e).1; omega)))
      rw [hw7]
      clear hw7 hown2 hown3 hgrow2 hgg2 hrow2 hnw2 hln2 b3 b4 hno2 X0 X1 X2 X3 X4 X5 X6 X7 X8 x7 y7 q1 q2 g6 HX0 hz7 hz6 hc9 hlo9
      obtain ⟨⟨x0, y0⟩, ⟨x1, y1⟩, ⟨x2, y2⟩, ⟨x3, y3⟩, ⟨x4, y4⟩, ⟨x5, y5⟩, ⟨x6, y6⟩, ⟨x7, y7⟩, ⟨x8, y8⟩⟩ := HX7.out
      obtain ⟨v3, v3f⟩ := HV7.out
      have hzB := HB7.out.size
      rw [HXE.out] at hzB
      have hvo : ∀ b9, v.ownBlock = some b9 → B + 1 ≤ b9 ∧ b9 < X := fun b9 e => by have := World.ownsRow.lt HO.out _ e; rw [HXE.out] at this; exact this
      have hown : (w7.alloc (.cells #[.int .i64 o.num, .string o.rs, .int .i64 o.E1, .int .i64 o.E2, .slice o.A o.na o.ca, .int .i64 o.C, .slice o.Z o.nz o.cz, .slice A2 o.np c2, .int .i64 o.key] 46)).ownsRow (B + 1) 46 9 v k (os'.flatMap ordC) := HO7.out.alloc _
      have hno : v.ownBlock ≠ some B := fun e => by have := (hvo _ e).1; omega
      have b5 : k + 1 ≤ maxLen := by unfold maxLen; omega
      have b6 : (k + 1) * 128 ≤ 140737488355328 := by omega
      have b7 : B + 1 ≤ (w7.alloc (.cells #[.int .i64 o.num, .string o.rs, .int .i64 o.E1, .int .i64 o.E2, .slice o.A o.na o.ca, .int .i64 o.C, .slice o.Z o.nz o.cz, .slice A2 o.np c2, .int .i64 o.key] 46)).heap.size := by simp; omega
      go_wp2_with (at_builtin; refine wpList_append_lies rfl _ _ 22 rfl (B + 1) 46 i1 (.agg #[.int .i64 0, .string ⟨#[]⟩, .int .i64 0, .int .i64 0, .slice none 0 0, .int .i64 0, .slice none 0 0, .slice none 0 0, .int .i64 0]) 9 128 Tryd.underlying22 hi1 hy0 hy1 hy2 (by rfl) (by decide) _ _ _ rfl hown ⟨w7.heap.size, 0, none⟩ 1 1 [.int .i64 o.num, .string o.rs, .int .i64 o.E1, .int .i64 o.E2, .slice o.A o.na o.ca, .int .i64 o.C, .slice o.Z o.nz o.cz, .slice A2 o.np c2, .int .i64 o.key] rfl rfl (World.news_of_block (cs := #[.int .i64 o.num, .string o.rs, .int .i64 o.E1, .int .i64 o.E2, .slice o.A o.na o.ca, .int .i64 o.C, .slice o.Z o.nz o.cz, .slice A2 o.np c2, .int .i64 o.key]) (t := 46) (fr := (0, 0)) (heap_alloc_new w7 _)) (by simp [Value.oneCell']) (by decide) b5 b6 b7 _ rfl ?_; intro gg cap w8 hown8 hgrow8 hgg8 hlt8; obtain ⟨p1, p2⟩ := own_grown2 (HV7.out.below (below_box0 w7 (.cells #[.int .i64 o.num, .string o.rs, .int .i64 o.E1, .int .i64 o.E2, .slice o.A o.na o.ca, .int .i64 o.C, .slice o.Z o.nz o.cz, .slice A2 o.np c2, .int .i64 o.key] 46))) hgrow8 hno)
      have hgz : (w7.alloc (.cells #[.int .i64 o.num, .string o.rs, .int .i64 o.E1, .int .i64 o.E2, .slice o.A o.na o.ca, .int .i64 o.C, .slice o.Z o.nz o.cz, .slice A2 o.np c2, .int .i64 o.key] 46)).heap.size ≤ w8.heap.size := hgrow8.size
      have hsq : (w7.alloc (.cells #[.int .i64 o.num, .string o.rs, .int .i64 o.E1, .int .i64 o.E2, .slice o.A o.na o.ca, .int .i64 o.C, .slice o.Z o.nz o.cz, .slice A2 o.np c2, .int .i64 o.key] 46)).heap.size = w7.heap.size + 1 := by simp
      have hlen : (os' ++ [(reL o A2 c2)]).length = k + 1 := by rw [List.length_append, HCL.out]; rfl
      have hgg9 : ∀ b9, ((.slice (some ⟨gg, 0, none⟩) (k + 1) cap) : Value).ownBlock = some b9 → v.ownBlock = some b9 ∨ w7.heap.size ≤ b9 := fun b9 e => by
        cases e
        rcases hgg8 with e | e
        · exact Or.inl e
        · exact Or.inr (show w7.heap.size ≤ gg by omega)
      have hsz9 : ((w8.setCell ⟨B, 0, none⟩ (.slice (some ⟨gg, 0, none⟩) (k + 1) cap)) : World).heap.size = w8.heap.size := World.size_setCell _ _ _
      have hfar : ∀ b9, b9 < w7.heap.size → b9 ≠ B → v.ownBlock ≠ some b9 → ((w8.setCell ⟨B, 0, none⟩ (.slice (some ⟨gg, 0, none⟩) (k + 1) cap)) : World).heap[b9]? = w7.heap[b9]? := fun b9 h1 h2 h3 => (Go.Deep.blk_setCell_other _ _ _ _ h2).trans ((hgrow8.block b9 (by omega) (fun e => h3 e.symm)).trans ((below_box0 w7 (.cells #[.int .i64 o.num, .string o.rs, .int .i64 o.E1, .int .i64 o.E2, .slice o.A o.na o.ca, .int .i64 o.C, .slice o.Z o.nz o.cz, .slice A2 o.np c2, .int .i64 o.key] 46)).block b9 h1))
      have HO9 : Hid ((w8.setCell ⟨B, 0, none⟩ (.slice (some ⟨gg, 0, none⟩) (k + 1) cap)).ownsRow (B + 1) 46 9 (.slice (some ⟨gg, 0, none⟩) (k + 1) cap) (k + 1) ((os' ++ [(reL o A2 c2)]).flatMap ordC)) := Lib.hid (World.ownsRow.kept (by rw [List.flatMap_append]; simpa using hown8) (grown_set2 _ _ _ _) (Or.inr (fun e => by have := (World.ownsRow.lt hown8 _ e).1; omega)))
      have HV9 : Hid (Own (w8.setCell ⟨B, 0, none⟩ (.slice (some ⟨gg, 0, none⟩) (k + 1) cap)) ⟨B, 0, none⟩ (.slice (some ⟨gg, 0, none⟩) (k + 1) cap)) := Lib.hid (own_set_eq2 ⟨p1, p2⟩)
      have HV19 : Hid (Own (w8.setCell ⟨B, 0, none⟩ (.slice (some ⟨gg, 0, none⟩) (k + 1) cap)) ⟨B, 1, none⟩ (.slice A1 m c1)) := Lib.hid (own_set_ne2 (own_grown2 (HV17.out.below (below_box0 w7 (.cells #[.int .i64 o.num, .string o.rs, .int .i64 o.E1, .int .i64 o.E2, .slice o.A o.na o.ca, .int .i64 o.C, .slice o.Z o.nz o.cz, .slice A2 o.np c2, .int .i64 o.key] 46))) hgrow8 hno) (by simp))
      have HG9 : Hid (ClI wB.heap.size ix B (.slice (some ⟨gg, 0, none⟩) (k + 1) cap) (if k = ix then (Value.slice A2 o.np c2).ownBlock else Li) os (os' ++ [(reL o A2 c2)]) (k + 1) (w8.setCell ⟨B, 0, none⟩ (.slice (some ⟨gg, 0, none⟩) (k + 1) cap))) := Lib.hid (ClI.push (S := X) (u := wr) (u7 := w7) (o' := (reL o A2 c2)) HG.out HCL.out HXE.out (by omega) (by omega) (fun b9 e => by have := hvo b9 e; omega) (by omega) (by omega) (fun b9 h1 h2 h3 => (hfar b9 (by omega) (by omega) h3).trans (HB7.out.block b9 (by rw [HXE.out]; exact h1))) (fun b9 h1 h2 => hfar b9 h2 (by omega) (fun e => by have := hvo _ e; omega)) hgg9 (by rw [HPP.out]; exact sam_reL _ _ _) HQ7.out (fun b9 e => by have h1 := HLO.out b9 e; omega))
      have HB9 : Hid (Below B W (w8.setCell ⟨B, 0, none⟩ (.slice (some ⟨gg, 0, none⟩) (k + 1) cap))) := Lib.hid ((((HBr.out.trans (HB7.out.mono (by rw [HXE.out]; omega))).alloc (by omega) (.cells #[.int .i64 o.num, .string o.rs, .int .i64 o.E1, .int .i64 o.E2, .slice o.A o.na o.ca, .int .i64 o.C, .slice o.Z o.nz o.cz, .slice A2 o.np c2, .int .i64 o.key] 46)).grown hgrow8 (by simp; omega) (fun j hj => by have := (hvo j hj).1; omega)).setCell (Nat.le_refl _) _)
      have HCL9 := Lib.hid hlen
      clear hown hown8 hgrow8 hgg8 hlt8 hgg9 hfar p1 p2 b5 b6 b7 hno v3 v3f hvo
      go_wp2
      go_roundw
      case rel => exact ⟨k + 1, _, _, (if k = ix then (Value.slice A2 o.np c2).ownBlock else Li), by omega, by go_num, HCL9, HV9, HV19, HO9, HG9, HB9⟩
      case measure => simp [intOf]; omega
    · skip
      obtain rfl : k = n := by omega
      obtain ⟨A3, c3, hv3, hc3, hbo⟩ := own_slice HO.out
      subst hv3
      obtain ⟨A4, c4, hv4, hc4, hbk⟩ := HKL.out
      cases hv4
      have HK9 : Hid (wr.ownsRow w0.heap.size 42 32 (.slice A1 m c1) m (hs.flatMap hshC)) := Lib.hid (own_below (World.ownsRow.kept HK1.out (gb_below HKW.out none) (own_none _)) HBr.out (fun b9 e => by have := (hbk b9 e).2; have := HSB2.out; omega))
      have HRF : Hid (wr.heap[w.heap.size + 1]? = some (.cells #[.slice none 0 0, .slice none 0 0] 25)) := kRB.out _ HBr0
      have HBO := Lib.hid hbo
      have HBK := Lib.hid hbk
      have HC3 := Lib.hid hc3
      have HC4 := Lib.hid hc4
      obtain ⟨v3, v3f⟩ := HV.out
      obtain ⟨v4, v4f⟩ := HV1.out
      clear hbo hbk hc3 hc4 hBW hsb
      obtain ⟨zc0, zc1, ⟨zc2, zf2⟩, ⟨zc3, zf3⟩⟩ := kC.out _ HBr0
      go_wp2_with ((with_reducible show wpList _ _ _ (⟨none, _, _, _, _, _⟩ :: _) _ _); refine wpList_store_row rfl 25 _ _ rfl (w.heap.size + 1) #[.slice A3 k c3, .slice A1 m c1] rfl rfl _ _ HRF.out (by kernel_rfl) rfl (by simp [Value.oneCell']) ?_)
      have hrw := setRow_heap _ _ _ #[.slice A3 k c3, .slice A1 m c1] _ _ HRF.out
      have hbF := below_setRow' (below_ext HBw.out HBr0.out) (cs := #[.slice A3 k c3, .slice A1 m c1]) (Nat.le_add_right w.heap.size 1)
      have h0 := HSZ0.out
      have hsb := HSB.out
      have hw1 := HSB2.out
      have hlw := HLW.out
      have hszB := HBr.out.size
      have hw0 : w.heap.size ≤ w0.heap.size := by omega
      have hzs : (wr.setRow (w.heap.size + 1) #[.slice A3 k c3, .slice A1 m c1]).heap.size = wr.heap.size := by simp [World.setRow]
      refine bodyPost_ret (v := tlV A3 k c3 A1 m c1) (results_cell1 (p := 2) (ty := 25) rfl _ _ ⟨w.heap.size + 1, 0, none⟩ _ rfl (run_loadVar_row _ _ _ _ _ _ _ hrw Tryd.underlying25 rfl (by kernel_rfl))) rfl ⟨A3, c3, A1, c1, os', B, Li, rfl, cld_of HCL.out HC3.out HC4.out hlw (by omega) (by omega) ?_ ?_ (fun b9 e => ?_) ?_, hbF⟩
      · exact World.ownsRow.kept HO.out (grown_setRow _ _ _) (Or.inr (fun e => by have := (HBO.out _ e).1; omega))
      · exact World.ownsRow.kept (own_mono HK9.out hw0) (grown_setRow _ _ _) (Or.inr (fun e => by have := (HBK.out _ e).1; omega))
      · have := (HBK.out _ e).2
        omega
      · exact HG.out.shut (by rw [hzs]; exact Nat.le_refl _) (fun b9 h1 h2 => setRow_other _ _ _ _ (by omega))
end Go.Proofs.YtofkihlpbfcdkaaDoor
