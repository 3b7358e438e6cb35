/- linear.simulated. -/
import Derived.Test.YtijedphpcocfnaaDoorLinN
namespace Go.Proofs.YtijedphpcocfnaaDoor
open Go.RowKit SpM
set_option linter.unusedVariables false
set_option linter.unusedSimpArgs false
set_option maxRecDepth 20000

theorem OwnL.rowF {w : World} {B : Nat} {v : Value} {xs : List Int} (h : OwnL w B v xs) (hne : 0 < xs.length) : ∃ g cap, v = .slice (some ⟨g, 0, none⟩) xs.length cap ∧ B ≤ g ∧ RowF w g xs.length (fun j => xs.getD j 0) := by
  obtain ⟨g, cap, hv, hg, hc⟩ := OwnL.cells h hne
  obtain ⟨_, h2⟩ := h
  rcases h2 with ⟨_, h0⟩ | ⟨g', cap', cur, hv', _, hh, _⟩
  · omega
  · rw [hv] at hv'
    cases hv'
    exact ⟨g, cap, hv, hg, fun j hj => hc j hj, fun j => frozen_blk hh j⟩
theorem RowF.below {w w' : World} {g n : Nat} {f : Nat → Int} (h : RowF w g n f) (hn : 0 < n) (hb : Below w.heap.size w w') : RowF w' g n f := by
  have hg : g < w.heap.size := World.block_lt_of_cell? _ _ (h.1 0 hn)
  exact ⟨fun j hj => (hb.cell (p := ⟨g, j, none⟩) hg).trans (h.1 j hj), fun j => (hb.frozen (p := ⟨g, j, none⟩) hg).trans (h.2 j)⟩

/-- the commitment that fits a challenge. -/
def simF (P Q c : Int) (ys : List Int) (rows : List Row) (zs : List Int) (i : Nat) : Int := prodF P 1 (rows.getD i noRow).xs zs * pw (ys.getD i 0) ((Q - c) % Q) P % P
def simR (P Q c : Int) (ys : List Int) (rows : List Row) (zs : List Int) : List Int := (List.range rows.length).map (simF P Q c ys rows zs)
theorem simR_length (P Q c : Int) (ys : List Int) (rows : List Row) (zs : List Int) : (simR P Q c ys rows zs).length = rows.length := by simp [simR]
theorem simR_get {P Q c : Int} {ys : List Int} {rows : List Row} {zs : List Int} {i : Nat} (h : i < rows.length) : (simR P Q c ys rows zs).getD i 0 = simF P Q c ys rows zs i := by
  rw [List.getD_eq_getElem?_getD, List.getElem?_eq_getElem (by rw [simR_length]; exact h)]
  simp [simR]
theorem map_getD {f : Row → Int} {rows : List Row} {i : Nat} (h : i < rows.length) : (rows.map f).getD i 0 = f (rows.getD i noRow) := by
  rw [List.getD_eq_getElem?_getD, List.getElem?_eq_getElem (by simpa using h), List.getD_eq_getElem?_getD, List.getElem?_eq_getElem h]
  simp
theorem prodF_in {P : Int} (hp : 2 ≤ P) : ∀ (xs es : List Int) (acc : Int), 0 ≤ acc → acc < P → 0 ≤ prodF P acc xs es ∧ prodF P acc xs es < P
  | [], es, acc, h0, h1 => by cases es <;> exact ⟨h0, h1⟩
  | x :: xs, [], acc, h0, h1 => ⟨h0, h1⟩
  | x :: xs, e :: es, acc, h0, h1 => by
    rw [prodF]
    exact prodF_in hp xs es _ (Int.emod_nonneg _ (by omega)) (Int.emod_lt_of_pos _ (by omega))

set_option maxHeartbeats 12800000 in
theorem lsim_ok (P Q G : Int) (Y : Option Addr) (ys : List Int) (yc : Nat) (B : Option Addr) (rows : List Row) (n bc : Nat) (c : Int) (L : Option Addr) (zs : List Int) (ln lc : Nat) (HVL : Hid (validR P Q G ys rows = true)) (hyn : Hid (ys.length = n)) (hbn : Hid (rows.length = n)) (hln : Hid (zs.length = ln)) (hlen : zs.length = rowN rows)
    (Hl : Hid (zs.all (scB Q) = true)) (hc0 : 0 ≤ c) (hc1 : c < Q) (hQ : Q < 9223372036854775808) (w : World) (hY : Hid (Sl w Y ys)) (hB : Hid (Rw w B rows)) (hL : Hid (Sl w L zs)) :
    Calls Tryd.prog 58 #[gv P Q G, relV Y n yc B n bc, .int .i64 c, .slice L ln lc] w (CellsOut (simR P Q c ys rows zs) n w) := by
  obtain ⟨v1, v2, v3, v4, v5, v6, v7, v8⟩ := validR_parts HVL.out
  obtain ⟨hp2, hp, hq3, hqp⟩ := validG_P v1
  rw [← hlen, hln.out] at v8
  have HRB := Lib.hid v8
  have hnp : 0 < n := by rw [← hyn.out]; omega
  have hn8 : n ≤ 8 := by rw [← hyn.out]; omega
  have hln12 : ln ≤ 12 := by rw [← hln.out]; omega
  have HYM := Lib.hid v5
  have hzl : (rows.map fun r => prodF P 1 r.xs zs).length = n := by rw [List.length_map]; exact hbn.out
  clear v1 v2 v3 v4 v5 v6 v7 v8
  obtain ⟨b1, o1, rfl, _⟩ := hY.out 0 (by rw [hyn.out]; exact hnp)
  obtain ⟨w0, hW⟩ : ∃ W, (w.alloc (gObj P Q G)).alloc (relO (some ⟨b1, o1, none⟩) n yc B n bc) = W := ⟨_, rfl⟩
  have HBw : Hid (Below w.heap.size w w0) := Lib.hid (by rw [← hW]; exact below_two (Below.refl _ _))
  have HX0 : Hid (GBox w0 w.heap.size P Q G) := Lib.hid (by rw [← hW]; exact (gbox_alloc w P Q G).below (below_box0 _ _))
  have HR0 : Hid (RBox w0 (w.heap.size + 1) (.slice (some ⟨b1, o1, none⟩) n yc) (.slice B n bc)) := Lib.hid (by rw [← hW]; exact rbox_alloc1 _ _ _ _ _)
  have HY0 := Lib.hid (hY.out.below HBw.out)
  have HA0 := Lib.hid (hB.out.below HBw.out)
  have HL0 := Lib.hid (hL.out.below HBw.out)
  have HW := Lib.hid hW
  clear hW hY hB hL
  obtain ⟨d0, d1⟩ := HR0.out
  obtain ⟨c0, c1, c2⟩ := HX0.out
  go_enter Tryd.func58, Tryd.ntmps58
  go_wp2_with fail
  rw [HW.out]
  refine (lproducts_any P Q G B rows n bc L zs ln lc hbn hln (by omega) (by omega) HRB Hl hp2 hp hQ _ HA0 HL0).mono ?_
  rintro e W ⟨v, rfl, ho, hb0⟩
  obtain ⟨g, cap, rfl, hg, hrf⟩ := ho.rowF (by rw [hzl]; exact hnp)
  rw [hzl] at hrf
  have hvl : (Value.slice (some ⟨g, 0, none⟩) ((rows.map fun r => prodF P 1 r.xs zs).length) cap) = .slice (some ⟨g, 0, none⟩) n cap := by rw [hzl]
  rw [hvl]
  have HXW := Lib.hid (HX0.out.below hb0)
  have HRW := Lib.hid (HR0.out.below hb0)
  have HYW := Lib.hid (HY0.out.below hb0)
  have HBW := Lib.hid (below_ext HBw.out hb0)
  have hgw : w.heap.size + 1 < g := by have h1 : w.heap.size + 1 < w0.heap.size := World.block_lt_of_cell? _ _ HR0.out.1; omega
  have hyg : b1 < g := by
    obtain ⟨bb, oo, e1, e2⟩ := HY0.out 0 (by rw [hyn.out]; exact hnp)
    cases e1
    have h1 : b1 < w0.heap.size := World.block_lt_of_cell? _ _ e2
    omega
  have HRF : Hid (RowF W g n (fun j => if j < 0 then simF P Q c ys rows zs j else prodF P 1 (rows.getD j noRow).xs zs)) := Lib.hid ⟨fun j hj => by
    have h1 := hrf.1 j hj
    dsimp only at h1
    rw [map_getD (by rw [hbn.out]; exact hj)] at h1
    dsimp only
    rw [if_neg (by omega)]
    exact h1, hrf.2⟩
  have HG_ := Lib.hid (Nat.le_trans HBw.out.size hg)
  clear ho hb0 hrf hvl hg c0 c1 c2 d0 d1
  obtain ⟨d0, d1⟩ := HRW.out
  go_wp2
  go_loopw [22] (fun i wr => ∃ k : Nat, k ≤ n ∧ i = .int .i64 k ∧ Hid (RowF wr g n (fun j => if j < k then simF P Q c ys rows zs j else prodF P 1 (rows.getD j noRow).xs zs)) ∧ Hid (Below g W wr)) (fun i _ => n - (intOf i).toNat)
  case atStart => exact ⟨0, by omega, rfl, HRF, Lib.hid (Below.refl _ _)⟩
  case round =>
    obtain ⟨k, hk, rfl, HRr, HBr⟩ := hrel
    by_cases hlt : k < n
    · have hkl : k < ys.length := by rw [hyn.out]; exact hlt
      have hkr : k < rows.length := by rw [hbn.out]; exact hlt
      obtain ⟨bb, oo, e1, hi0⟩ := HYW.out k hkl
      cases e1
      have hi1 := (HBr.out.cell (p := ⟨b1, o1 + k, none⟩) hyg).trans hi0
      have c0 := (HBr.out.cell (p := ⟨w.heap.size, 0, none⟩) (by show w.heap.size < g; omega)).trans HXW.out.1
      have c1 := (HBr.out.cell (p := ⟨w.heap.size, 1, none⟩) (by show w.heap.size < g; omega)).trans HXW.out.2.1
      have hcell : wr.cell? ⟨g, k, none⟩ = some (.int .i64 (prodF P 1 (rows.getD k noRow).xs zs)) := by
        have h3 := HRr.out.1 k hlt
        simp only [Nat.lt_irrefl, if_false] at h3
        exact h3
      have hfz := HRr.out.2 k
      have hmy := all_get HYM.out hkl
      obtain ⟨q0, q1⟩ := prodF_in hp2 (rows.getD k noRow).xs zs 1 (by omega) (by omega)
      have hsf : simF P Q c ys rows zs k = prodF P 1 (rows.getD k noRow).xs zs * pw (ys.getD k 0) ((Q - c) % Q) P % P := rfl
      obtain ⟨a, ha⟩ : ∃ a, prodF P 1 (rows.getD k noRow).xs zs = a := ⟨_, rfl⟩
      obtain ⟨y, hy⟩ : ∃ x, ys.getD k 0 = x := ⟨_, rfl⟩
      rw [ha] at hcell q0 q1 hsf
      rw [hy] at hi1 hmy hsf
      have y0 := memG_lo hmy
      have y1 := memG_hi hmy
      obtain ⟨ex, hex⟩ : ∃ e, (Q - c) % Q = e := ⟨_, rfl⟩
      have ex0 : 0 ≤ ex := by rw [← hex]; exact Int.emod_nonneg _ (by omega)
      have ex1 : ex < Q := by rw [← hex]; exact Int.emod_lt_of_pos _ (by omega)
      rw [hex] at hsf
      obtain ⟨p, hpw⟩ : ∃ p, pw y ex P = p := ⟨_, rfl⟩
      obtain ⟨p0, p1⟩ : 0 ≤ p ∧ p < P := by rw [← hpw]; exact pw_lt _ _ _ (by omega)
      rw [hpw] at hsf
      obtain ⟨t, ht⟩ : ∃ t, a * p % P = t := ⟨_, rfl⟩
      rw [ht] at hsf
      have HN : ∀ q, Hid (RowF ((wr.drewN q).setCell ⟨g, k, none⟩ (.int .i64 t)) g n (fun j => if j < k + 1 then simF P Q c ys rows zs j else prodF P 1 (rows.getD j noRow).xs zs)) := fun q => by
        have h3 := rowF_set (RowF.below HRr.out hnp (below_drawN (Below.refl _ _) q)) hlt t
        have e : (fun j => if j = k then t else if j < k then simF P Q c ys rows zs j else prodF P 1 (rows.getD j noRow).xs zs) = (fun j => if j < k + 1 then simF P Q c ys rows zs j else prodF P 1 (rows.getD j noRow).xs zs) := by
          funext j
          by_cases hj : j = k
          · subst hj; rw [if_pos rfl, if_pos (by omega), hsf]
          · rw [if_neg hj]
            by_cases hj2 : j < k
            · rw [if_pos hj2, if_pos (by omega)]
            · rw [if_neg hj2, if_neg (by omega)]
        rw [e] at h3
        exact Lib.hid h3
      have HNH := Lib.hid HN
      have HB2 := Lib.hid (show ∀ q, Hid (Below g W ((wr.drewN q).setCell ⟨g, k, none⟩ (.int .i64 t))) from fun q => Lib.hid ((below_drawN HBr.out q).setCell (Nat.le_refl _) _))
      have hdf : IntKind.i64.wrap (Q - c) = Q - c := IntWalk.i64_in _ (by omega)
      have htm : (Q - c).tmod Q = ex := by rw [Int.tmod_eq_emod_of_nonneg (by omega), hex]
      have hwx : IntKind.i64.wrap ex = ex := IntWalk.i64_in _ (by omega)
      have hQn : ¬ (Q = 0) := by omega
      have HP1 := Lib.hid hpw
      have HAC := Lib.hid ht
      have HSF := Lib.hid hsf
      clear hkl hkr hi0 hmy hsf ha hy hex hpw ht HN
      go_wp2
      go_quiet ((go_at_call 76; exact Calls.quiet_of (pow_eq y ex P p HP1 (by omega) hp (by omega) y1 ex0 (by omega) _)))
      go_wp2_with fail
      go_region_with ((go_at_call 61; refine (wmul_eq a p P t HAC hp q0 q1 p0 p1 _).mono ?_; rintro e w' ⟨rfl, n3, rfl⟩))
      all_goals
        go_wp2
        go_roundw
        case rel => exact ⟨k + 1, by omega, by go_num, HNH.out _, HB2.out _⟩
        case measure => simp [intOf]; omega
    · obtain rfl : k = n := by omega
      have HF : Hid (Cells wr g (simR P Q c ys rows zs)) := Lib.hid (fun j hj => by
        rw [simR_length, hbn.out] at hj
        rw [simR_get (by rw [hbn.out]; exact hj), HRr.out.1 j hj]
        dsimp only
        rw [if_pos hj])
      have hbF : Below w.heap.size w wr := HBW.out.trans (HBr.out.mono HG_.out)
      clear HRr hlt
      go_wp2
      go_ret
      exact ⟨g, cap, rfl, HF, hbF⟩
end Go.Proofs.YtijedphpcocfnaaDoor
