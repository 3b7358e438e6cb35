/- Arguments that are relations and lists. -/
import Derived.Test.YtijedphpcocfnaaDoorLawKit
import Derived.Test.YtijedphpcocfnaaDoorLinC
import Derived.Deep.Slices
namespace Go.Proofs.YtijedphpcocfnaaDoor
open Go.ChangeShapes Go.WideShapes Go.ChangeAt Go.RowKit SpM
set_option linter.unusedVariables false

section
variable {H : Type} {enc : TypeId × Value → H} {w : World} {base : Nat} {held : Bool}
set_option maxRecDepth 100000 in
theorem open_sl {r : Reach} {b0 : Nat} {v : Value} {d : DataW H} {ps : List MemPlace} (hval : Value.okWide Tryd.prog w r b0 24 v) (hd : DataW.Trod enc Tryd.prog w base (fun _ => true) held 24 v d ps) :
    ∃ (A : Option Addr) (n c : Nat) (xs : List Int), v = .slice A n c ∧ xs.length = n ∧ Sl w A xs := by
  obtain ⟨a, len, cap, rfl⟩ := okWide_slice Tryd.underlying24 hval
  obtain ⟨n, h⟩ := hd
  rcases open_ints Tryd.underlying24 Tryd.underlying3 cellsInt h with ⟨h0, _⟩ | ⟨a', len', cap', zs, h0, _, hlc, _, hz, _, hcell, _⟩
  · simp [Value.cells] at h0
    obtain ⟨rfl, rfl, rfl⟩ := h0
    exact ⟨none, 0, 0, [], rfl, rfl, fun k hk => absurd hk (by simp)⟩
  · simp [Value.cells] at h0
    obtain ⟨rfl, rfl, rfl⟩ := h0
    simp at hz
    refine ⟨some a', len, cap, zs.take len, rfl, by rw [List.length_take]; omega, fun k hk => ?_⟩
    rw [List.length_take] at hk
    obtain ⟨b, off, rfl, hc⟩ := ints_at hcell (by omega)
    refine ⟨b, off, rfl, ?_⟩
    rw [hc k (by omega), List.getD_eq_getElem?_getD, List.getD_eq_getElem?_getD, List.getElem?_take_of_lt (by omega)]
end

section
variable {H : Type} {enc : TypeId × Value → H} {w : World} {base : Nat} {held : Bool}
theorem cellsSlI : Tryd.prog.cellsOf 24 = 1 := by kernel_rfl
theorem cellsSlS : Tryd.prog.cellsOf 25 = 1 := by kernel_rfl
theorem cellsRel : Tryd.prog.cellsOf 27 = 2 := by kernel_rfl
theorem open_row {n : Nat} {cs : List Value} {x : DataW H × List MemPlace} (h : DataW.trod enc Tryd.prog w base (fun _ => true) held n 24 cs = some x) :
    ∃ R : Row, cs = [R.val] ∧ RowOk w R := by
  rcases open_ints Tryd.underlying24 Tryd.underlying3 cellsInt h with ⟨rfl, _⟩ | ⟨a, len, cap, zs, rfl, _, hlc, _, hz, _, hcell, _⟩
  · exact ⟨noRow, rfl, rfl, fun k hk => absurd hk (by simp)⟩
  · simp at hz
    refine ⟨⟨some a, len, cap, zs.take len⟩, rfl, by show (zs.take len).length = len; rw [List.length_take]; omega, fun k hk => ?_⟩
    dsimp only at hk ⊢
    rw [List.length_take] at hk
    obtain ⟨b, off, rfl, hc⟩ := ints_at hcell (by omega)
    refine ⟨b, off, rfl, ?_⟩
    rw [hc k (by omega), List.getD_eq_getElem?_getD, List.getD_eq_getElem?_getD, List.getElem?_take_of_lt (by omega)]

set_option maxRecDepth 100000 in
theorem open_rows {n : Nat} {cs : List Value} {x : DataW H × List MemPlace} (h : DataW.trod enc Tryd.prog w base (fun _ => true) held n 25 cs = some x) :
    ∃ (B : Option Addr) (k c : Nat) (rows : List Row), cs = [.slice B k c] ∧ rows.length = k ∧ Rw w B rows := by
  rcases Go.Deep.open_slice1 Tryd.underlying25 cellsSlI h with ⟨rfl, _⟩ | ⟨a, len, cap, m, n', V, D, Pl, rfl, _, hlc, _, hm, _, hx⟩
  · exact ⟨none, 0, 0, [], rfl, rfl, fun k hk => absurd hk (by simp)⟩
  · simp at hm
    subst hm
    haveI : Inhabited Row := ⟨noRow⟩
    obtain ⟨f, hf⟩ := Go.Deep.choose_lt (α := Row) (n := len) (p := fun i R => w.cell? (a.add i) = some R.val ∧ RowOk w R) (fun i hi => by
      obtain ⟨h1, h2⟩ := hx i (by omega)
      obtain ⟨R, e, hR⟩ := open_row h2
      simp at e
      exact ⟨R, by rw [h1, e], hR⟩)
    refine ⟨some a, len, _, (List.range len).map f, rfl, by simp, fun k hk => ?_⟩
    have hk' : k < len := by simpa using hk
    have e : ((List.range len).map f).getD k noRow = f k := by
      rw [List.getD_eq_getElem?_getD, List.getElem?_eq_getElem (by simpa using hk')]
      simp
    rw [e]
    obtain ⟨h1, h2⟩ := hf k hk'
    obtain ⟨b, off, spot⟩ := a
    have hspot : spot = none := by simpa [Addr.add] using World.cell?_spot (hf 0 (by omega)).1
    subst hspot
    exact ⟨⟨b, off, rfl, by rw [← Go.WideShapes.add_plain]; exact h1⟩, h2⟩
set_option maxRecDepth 100000 in
theorem open_rel {r : Reach} {b0 : Nat} {v : Value} {d : DataW H} {ps : List MemPlace} (hval : Value.okWide Tryd.prog w r b0 27 v) (hd : DataW.Trod enc Tryd.prog w base (fun _ => true) held 27 v d ps) :
    ∃ (Y : Option Addr) (yn yc : Nat) (ys : List Int) (B : Option Addr) (bn bc : Nat) (rows : List Row), v = relV Y yn yc B bn bc ∧ ys.length = yn ∧ rows.length = bn ∧ Sl w Y ys ∧ Rw w B rows := by
  obtain ⟨cs, rfl, hsz⟩ := okWide_struct Tryd.underlying27 hval
  obtain ⟨n, h⟩ := hd
  obtain ⟨xs, m, rfl, _, hl, hxl, hf⟩ := DataW.trod_struct Tryd.underlying27 h
  rw [cellsRel] at hl
  obtain ⟨cl⟩ := cs
  simp only [Value.cells] at hl hf
  match cl, hl with
  | [c0, c1], _ =>
    have f0 : DataW.trod enc Tryd.prog w base (fun _ => true) held m 24 (([c0, c1].drop 0).take (Tryd.prog.cellsOf 24)) = xs[0]? := hf 0 _ rfl
    have f1 : DataW.trod enc Tryd.prog w base (fun _ => true) held m 25 (([c0, c1].drop 1).take (Tryd.prog.cellsOf 25)) = xs[1]? := hf 1 _ rfl
    rw [cellsSlI] at f0
    rw [cellsSlS] at f1
    have hl3 : xs.length = 2 := hxl
    match xs, hl3 with
    | [x0, x1], _ =>
      obtain ⟨R, hA, oA⟩ := open_row f0
      obtain ⟨B, bn, bc, rows, hB, hbn, oB⟩ := open_rows f1
      simp at hA hB
      subst hA; subst hB
      exact ⟨R.p, R.n, R.c, R.xs, B, bn, bc, rows, rfl, oA.1, hbn, oA.2, oB⟩
end

end Go.Proofs.YtijedphpcocfnaaDoor
