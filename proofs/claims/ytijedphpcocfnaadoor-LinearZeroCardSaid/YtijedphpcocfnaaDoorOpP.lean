/- Arguments that are proofs; uint32. -/
import Derived.Test.YtijedphpcocfnaaDoorOpR
namespace Go.Proofs.YtijedphpcocfnaaDoor
open Go.ChangeShapes Go.WideShapes Go.ChangeAt Go.RowKit SpM
set_option linter.unusedVariables false

theorem cellsPrf : Tryd.prog.cellsOf 39 = 3 := by kernel_rfl
section
variable {H : Type} {enc : TypeId × Value → H} {w : World} {base : Nat} {held : Bool}
set_option maxRecDepth 100000
/-- a proof argument. -/
theorem open_prf {r : Reach} {b0 : Nat} {v : Value} {d : DataW H} {ps : List MemPlace} (hval : Value.okWide Tryd.prog w r b0 39 v) (hd : DataW.Trod enc Tryd.prog w base (fun _ => true) held 39 v d ps) :
    ∃ (A : Option Addr) (na ca : Nat) (al : List Int) (C : Int) (Z : Option Addr) (nz cz : Nat) (zs : List Int), v = .agg #[.slice A na ca, .int .i64 C, .slice Z nz cz] ∧ al.length = na ∧ zs.length = nz ∧ Sl w A al ∧ Sl w Z zs := by
  obtain ⟨cs, rfl, hsz⟩ := okWide_struct Tryd.underlying39 hval
  obtain ⟨n, h⟩ := hd
  obtain ⟨xs, m, rfl, _, hl, hxl, hf⟩ := DataW.trod_struct Tryd.underlying39 h
  rw [cellsPrf] at hl
  obtain ⟨cl⟩ := cs
  simp only [Value.cells] at hl hf
  match cl, hl with
  | [c0, c1, c2], _ =>
    have f0 : DataW.trod enc Tryd.prog w base (fun _ => true) held m 24 (([c0, c1, c2].drop 0).take (Tryd.prog.cellsOf 24)) = xs[0]? := hf 0 _ rfl
    have f1 : DataW.trod enc Tryd.prog w base (fun _ => true) held m 3 (([c0, c1, c2].drop 1).take (Tryd.prog.cellsOf 3)) = xs[1]? := hf 1 _ rfl
    have f2 : DataW.trod enc Tryd.prog w base (fun _ => true) held m 24 (([c0, c1, c2].drop 2).take (Tryd.prog.cellsOf 24)) = xs[2]? := hf 2 _ rfl
    rw [cellsSlI] at f0 f2
    rw [cellsInt] at f1
    have hl3 : xs.length = 3 := hxl
    match xs, hl3 with
    | [x0, x1, x2], _ =>
      obtain ⟨RA, hA, oA⟩ := open_row f0
      obtain ⟨C, hC, _, wC⟩ := DataW.trod_int Tryd.underlying3 f1
      obtain ⟨RZ, hZ, oZ⟩ := open_row f2
      simp at hA hC hZ
      subst hA; subst hC; subst hZ
      exact ⟨RA.p, RA.n, RA.c, RA.xs, C, RZ.p, RZ.n, RZ.c, RZ.xs, rfl, oA.1, oZ.1, oA.2, oZ.2⟩
/-- a uint32 argument. -/
theorem open_u32 {r : Reach} {b0 : Nat} {v : Value} {d : DataW H} {ps : List MemPlace} (hval : Value.okWide Tryd.prog w r b0 48 v) (hd : DataW.Trod enc Tryd.prog w base (fun _ => true) held 48 v d ps) :
    ∃ n, v = .int .u32 n ∧ 0 ≤ n ∧ n ≤ 4294967295 := by
  obtain ⟨n, rfl, _, _, hw⟩ := open_int Tryd.underlying48 hval hd
  have h1 : 0 ≤ n ∧ n ≤ 4294967295 := by
    simp [Lit.wf, IntKind.min, IntKind.max, IntKind.signed, IntKind.bits] at hw
    omega
  exact ⟨n, rfl, h1.1, h1.2⟩
end

end Go.Proofs.YtijedphpcocfnaaDoor
