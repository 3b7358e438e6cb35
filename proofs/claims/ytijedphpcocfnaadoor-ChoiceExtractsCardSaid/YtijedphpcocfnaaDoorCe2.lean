/- CHOICEEXTRACTS: Extract returns what the reference says, or the specified errors, for any two proofs: the law returns true for every input. Condition: the listed package variables (the bases of the prime test, and the table of math/bits) start as the program's text lays them; the card ties them to the text. -/
import Derived.Test.YtijedphpcocfnaaDoorCe1
namespace Go.Proofs.YtijedphpcocfnaaDoor.choiceExtracts
open Go.ChangeShapes Go.WideShapes Go.ChangeAt Go.RowKit SpM
set_option linter.unusedVariables false
set_option maxRecDepth 100000 in
theorem contract (H : Type) (enc : TypeId × Value → H) (W : World) (base : Nat) (args : Array Value) (ds gs : List (DataW H)) (before : List MemPlace)
    (hval : ∀ (j : Nat) t v, Tryd.f9.params[j]? = some t → args[j]? = some v → Value.okWide Tryd.prog W .any base t v)
    (hW : DataW.Whole enc Tryd.prog Tryd.f9.params.toList Rows.choiceExtractsSpec.vars false W args.toList ds gs before) (hL : laidMetH Tryd.prog Rows.choiceExtractsRow.laid W) :
    Calls Tryd.prog 9 args W fun e W' => ∃ v, e = .returned v ∧ Rows.choiceExtractsSpec.post enc Tryd.prog Tryd.f9 false true false false W args v W' := by
  have hW' := hW
  obtain ⟨p, q, hA0, hV, rfl, hfz, hnd⟩ := hW
  have hA : DataW.TrodAll enc Tryd.prog W 0 (fun _ => true) true Tryd.f9.params.toList args.toList ds p := hA0
  rw [Tryd.params9] at hA hval
  obtain ⟨v0, vs0, d0, ds0, p0, q0, hargs, rfl, rfl, h0, r0⟩ := trodAll_cons hA
  obtain ⟨v1, vs1, d1, ds1, p1, q1, rfl, rfl, rfl, h1, r1⟩ := trodAll_cons r0
  obtain ⟨v2, vs2, d2, ds2, p2, q2, rfl, rfl, rfl, h2, r2⟩ := trodAll_cons r1
  obtain ⟨v3, vs3, d3, ds3, p3, q3, rfl, rfl, rfl, h3, r3⟩ := trodAll_cons r2
  obtain ⟨v4, vs4, d4, ds4, p4, q4, rfl, rfl, rfl, h4, r4⟩ := trodAll_cons r3
  obtain ⟨rfl, rfl, rfl⟩ := trodAll_nil r4
  obtain rfl : args = #[v0, v1, v2, v3, v4] := by cases args; simp_all
  obtain ⟨rfl, rfl⟩ := trodVars_none hV
  obtain ⟨P, Q, G, rfl, ⟨hP0, hP1⟩, ⟨hQ0, hQ1⟩, _⟩ := open_group (hval 0 _ v0 rfl rfl) h0
  obtain ⟨b, rfl, _, _⟩ := open_i64 (hval 1 _ v1 rfl rfl) h1
  obtain ⟨Y, yn, yc, ys, rfl, hyn, oY⟩ := open_sl (hval 2 _ v2 rfl rfl) h2
  obtain ⟨A1, na1, ca1, al1, C1, nc1, cc1, cl1, Z1, nz1, cz1, zl1, rfl, han1, hcn1, hzn1, oA1, oC1, oZ1⟩ := open_cho (hval 3 _ v3 rfl rfl) h3
  obtain ⟨A2, na2, ca2, al2, C2, nc2, cc2, cl2, Z2, nz2, cz2, zl2, rfl, han2, hcn2, hzn2, oA2, oC2, oZ2⟩ := open_cho (hval 4 _ v4 rfl rfl) h4
  have hvars : Vars W := vars_of_laid hL
  refine (ce_true P Q G b Y ys yn yc A1 al1 na1 ca1 C1 cl1 nc1 cc1 Z1 zl1 nz1 cz1 A2 al2 na2 ca2 C2 cl2 nc2 cc2 Z2 zl2 nz2 cz2 (Lib.hid hyn) (Lib.hid han1) (Lib.hid hcn1) (Lib.hid hzn1) (Lib.hid han2) (Lib.hid hcn2) (Lib.hid hzn2) (by omega) W (Lib.hid hvars) (Lib.hid oY) (Lib.hid oA1) (Lib.hid oC1) (Lib.hid oZ1) (Lib.hid oA2) (Lib.hid oC2) (Lib.hid oZ2)).mono fun e W' ⟨he, hb⟩ => ?_
  exact ⟨_, he, law_post (by decide +kernel) rfl rfl hW' rfl hb⟩
theorem laid_met (os : Os) : laidMet Tryd.prog Rows.choiceExtractsRow.laid ((laidWorld os).forCall (fun _ _ => 0) ⟨#[], #[.agg #[.int .i64 0, .int .i64 0, .int .i64 0], .int .i64 0, .slice none 0 0, .agg #[.slice none 0 0, .slice none 0 0, .slice none 0 0], .agg #[.slice none 0 0, .slice none 0 0, .slice none 0 0]], []⟩).memory :=
  laidMet_of_run' 8 (by kernel_rfl) (by kernel_rfl)
theorem reads (os : Os) {H : Type} (enc : TypeId × Value → H) : ∃ places, DataW.whole enc Tryd.prog ((laidWorld os).forCall (fun _ _ => 0) ⟨#[], #[.agg #[.int .i64 0, .int .i64 0, .int .i64 0], .int .i64 0, .slice none 0 0, .agg #[.slice none 0 0, .slice none 0 0, .slice none 0 0], .agg #[.slice none 0 0, .slice none 0 0, .slice none 0 0]], []⟩).memory Tryd.f9.params.toList Rows.choiceExtractsSpec.vars false
    #[.agg #[.int .i64 0, .int .i64 0, .int .i64 0], .int .i64 0, .slice none 0 0, .agg #[.slice none 0 0, .slice none 0 0, .slice none 0 0], .agg #[.slice none 0 0, .slice none 0 0, .slice none 0 0]].toList 8 = some ([.agg [.lit (.int .i64 0), .lit (.int .i64 0), .lit (.int .i64 0)], .lit (.int .i64 0), .nil, .agg [.nil, .nil, .nil], .agg [.nil, .nil, .nil]], [], places) :=
  ⟨[], by kernel_rfl⟩
set_option maxRecDepth 100000 in
theorem lifted (os : Os) (started : os.Started) (H : Type) (enc : TypeId × Value → H) (F : Stop.Interp) :
    ReturnsInHanded {} Tryd.checked os 9 .any ((OpenSpec.ofChange Rows.choiceExtractsSpec).preRow enc Tryd.prog Tryd.f9 Rows.choiceExtractsRow.domain false Rows.choiceExtractsRow.laid) (((OpenSpec.ofChange Rows.choiceExtractsSpec).at F).post enc Tryd.prog Tryd.f9 false true false false) := by
  obtain ⟨places, hx⟩ := reads os enc
  refine returnsInHanded_of_row (C := Tryd.checked) (s := OpenSpec.ofChange Rows.choiceExtractsSpec) own started (by kernel_rfl) Tryd.func9
    (witness_row_at (enc := enc) (C := Tryd.checked) false (laidWorld os) #[.agg #[.int .i64 0, .int .i64 0, .int .i64 0], .int .i64 0, .slice none 0 0, .agg #[.slice none 0 0, .slice none 0 0, .slice none 0 0], .agg #[.slice none 0 0, .slice none 0 0, .slice none 0 0]] rfl (by kernel_rfl) (by kernel_rfl) (by kernel_rfl)
      (OpenSpec.preRow_of_cond 8 hx (by kernel_rfl) (fun k hk => by cases hk) (by kernel_rfl) (laid_met os))) ?_
  intro W base args ds gs before hval hW _ _ _ hL _ _
  exact contract H enc W base args ds gs before hval hW hL
theorem said : Rows.ChoiceExtractsSaid :=
  OpenClaim.holds_of_cond 9 Tryd.f9 rfl rfl rfl rfl rfl rfl rfl ⟨rfl, rfl, rfl, rfl, rfl⟩ rfl rfl rfl rfl rfl (by kernel_rfl) Tryd.func9 (by kernel_rfl)
    (of_decide_eq_true (by kernel_rfl)) (by unfold Func.isWrapper; first | (rw [if_pos (by decide +kernel)]; kernel_rfl) | (rw [if_neg (by decide +kernel)]; exact ⟨rfl, rfl⟩))
    (fun os started H enc _ F => by rw [OpenClaim.pre_eq_preRow]; exact lifted os started H enc F)
/-- No parameter wants a stand-in; the program's own looks are off: what the card asks. -/
theorem plain (f : FuncId) (fn : Func) (hf : Tryd.pinned.checked.prog.funcNamed "specie/specielaw19.ChoiceExtracts" = some f) (hfn : Tryd.pinned.checked.prog.funcs[f]? = some fn) :
    false = Tryd.pinned.checked.prog.looks [] ∧ ∀ (j : Nat) t, fn.params[j]? = some t → Tryd.pinned.checked.prog.wantsStandIn t = false := by
  obtain rfl : f = 9 := Option.some.inj ((show Tryd.prog.funcNamed "specie/specielaw19.ChoiceExtracts" = some 9 by kernel_rfl).symm.trans hf) |>.symm
  obtain rfl : fn = Tryd.f9 := (Option.some.inj (Tryd.func9.symm.trans hfn)).symm
  refine ⟨by kernel_rfl, fun j t ht => ?_⟩
  have hall : ∀ t ∈ Tryd.f9.params.toList, Tryd.prog.wantsStandIn t = false := by decide +kernel
  exact hall t (Array.mem_toList_iff.2 (Array.mem_of_getElem? ht))
/-- THE CARD. -/
theorem card : Rows.ChoiceExtractsCardSaid :=
  Claim7.holds_tied_plain_at .later [] _ _ _ _ said (fun _ h => by cases h) (by kernel_rfl) (fun _ h => by cases h) choiceExtracts_row_tie rfl ⟨rfl, rfl⟩ (by kernel_rfl) rfl plain (by kernel_rfl)
end Go.Proofs.YtijedphpcocfnaaDoor.choiceExtracts
