/- KNOWLEDGEEXTRACTS: Extract of two proofs returns what the reference says: the law returns true for every input. Condition: the listed package variables (the bases of the prime test, and the table of math/bits) start as the program's text lays them; the card ties them to the text. -/
import Derived.Test.YtohjfnhgibedpaaDoorLawKit
import Derived.Test.YtohjfnhgibedpaaDoorKExtr
namespace Go.Proofs.YtohjfnhgibedpaaDoor.knowledgeExtracts
open Go.ChangeShapes Go.WideShapes Go.ChangeAt Go.RowKit SpM
set_option linter.unusedVariables false

section
variable {H : Type} {enc : TypeId × Value → H} {w : World} {base : Nat} {held : Bool}
theorem cellsSl : Tryd.prog.cellsOf 26 = 1 := by kernel_rfl
theorem cellsProof : Tryd.prog.cellsOf 49 = 3 := by kernel_rfl
theorem open_one {n : Nat} {cs : List Value} {x : DataW H × List MemPlace} (h : DataW.trod enc Tryd.prog w base (fun _ => true) held n 26 cs = some x) :
    ∃ p k c v, cs = [.slice p k c] ∧ One w p k v := by
  rcases open_ints Tryd.underlying26 Tryd.underlying3 cellsInt h with ⟨rfl, _⟩ | ⟨a, len, cap, zs, rfl, _, hlc, _, hz, _, hcell, _⟩
  · exact ⟨none, 0, 0, 0, rfl, fun h => absurd h (by decide)⟩
  · refine ⟨some a, len, cap, zs.getD 0 0, rfl, fun h1 => ?_⟩
    simp at hz
    obtain ⟨b, off, rfl, hc⟩ := ints_at hcell (by omega)
    exact ⟨b, off, rfl, by have := hc 0 (by omega); simpa using this⟩
set_option maxRecDepth 100000 in
theorem open_proof {r : Reach} {b0 : Nat} {v : Value} {d : DataW H} {ps : List MemPlace} (hval : Value.okWide Tryd.prog w r b0 49 v) (hd : DataW.Trod enc Tryd.prog w base (fun _ => true) held 49 v d ps) :
    ∃ (pa : Option Addr) (na ca : Nat) (a0 C : Int) (pz : Option Addr) (nz cz : Nat) (z0 : Int), v = prv pa na ca C pz nz cz ∧ One w pa na a0 ∧ One w pz nz z0 := by
  obtain ⟨cs, rfl, hsz⟩ := okWide_struct Tryd.underlying49 hval
  obtain ⟨n, h⟩ := hd
  obtain ⟨xs, m, rfl, _, hl, hxl, hf⟩ := DataW.trod_struct Tryd.underlying49 h
  rw [cellsProof] at hl
  obtain ⟨cl⟩ := cs
  simp only [Value.cells] at hl hf
  match cl, hl with
  | [c0, c1, c2], _ =>
    have f0 : DataW.trod enc Tryd.prog w base (fun _ => true) held m 26 (([c0, c1, c2].drop 0).take (Tryd.prog.cellsOf 26)) = xs[0]? := hf 0 _ rfl
    have f1 : DataW.trod enc Tryd.prog w base (fun _ => true) held m 3 (([c0, c1, c2].drop 1).take (Tryd.prog.cellsOf 3)) = xs[1]? := hf 1 _ rfl
    have f2 : DataW.trod enc Tryd.prog w base (fun _ => true) held m 26 (([c0, c1, c2].drop 2).take (Tryd.prog.cellsOf 26)) = xs[2]? := hf 2 _ rfl
    rw [cellsSl] at f0 f2
    rw [cellsInt] at f1
    have hl3 : xs.length = 3 := hxl
    match xs, hl3 with
    | [x0, x1, x2], _ =>
      obtain ⟨pa, na, ca, a0, hA, oA⟩ := open_one f0
      obtain ⟨C, hC, _, wC⟩ := DataW.trod_int Tryd.underlying3 f1
      obtain ⟨pz, nz, cz, z0, hZ, oZ⟩ := open_one f2
      simp at hA hC hZ
      subst hA; subst hC; subst hZ
      exact ⟨pa, na, ca, a0, C, pz, nz, cz, z0, rfl, oA, oZ⟩
end

set_option maxRecDepth 100000 in
theorem contract (H : Type) (enc : TypeId × Value → H) (W : World) (base : Nat) (args : Array Value) (ds gs : List (DataW H)) (before : List MemPlace)
    (hval : ∀ (j : Nat) t v, Tryd.f7.params[j]? = some t → args[j]? = some v → Value.okWide Tryd.prog W .any base t v)
    (hW : DataW.Whole enc Tryd.prog Tryd.f7.params.toList Rows.knowledgeExtractsSpec.vars false W args.toList ds gs before) (hL : laidMetH Tryd.prog Rows.knowledgeExtractsRow.laid W) :
    Calls Tryd.prog 7 args W fun e W' => ∃ v, e = .returned v ∧ Rows.knowledgeExtractsSpec.post enc Tryd.prog Tryd.f7 false true false false W args v W' := by
  have hW' := hW
  obtain ⟨p, q, hA0, hV, rfl, hfz, hnd⟩ := hW
  have hA : DataW.TrodAll enc Tryd.prog W 0 (fun _ => true) true Tryd.f7.params.toList args.toList ds p := hA0
  rw [Tryd.params7] at hA hval
  obtain ⟨v0, vs0, d0, ds0, p0, q0, hargs, rfl, rfl, h0, r0⟩ := trodAll_cons hA
  obtain ⟨v1, vs1, d1, ds1, p1, q1, rfl, rfl, rfl, h1, r1⟩ := trodAll_cons r0
  obtain ⟨v2, vs2, d2, ds2, p2, q2, rfl, rfl, rfl, h2, r2⟩ := trodAll_cons r1
  obtain ⟨v3, vs3, d3, ds3, p3, q3, rfl, rfl, rfl, h3, r3⟩ := trodAll_cons r2
  obtain ⟨v4, vs4, d4, ds4, p4, q4, rfl, rfl, rfl, h4, r4⟩ := trodAll_cons r3
  obtain ⟨rfl, rfl, rfl⟩ := trodAll_nil r4
  obtain rfl : args = #[v0, v1, v2, v3, v4] := by cases args; simp_all
  obtain ⟨rfl, rfl⟩ := trodVars_none hV
  obtain ⟨P, Q, G, rfl, ⟨hP0, hP1⟩, ⟨hQ0, hQ1⟩, _⟩ := open_group (hval 0 _ v0 rfl rfl) h0
  obtain ⟨b, rfl, _, _⟩ := open_i64 (hval 1 _ v1 rfl rfl) h1
  obtain ⟨y, rfl, _, _⟩ := open_i64 (hval 2 _ v2 rfl rfl) h2
  obtain ⟨pa, na, ca, a0, C0, pz, nz, cz, z0, rfl, oA, oZ⟩ := open_proof (hval 3 _ v3 rfl rfl) h3
  obtain ⟨qa, nb, cb, a1, C1, qz, nw, cw, z1, rfl, oB, oC⟩ := open_proof (hval 4 _ v4 rfl rfl) h4
  have hvars : Vars W := vars_of_laid hL
  refine (extracts_true P Q G b y pa na ca a0 C0 pz nz cz z0 qa nb cb a1 C1 qz nw cw z1 (by omega) W hvars oA oZ oB oC).mono fun e W' ⟨he, hb⟩ => ?_
  exact ⟨_, he, law_post (by decide +kernel) rfl rfl hW' rfl hb⟩

theorem laid_met (os : Os) : laidMet Tryd.prog Rows.knowledgeExtractsRow.laid ((laidWorld os).forCall (fun _ _ => 0) ⟨#[], #[.agg #[.int .i64 0, .int .i64 0, .int .i64 0], .int .i64 0, .int .i64 0, .agg #[.slice none 0 0, .int .i64 0, .slice none 0 0], .agg #[.slice none 0 0, .int .i64 0, .slice none 0 0]], []⟩).memory :=
  laidMet_of_run' 8 (by kernel_rfl) (by kernel_rfl)
theorem reads (os : Os) {H : Type} (enc : TypeId × Value → H) : ∃ places, DataW.whole enc Tryd.prog ((laidWorld os).forCall (fun _ _ => 0) ⟨#[], #[.agg #[.int .i64 0, .int .i64 0, .int .i64 0], .int .i64 0, .int .i64 0, .agg #[.slice none 0 0, .int .i64 0, .slice none 0 0], .agg #[.slice none 0 0, .int .i64 0, .slice none 0 0]], []⟩).memory Tryd.f7.params.toList Rows.knowledgeExtractsSpec.vars false
    #[.agg #[.int .i64 0, .int .i64 0, .int .i64 0], .int .i64 0, .int .i64 0, .agg #[.slice none 0 0, .int .i64 0, .slice none 0 0], .agg #[.slice none 0 0, .int .i64 0, .slice none 0 0]].toList 8 = some ([.agg [.lit (.int .i64 0), .lit (.int .i64 0), .lit (.int .i64 0)], .lit (.int .i64 0), .lit (.int .i64 0), .agg [.nil, .lit (.int .i64 0), .nil], .agg [.nil, .lit (.int .i64 0), .nil]], [], places) :=
  ⟨[], by kernel_rfl⟩

set_option maxRecDepth 100000 in
theorem lifted (os : Os) (started : os.Started) (H : Type) (enc : TypeId × Value → H) (F : Stop.Interp) :
    ReturnsInHanded {} Tryd.checked os 7 .any ((OpenSpec.ofChange Rows.knowledgeExtractsSpec).preRow enc Tryd.prog Tryd.f7 Rows.knowledgeExtractsRow.domain false Rows.knowledgeExtractsRow.laid) (((OpenSpec.ofChange Rows.knowledgeExtractsSpec).at F).post enc Tryd.prog Tryd.f7 false true false false) := by
  obtain ⟨places, hx⟩ := reads os enc
  refine returnsInHanded_of_row (C := Tryd.checked) (s := OpenSpec.ofChange Rows.knowledgeExtractsSpec) own started (by kernel_rfl) Tryd.func7
    (witness_row_at (enc := enc) (C := Tryd.checked) false (laidWorld os) #[.agg #[.int .i64 0, .int .i64 0, .int .i64 0], .int .i64 0, .int .i64 0, .agg #[.slice none 0 0, .int .i64 0, .slice none 0 0], .agg #[.slice none 0 0, .int .i64 0, .slice none 0 0]] rfl (by kernel_rfl) (by kernel_rfl) (by kernel_rfl)
      (OpenSpec.preRow_of_cond 8 hx (by kernel_rfl) (fun k hk => by cases hk) (by kernel_rfl) (laid_met os))) ?_
  intro W base args ds gs before hval hW _ _ _ hL _ _
  exact contract H enc W base args ds gs before hval hW hL

theorem said : Rows.KnowledgeExtractsSaid :=
  OpenClaim.holds_of_cond 7 Tryd.f7 rfl rfl rfl rfl rfl rfl rfl ⟨rfl, rfl, rfl, rfl, rfl⟩ rfl rfl rfl rfl rfl (by kernel_rfl) Tryd.func7 (by kernel_rfl)
    (of_decide_eq_true (by kernel_rfl)) (by unfold Func.isWrapper; first | (rw [if_pos (by decide +kernel)]; kernel_rfl) | (rw [if_neg (by decide +kernel)]; exact ⟨rfl, rfl⟩))
    (fun os started H enc _ F => by rw [OpenClaim.pre_eq_preRow]; exact lifted os started H enc F)

/-- No parameter wants a stand-in; the program's own looks are off: what the card asks. -/
theorem plain (f : FuncId) (fn : Func) (hf : Tryd.pinned.checked.prog.funcNamed "specie/specielaw16.KnowledgeExtracts" = some f) (hfn : Tryd.pinned.checked.prog.funcs[f]? = some fn) :
    false = Tryd.pinned.checked.prog.looks [] ∧ ∀ (j : Nat) t, fn.params[j]? = some t → Tryd.pinned.checked.prog.wantsStandIn t = false := by
  obtain rfl : f = 7 := Option.some.inj ((show Tryd.prog.funcNamed "specie/specielaw16.KnowledgeExtracts" = some 7 by kernel_rfl).symm.trans hf) |>.symm
  obtain rfl : fn = Tryd.f7 := (Option.some.inj (Tryd.func7.symm.trans hfn)).symm
  refine ⟨by kernel_rfl, fun j t ht => ?_⟩
  have hall : ∀ t ∈ Tryd.f7.params.toList, Tryd.prog.wantsStandIn t = false := by decide +kernel
  exact hall t (Array.mem_toList_iff.2 (Array.mem_of_getElem? ht))

/-- THE CARD. -/
theorem card : Rows.KnowledgeExtractsCardSaid :=
  Claim7.holds_tied_plain_at .later [] _ _ _ _ said (fun _ h => by cases h) (by kernel_rfl) (fun _ h => by cases h) knowledgeExtracts_row_tie rfl ⟨rfl, rfl⟩ (by kernel_rfl) rfl plain (by kernel_rfl)
end Go.Proofs.YtohjfnhgibedpaaDoor.knowledgeExtracts
