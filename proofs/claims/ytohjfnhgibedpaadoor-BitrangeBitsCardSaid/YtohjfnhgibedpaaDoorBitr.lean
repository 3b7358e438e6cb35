/- BITRANGEBITS: Bits and Join return what the reference says: the law returns true for every input. Condition: the listed package variables (the bases of the prime test, and the table of math/bits) start as the program's text lays them; the card ties them to the text. -/
import Derived.Test.YtohjfnhgibedpaaDoorLawKit
import Derived.Test.YtohjfnhgibedpaaDoorBitrB
namespace Go.Proofs.YtohjfnhgibedpaaDoor.bitrangeBits
open Go.ChangeShapes Go.WideShapes Go.ChangeAt Go.RowKit SpM
set_option linter.unusedVariables false

section
variable {H : Type} {enc : TypeId × Value → H} {w : World} {base : Nat} {held : Bool}
set_option maxRecDepth 100000 in
theorem open_sl {r : Reach} {b0 : Nat} {v : Value} {d : DataW H} {ps : List MemPlace} (hval : Value.okWide Tryd.prog w r b0 26 v) (hd : DataW.Trod enc Tryd.prog w base (fun _ => true) held 26 v d ps) :
    ∃ (A : Option Addr) (n c : Nat) (xs : List Int), v = .slice A n c ∧ xs.length = n ∧ Sl w A xs := by
  obtain ⟨a, len, cap, rfl⟩ := okWide_slice Tryd.underlying26 hval
  obtain ⟨n, h⟩ := hd
  rcases open_ints Tryd.underlying26 Tryd.underlying3 cellsInt h with ⟨h0, _⟩ | ⟨a', len', cap', zs, h0, _, hlc, _, hz, _, hcell, _⟩
  · simp [Value.cells] at h0
    obtain ⟨rfl, rfl, rfl⟩ := h0
    exact ⟨none, 0, 0, [], rfl, rfl, fun k hk => absurd hk (by simp)⟩
  · simp [Value.cells] at h0
    obtain ⟨rfl, rfl, rfl⟩ := h0
    simp at hz
    refine ⟨some a', len, cap, zs.take len, rfl, by rw [List.length_take]; omega, fun k hk => ?_⟩
    rw [List.length_take] at hk
    obtain ⟨b, off, rfl, hc⟩ := ints_at hcell (by omega)
    refine ⟨b, off, rfl, ?_⟩
    rw [hc k (by omega), List.getD_eq_getElem?_getD, List.getD_eq_getElem?_getD, List.getElem?_take_of_lt (by omega)]
end

set_option maxRecDepth 100000 in
theorem contract (H : Type) (enc : TypeId × Value → H) (W : World) (base : Nat) (args : Array Value) (ds gs : List (DataW H)) (before : List MemPlace)
    (hval : ∀ (j : Nat) t v, Tryd.f3.params[j]? = some t → args[j]? = some v → Value.okWide Tryd.prog W .any base t v)
    (hW : DataW.Whole enc Tryd.prog Tryd.f3.params.toList Rows.bitrangeBitsSpec.vars false W args.toList ds gs before) (hL : laidMetH Tryd.prog Rows.bitrangeBitsRow.laid W) :
    Calls Tryd.prog 3 args W fun e W' => ∃ v, e = .returned v ∧ Rows.bitrangeBitsSpec.post enc Tryd.prog Tryd.f3 false true false false W args v W' := by
  have hW' := hW
  obtain ⟨p, q, hA0, hV, rfl, hfz, hnd⟩ := hW
  have hA : DataW.TrodAll enc Tryd.prog W 0 (fun _ => true) true Tryd.f3.params.toList args.toList ds p := hA0
  rw [Tryd.params3] at hA hval
  obtain ⟨v0, vs0, d0, ds0, p0, q0, hargs, rfl, rfl, h0, r0⟩ := trodAll_cons hA
  obtain ⟨v1, vs1, d1, ds1, p1, q1, rfl, rfl, rfl, h1, r1⟩ := trodAll_cons r0
  obtain ⟨v2, vs2, d2, ds2, p2, q2, rfl, rfl, rfl, h2, r2⟩ := trodAll_cons r1
  obtain ⟨v3, vs3, d3, ds3, p3, q3, rfl, rfl, rfl, h3, r3⟩ := trodAll_cons r2
  obtain ⟨rfl, rfl, rfl⟩ := trodAll_nil r3
  obtain rfl : args = #[v0, v1, v2, v3] := by cases args; simp_all
  obtain ⟨rfl, rfl⟩ := trodVars_none hV
  obtain ⟨P, Q, G, A, B, C, rfl, ⟨hP0, hP1⟩, ⟨hQ0, hQ1⟩⟩ := open_bases (hval 0 _ v0 rfl rfl) h0
  obtain ⟨m, rfl, _, hm1⟩ := open_i64 (hval 1 _ v1 rfl rfl) h1
  obtain ⟨n, rfl, _, _⟩ := open_i64 (hval 2 _ v2 rfl rfl) h2
  obtain ⟨S, l, c, xs, rfl, hl, hS⟩ := open_sl (hval 3 _ v3 rfl rfl) h3
  have hvars : Vars W := vars_of_laid hL
  refine (bitr_true P Q G A B C m n S xs l c (Lib.hid hl) (by omega) (by omega) W hvars (Lib.hid hS)).mono fun e W' ⟨he, hb⟩ => ?_
  exact ⟨_, he, law_post (by decide +kernel) rfl rfl hW' rfl hb⟩

theorem laid_met (os : Os) : laidMet Tryd.prog Rows.bitrangeBitsRow.laid ((laidWorld os).forCall (fun _ _ => 0) ⟨#[], #[.agg #[.int .i64 0, .int .i64 0, .int .i64 0, .int .i64 0, .int .i64 0, .int .i64 0], .int .i64 0, .int .i64 0, .slice none 0 0], []⟩).memory :=
  laidMet_of_run' 8 (by kernel_rfl) (by kernel_rfl)
theorem reads (os : Os) {H : Type} (enc : TypeId × Value → H) : ∃ places, DataW.whole enc Tryd.prog ((laidWorld os).forCall (fun _ _ => 0) ⟨#[], #[.agg #[.int .i64 0, .int .i64 0, .int .i64 0, .int .i64 0, .int .i64 0, .int .i64 0], .int .i64 0, .int .i64 0, .slice none 0 0], []⟩).memory Tryd.f3.params.toList Rows.bitrangeBitsSpec.vars false
    #[.agg #[.int .i64 0, .int .i64 0, .int .i64 0, .int .i64 0, .int .i64 0, .int .i64 0], .int .i64 0, .int .i64 0, .slice none 0 0].toList 8 = some ([.agg [.agg [.lit (.int .i64 0), .lit (.int .i64 0), .lit (.int .i64 0)], .lit (.int .i64 0), .lit (.int .i64 0), .lit (.int .i64 0)], .lit (.int .i64 0), .lit (.int .i64 0), .nil], [], places) :=
  ⟨[], by kernel_rfl⟩

set_option maxRecDepth 100000 in
theorem lifted (os : Os) (started : os.Started) (H : Type) (enc : TypeId × Value → H) (F : Stop.Interp) :
    ReturnsInHanded {} Tryd.checked os 3 .any ((OpenSpec.ofChange Rows.bitrangeBitsSpec).preRow enc Tryd.prog Tryd.f3 Rows.bitrangeBitsRow.domain false Rows.bitrangeBitsRow.laid) (((OpenSpec.ofChange Rows.bitrangeBitsSpec).at F).post enc Tryd.prog Tryd.f3 false true false false) := by
  obtain ⟨places, hx⟩ := reads os enc
  refine returnsInHanded_of_row (C := Tryd.checked) (s := OpenSpec.ofChange Rows.bitrangeBitsSpec) own started (by kernel_rfl) Tryd.func3
    (witness_row_at (enc := enc) (C := Tryd.checked) false (laidWorld os) #[.agg #[.int .i64 0, .int .i64 0, .int .i64 0, .int .i64 0, .int .i64 0, .int .i64 0], .int .i64 0, .int .i64 0, .slice none 0 0] rfl (by kernel_rfl) (by kernel_rfl) (by kernel_rfl)
      (OpenSpec.preRow_of_cond 8 hx (by kernel_rfl) (fun k hk => by cases hk) (by kernel_rfl) (laid_met os))) ?_
  intro W base args ds gs before hval hW _ _ _ hL _ _
  exact contract H enc W base args ds gs before hval hW hL

theorem said : Rows.BitrangeBitsSaid :=
  OpenClaim.holds_of_cond 3 Tryd.f3 rfl rfl rfl rfl rfl rfl rfl ⟨rfl, rfl, rfl, rfl, rfl⟩ rfl rfl rfl rfl rfl (by kernel_rfl) Tryd.func3 (by kernel_rfl)
    (of_decide_eq_true (by kernel_rfl)) (by unfold Func.isWrapper; first | (rw [if_pos (by decide +kernel)]; kernel_rfl) | (rw [if_neg (by decide +kernel)]; exact ⟨rfl, rfl⟩))
    (fun os started H enc _ F => by rw [OpenClaim.pre_eq_preRow]; exact lifted os started H enc F)

/-- No parameter wants a stand-in; the program's own looks are off: what the card asks. -/
theorem plain (f : FuncId) (fn : Func) (hf : Tryd.pinned.checked.prog.funcNamed "specie/specielaw20.BitrangeBits" = some f) (hfn : Tryd.pinned.checked.prog.funcs[f]? = some fn) :
    false = Tryd.pinned.checked.prog.looks [] ∧ ∀ (j : Nat) t, fn.params[j]? = some t → Tryd.pinned.checked.prog.wantsStandIn t = false := by
  obtain rfl : f = 3 := Option.some.inj ((show Tryd.prog.funcNamed "specie/specielaw20.BitrangeBits" = some 3 by kernel_rfl).symm.trans hf) |>.symm
  obtain rfl : fn = Tryd.f3 := (Option.some.inj (Tryd.func3.symm.trans hfn)).symm
  refine ⟨by kernel_rfl, fun j t ht => ?_⟩
  have hall : ∀ t ∈ Tryd.f3.params.toList, Tryd.prog.wantsStandIn t = false := by decide +kernel
  exact hall t (Array.mem_toList_iff.2 (Array.mem_of_getElem? ht))

/-- THE CARD. -/
theorem card : Rows.BitrangeBitsCardSaid :=
  Claim7.holds_tied_plain_at .later [] _ _ _ _ said (fun _ h => by cases h) (by kernel_rfl) (fun _ h => by cases h) bitrangeBits_row_tie rfl ⟨rfl, rfl⟩ (by kernel_rfl) rfl plain (by kernel_rfl)
end Go.Proofs.YtohjfnhgibedpaaDoor.bitrangeBits
