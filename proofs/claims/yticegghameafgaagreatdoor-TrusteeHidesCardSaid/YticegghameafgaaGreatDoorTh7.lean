/- TRUSTEEHIDES: fewer trustees than are needed know nothing: the law returns true for every input. Condition: the listed package variables (the bases of the prime test, the table of math/bits, the constants and the start of the digest) start as the program's text lays them; the card ties them to the text. -/
import Derived.Test.YticegghameafgaaGreatDoorTh6
set_option linter.unusedVariables false
set_option linter.unusedSimpArgs false
set_option maxRecDepth 100000
set_option maxHeartbeats 25600000
namespace Go.Proofs.YticegghameafgaaGreatDoor.trusteeHides
open Go.ChangeShapes Go.WideShapes Go.ChangeAt Go.RowKit jk
theorem contract (H : Type) (enc : TypeId × Value → H) (W : World) (base : Nat) (args : Array Value) (ds gs : List (DataW H)) (before : List MemPlace)
  (hval : ∀ (j : Nat) t v, Tryz.f4.params[j]? = some t → args[j]? = some v → Value.okWide Tryz.prog W .any base t v)
  (hW : DataW.Whole enc Tryz.prog Tryz.f4.params.toList Rows.trusteeHidesSpec.vars false W args.toList ds gs before) (hL : laidMetH Tryz.prog Rows.trusteeHidesRow.laid W) :
  Calls Tryz.prog 4 args W fun e W' => ∃ v, e = .returned v ∧ Rows.trusteeHidesSpec.post enc Tryz.prog Tryz.f4 false true false false W args v W' := by
 have hW' := hW
 obtain ⟨p, q, Rq, hV, rfl, hfz, hnd⟩ := hW
 have hA : DataW.TrodAll enc Tryz.prog W 0 (fun _ => true) true Tryz.f4.params.toList args.toList ds p := Rq
 rw [Tryz.params4] at hA hval
 obtain ⟨v0, TG, d0, ds0, p0, q0, hargs, rfl, rfl, h0, r0⟩ := trodAll_cons hA
 obtain ⟨v1, vs1, d1, ds1, p1, q1, rfl, rfl, rfl, h1, r1⟩ := trodAll_cons r0
 obtain ⟨v2, vs2, d2, Uz, p2, q2, rfl, rfl, rfl, h2, r2⟩ := trodAll_cons r1
 obtain ⟨v3, vs3, d3, ds3, p3, q3, rfl, rfl, rfl, h3, r3⟩ := trodAll_cons r2
 obtain ⟨v4, TF, d4, Uy, p4, q4, rfl, rfl, rfl, h4, r4⟩ := trodAll_cons r3
 obtain ⟨rfl, rfl, rfl⟩ := trodAll_nil r4
 obtain rfl : args = #[v0, v1, v2, v3, v4] := by cases args; simp_all
 obtain ⟨rfl, rfl⟩ := trodVars_none hV
 obtain ⟨P, Q, G, rfl, ⟨Rn, hP1⟩, ⟨NH, Uu⟩, _⟩ := vv (hval 0 _ v0 rfl rfl) h0
 obtain ⟨need, rfl, _, _⟩ := sP (hval 1 _ v1 rfl rfl) h1
 obtain ⟨n, rfl, _, _⟩ := sP (hval 2 _ v2 rfl rfl) h2
 obtain ⟨h, dc, rfl, hl, tL⟩ := yY (hval 3 _ v3 rfl rfl) h3
 obtain ⟨bs, rfl, _, _, hbw⟩ := open_int Tryz.underlying5 (hval 4 _ v4 rfl rfl) h4
 have hbb := bounds_u8 hbw
 have hvars := oG hL
 refine (DZ P Q G need n h dc bs (aa hl) (aa tL) hbb.1 (by have := hbb.2; omega) (by omega) W (aa hvars.1) (aa hvars.2)).mono fun e W' ⟨he, hb⟩ => ?_
 exact ⟨_, he, BF (by decide +kernel) rfl rfl hW' rfl hb⟩
theorem BG (os : Os) : laidMet Tryz.prog Rows.trusteeHidesRow.laid ((ja os).forCall (fun _ _ => 0) ⟨#[], #[.agg #[.int .i64 0, .int .i64 0, .int .i64 0], .int .i64 0, .int .i64 0, xu, .int .u8 0], []⟩).memory :=
 laidMet_of_run' 8 (by kernel_rfl) (by kernel_rfl)
theorem reads (os : Os) {H : Type} (enc : TypeId × Value → H) : ∃ places, DataW.whole enc Tryz.prog ((ja os).forCall (fun _ _ => 0) ⟨#[], #[.agg #[.int .i64 0, .int .i64 0, .int .i64 0], .int .i64 0, .int .i64 0, xu, .int .u8 0], []⟩).memory Tryz.f4.params.toList Rows.trusteeHidesSpec.vars false
  #[.agg #[.int .i64 0, .int .i64 0, .int .i64 0], .int .i64 0, .int .i64 0, xu, .int .u8 0].toList 8 = some ([.agg [.lit (.int .i64 0), .lit (.int .i64 0), .lit (.int .i64 0)], .lit (.int .i64 0), .lit (.int .i64 0), Gz, .lit (.int .u8 0)], [], places) :=
 ⟨[], by kernel_rfl⟩
theorem lifted (os : Os) (started : os.Started) (H : Type) (enc : TypeId × Value → H) (F : Stop.Interp) :
  ReturnsInHanded {} Tryz.checked os 4 .any ((OpenSpec.ofChange Rows.trusteeHidesSpec).preRow enc Tryz.prog Tryz.f4 Rows.trusteeHidesRow.domain false Rows.trusteeHidesRow.laid) (((OpenSpec.ofChange Rows.trusteeHidesSpec).at F).post enc Tryz.prog Tryz.f4 false true false false) := by
 obtain ⟨places, hx⟩ := reads os enc
 refine returnsInHanded_of_row (C := Tryz.checked) (s := OpenSpec.ofChange Rows.trusteeHidesSpec) own started (by kernel_rfl) Tryz.func4
  (witness_row_at (enc := enc) (C := Tryz.checked) false (ja os) #[.agg #[.int .i64 0, .int .i64 0, .int .i64 0], .int .i64 0, .int .i64 0, xu, .int .u8 0] rfl (by kernel_rfl) (by kernel_rfl) (by kernel_rfl)
   (OpenSpec.preRow_of_cond 8 hx (by kernel_rfl) (fun k hk => by cases hk) (by kernel_rfl) (BG os))) ?_
 intro W base args ds gs before hval hW _ _ _ hL _ _
 exact contract H enc W base args ds gs before hval hW hL
theorem said : Rows.TrusteeHidesSaid :=
 OpenClaim.holds_of_cond 4 Tryz.f4 rfl rfl rfl rfl rfl rfl rfl ⟨rfl, rfl, rfl, rfl, rfl⟩ rfl rfl rfl rfl rfl (by kernel_rfl) Tryz.func4 (by kernel_rfl)
  (of_decide_eq_true (by kernel_rfl)) (by unfold Func.isWrapper; first | (rw [if_pos (by decide +kernel)]; kernel_rfl) | (rw [if_neg (by decide +kernel)]; exact ⟨rfl, rfl⟩))
  (fun os started H enc _ F => by rw [OpenClaim.pre_eq_preRow]; exact lifted os started H enc F)
/-- No parameter wants a stand-in; the program's own looks are off: what the card asks. -/
theorem plain (f : FuncId) (fn : Func) (hf : Tryz.pinned.checked.prog.funcNamed "specie/specielaw50.TrusteeHides" = some f) (hfn : Tryz.pinned.checked.prog.funcs[f]? = some fn) :
  false = Tryz.pinned.checked.prog.looks [] ∧ ∀ (j : Nat) t, fn.params[j]? = some t → Tryz.pinned.checked.prog.wantsStandIn t = false := by
 obtain rfl : f = 4 := Option.some.inj ((show Tryz.prog.funcNamed "specie/specielaw50.TrusteeHides" = some 4 by kernel_rfl).symm.trans hf) |>.symm
 obtain rfl : fn = Tryz.f4 := (Option.some.inj (Tryz.func4.symm.trans hfn)).symm
 refine ⟨by kernel_rfl, fun j t ht => ?_⟩
 have hall : ∀ t ∈ Tryz.f4.params.toList, Tryz.prog.wantsStandIn t = false := by decide +kernel
 exact hall t (Array.mem_toList_iff.2 (Array.mem_of_getElem? ht))
/-- THE CARD. -/
theorem card : Rows.TrusteeHidesCardSaid :=
 Claim7.holds_tied_plain_at .later [] _ _ _ _ said (fun _ h => by cases h) (by kernel_rfl) (fun _ h => by cases h) trusteeHides_row_tie rfl ⟨rfl, rfl⟩ (by kernel_rfl) rfl plain (by kernel_rfl)
end Go.Proofs.YticegghameafgaaGreatDoor.trusteeHides