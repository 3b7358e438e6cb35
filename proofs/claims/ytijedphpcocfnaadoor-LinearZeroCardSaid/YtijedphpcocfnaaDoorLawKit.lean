/- What every law's end shares: the tables that the row lists, the arguments that stay, the row's last step. -/
import Derived.Test.YtijedphpcocfnaaDoorCards
import Derived.Test.YtijedphpcocfnaaDoorTie
import Derived.Test.YtijedphpcocfnaaDoorAlg
import Derived.ProofKit
import Derived.OpenShut
import Derived.Carry
import Derived.Deep.DeepHandedRow
import Derived.Lib.LaidTab
import Derived.Stop.LaidErr
namespace Go.Proofs.YtijedphpcocfnaaDoor
open Go.ChangeShapes Go.WideShapes Go.ChangeAt Go.RowKit SpM
set_option linter.unusedVariables false
set_option maxRecDepth 100000

theorem own : ownKnob Tryd.prog.godebug = none := by kernel_rfl
theorem laidOut : laidOutB Tryd.prog = true := by kernel_rfl
theorem gBases : Tryd.prog.globalNamed "specie/prime.bases" = some 0 := by kernel_rfl
theorem gBasesType : (Tryd.prog.globals[0]?).map (·.type) = some 108 := by kernel_rfl
theorem gTab : Tryd.prog.globalNamed "math/bits.deBruijn64tab" = some 1 := by kernel_rfl
theorem gTabType : (Tryd.prog.globals[1]?).map (·.type) = some 121 := by kernel_rfl
theorem cellsBases : Tryd.prog.cellsOf 108 = 12 := by kernel_rfl
theorem cellsTab : Tryd.prog.cellsOf 121 = 64 := by kernel_rfl
theorem cellsU64 : Tryd.prog.cellsOf 107 = 1 := by kernel_rfl
theorem cellsU8 : Tryd.prog.cellsOf 5 = 1 := by kernel_rfl
theorem cellsInt : Tryd.prog.cellsOf 3 = 1 := by kernel_rfl
theorem cellsGroup : Tryd.prog.cellsOf 23 = 3 := by kernel_rfl

/-- The row's list gives the two tables. -/
theorem vars_of_laid {W : World} (h : laidMetH Tryd.prog [("math/bits.deBruijn64tab", Rows.laid_math_bits_deBruijn64tab), ("specie/prime.bases", Rows.laid_specie_prime_bases)] W) : Vars W := by
  have h1 : laidMet Tryd.prog [("math/bits.deBruijn64tab", Rows.laid_math_bits_deBruijn64tab), ("specie/prime.bases", Rows.laid_specie_prime_bases)] W := h
  have t1 : Lib.TabIs Tryd.prog W "math/bits.deBruijn64tab" .u8 (Lib.deBruijn64tab.map Int.ofNat) := Lib.tabIs_of_head (rest := [("specie/prime.bases", Rows.laid_specie_prime_bases)]) gTab gTabType Tryd.underlying121 Tryd.underlying5 cellsU8 cellsTab h1
  have t2 : Lib.TabIs Tryd.prog W "specie/prime.bases" .u64 [2, 3, 5, 7, 11, 13, 17, 19, 23, 29, 31, 37] := Lib.tabIs_of_head (rest := []) gBases gBasesType Tryd.underlying108 Tryd.underlying107 cellsU64 cellsBases h1.tail
  refine ⟨fun k hk => ?_, fun j hj => ?_⟩
  · rw [t2.cell gBases k hk]; rfl
  · rw [t1.cell gTab j (by simpa using hj)]
    rw [List.getD_eq_getElem?_getD, List.getD_eq_getElem?_getD, List.getElem?_map]
    rw [List.getElem?_eq_getElem hj]
    rfl

section
variable {H : Type} {enc : TypeId × Value → H}

/-- Arguments read again as they did, where nothing old has turned. -/
theorem stays_all {W W' : World} (hb : Below W.heap.size W W') {sp : Nat → Bool} : ∀ {ts : List TypeId} {vs : List Value} {ds : List (DataW H)} {ps : List MemPlace},
    (∀ t ∈ ts, Tryd.prog.readableRec t = true ∧ t < Tryd.prog.types.size) → DataW.TrodAll enc Tryd.prog W 0 (fun _ => true) true ts vs ds ps → (∀ x ∈ ps, x.block < W.heap.size) → (∀ x ∈ ps, sp x.block = true) →
    DataW.TrodAll enc Tryd.prog W' 0 sp true ts vs ds ps
  | [], _, _, _, _, h, _, _ => by
    obtain ⟨rfl, rfl, rfl⟩ := trodAll_nil h
    exact trodAll_mk0
  | t :: ts, _, _, _, ht, h, hlt, hs => by
    obtain ⟨v, vs', d, ds', p, q, rfl, rfl, rfl, h0, hr⟩ := trodAll_cons h
    have h1 := ht t (List.mem_cons_self ..)
    exact trodAll_cons_mk (WideElems.Trod_stays laidOut h1.1 h1.2 h0 (fun x hx => hb.same (hlt x (List.mem_append_left _ hx))) (fun x hx => hs x (List.mem_append_left _ hx)))
      (stays_all hb (fun t' h' => ht t' (List.mem_cons_of_mem _ h')) hr (fun x hx => hlt x (List.mem_append_right _ hx)) (fun x hx => hs x (List.mem_append_right _ hx)))

/-- THE LAST STEP OF A LAW's ROW: the call returned true and turned nothing old. -/
theorem law_post {f : Func} {s : ChangeSpec} {apart fresh handsOn again : Bool} {W W' : World} {args : Array Value} {ds gs : List (DataW H)} {before : List MemPlace}
    (hts : ∀ t ∈ f.params.toList, Tryd.prog.readableRec t = true ∧ t < Tryd.prog.types.size)
    (hv : s.vars = []) (hres : f.resultTypes = #[4])
    (hW : DataW.Whole enc Tryd.prog f.params.toList s.vars apart W args.toList ds gs before)
    (hfn : s.fn H (ds ++ gs) = { results := [.lit (.bool true)], args := ds }) (hb : Below W.heap.size W W') :
    s.post enc Tryd.prog f apart fresh handsOn again W args (.bool true) W' := by
  have hlt : ∀ p ∈ before, p.block < W.heap.size := fun p hp => hW.lt p hp
  have hW2 := hW
  obtain ⟨pa, pv, hA, hV, hps, hz, hn⟩ := hW
  rw [hv] at hV
  obtain ⟨hg, hpv⟩ := trodVars_none hV
  subst hg; subst hpv
  rw [List.append_nil] at hps
  subst hps
  have hargs : ∀ sp : Nat → Bool, (∀ p ∈ before, sp p.block = true) → DataW.TrodAll enc Tryd.prog W' 0 sp true f.params.toList args.toList (s.fn H (ds ++ [])).args before := fun sp hsp => by
    rw [hfn]; exact stays_all hb hts hA hlt hsp
  have hvars : ∀ sp : Nat → Bool, DataW.TrodVars enc Tryd.prog W' sp s.vars (s.fn H (ds ++ [])).vars [] := fun sp => by
    rw [hfn, hv]; rfl
  have hress : ∀ (b : Nat) (sp : Nat → Bool) (hd : Bool), DataW.TrodAll enc Tryd.prog W' b sp hd f.resultTypes.toList ((Value.bool true).resultList f.resultTypes.size) (s.fn H (ds ++ [])).results [] := fun b sp hd => by
    rw [hfn, hres]; exact trodAll_cons_mk (shut_bool Tryd.underlying4 _) trodAll_mk0
  have hold : ∀ p ∈ before, (fun b => decide (b < W.heap.size)) p.block = true := fun p hp => by simpa using hlt p hp
  refine ⟨ds, [], before, [], before, [], hW2, hress _ _ _, hargs _ hold, hvars _, World.keptBut_mono (fun p hp => ⟨hp, ?_⟩) (hb.frame (· ∈ before)), fun _ => ?_⟩
  · exact Or.inr (Or.inl hp)
  · refine ⟨ok_one hres rfl (okWide_bool_mk Tryd.underlying4 _), _, _, ([] ++ before) ++ [], ⟨[] ++ before, [], trodAll_append (hargs _ (fun _ _ => rfl)) (hress _ _ _), hvars _, rfl, ?_, ?_⟩, ?_⟩
    · intro b off hp
      have hin : MemPlace.cell b off ∈ before := by simpa using hp
      rw [hb.frozen (hlt _ hin)]
      exact hz b off hin
    · intro ha
      simpa using hn ha
    · intro p hp _
      simpa using hp
end

section
variable {H : Type} {enc : TypeId × Value → H} {w : World} {base : Nat} {spare : Nat → Bool} {held : Bool}

theorem take1 {α : Type} (x : α) (l : List α) : (x :: l).take 1 = [x] := rfl

/-- an int argument, with its bounds. -/
theorem open_i64 {r : Reach} {b0 : Nat} {v : Value} {d : DataW H} {ps : List MemPlace} (hval : Value.okWide Tryd.prog w r b0 3 v) (hd : DataW.Trod enc Tryd.prog w base spare held 3 v d ps) :
    ∃ n, v = .int .i64 n ∧ -9223372036854775808 ≤ n ∧ n ≤ 9223372036854775807 := by
  obtain ⟨n, rfl, _, _, hw⟩ := open_int Tryd.underlying3 hval hd
  exact ⟨n, rfl, bounds_i64 hw⟩

theorem open_group_cells {n : Nat} {cs : List Value} {x : DataW H × List MemPlace} (h : DataW.trod enc Tryd.prog w base spare held n 23 cs = some x) :
    ∃ P Q G : Int, cs = [.int .i64 P, .int .i64 Q, .int .i64 G] ∧ (-9223372036854775808 ≤ P ∧ P ≤ 9223372036854775807) ∧ (-9223372036854775808 ≤ Q ∧ Q ≤ 9223372036854775807) ∧ (-9223372036854775808 ≤ G ∧ G ≤ 9223372036854775807) := by
  obtain ⟨xs, m, rfl, rfl, hl, hxl, hf⟩ := DataW.trod_struct Tryd.underlying23 h
  rw [cellsGroup] at hl
  match cs, hl with
  | [c0, c1, c2], _ =>
    have f0 : DataW.trod enc Tryd.prog w base spare held m 3 (([c0, c1, c2].drop 0).take (Tryd.prog.cellsOf 3)) = xs[0]? := hf 0 _ rfl
    have f1 : DataW.trod enc Tryd.prog w base spare held m 3 (([c0, c1, c2].drop 1).take (Tryd.prog.cellsOf 3)) = xs[1]? := hf 1 _ rfl
    have f2 : DataW.trod enc Tryd.prog w base spare held m 3 (([c0, c1, c2].drop 2).take (Tryd.prog.cellsOf 3)) = xs[2]? := hf 2 _ rfl
    rw [cellsInt] at f0 f1 f2
    have hl3 : xs.length = 3 := hxl
    match xs, hl3 with
    | [x0, x1, x2], _ =>
      obtain ⟨P, hP, _, wP⟩ := DataW.trod_int Tryd.underlying3 f0
      obtain ⟨Q, hQ, _, wQ⟩ := DataW.trod_int Tryd.underlying3 f1
      obtain ⟨G, hG, _, wG⟩ := DataW.trod_int Tryd.underlying3 f2
      simp at hP hQ hG
      subst hP; subst hQ; subst hG
      exact ⟨P, Q, G, rfl, bounds_i64 wP, bounds_i64 wQ, bounds_i64 wG⟩

/-- a group argument. -/
theorem open_group {r : Reach} {b0 : Nat} {v : Value} {d : DataW H} {ps : List MemPlace} (hval : Value.okWide Tryd.prog w r b0 23 v) (hd : DataW.Trod enc Tryd.prog w base spare held 23 v d ps) :
    ∃ P Q G : Int, v = gv P Q G ∧ (-9223372036854775808 ≤ P ∧ P ≤ 9223372036854775807) ∧ (-9223372036854775808 ≤ Q ∧ Q ≤ 9223372036854775807) ∧ (-9223372036854775808 ≤ G ∧ G ≤ 9223372036854775807) := by
  obtain ⟨cs, rfl, hsz⟩ := okWide_struct Tryd.underlying23 hval
  obtain ⟨n, h⟩ := hd
  obtain ⟨P, Q, G, hcs, hb⟩ := open_group_cells h
  refine ⟨P, Q, G, ?_, hb⟩
  have : cs = #[.int .i64 P, .int .i64 Q, .int .i64 G] := by
    cases cs
    simpa [Value.cells] using hcs
  rw [this]

end

/-- A WORLD FOR THE WITNESS: the settled one, the two tables holding what their initialisers lay. -/
def layBases : Obj → Obj
  | .cells _ t frozen => .cells #[.int .u64 2, .int .u64 3, .int .u64 5, .int .u64 7, .int .u64 11, .int .u64 13, .int .u64 17, .int .u64 19, .int .u64 23, .int .u64 29, .int .u64 31, .int .u64 37] t frozen
  | o => o
def layTab : Obj → Obj
  | .cells _ t frozen => .cells (Lib.deBruijn64tab.map fun n : Nat => Value.int .u8 (n : Int)).toArray t frozen
  | o => o
noncomputable def laidWorld (os : Os) : World :=
  { World.holding Tryd.prog os ⟨#[], #[], []⟩ with heap := ((World.holding Tryd.prog os ⟨#[], #[], []⟩).heap.modify 0 layBases).modify 1 layTab }
end Go.Proofs.YtijedphpcocfnaaDoor
