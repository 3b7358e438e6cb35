/- Regions that draw their order and end in an append and a store to a cell that they read: S is not asked for behind those. -/
import Derived.Deep.RegionHeld3
namespace Go.Proofs.YtijedphpcocfnaaDoor
open Go

section
variable {P : Program} {ops : Array Oper} {Q : Exit → Act → World → Prop} {md : Region.Mode} {S : World → Prop} {E : List Nat}

/-- Whatever order is picked, and S holds behind every operation but those of E. -/
def wpT (P : Program) (md : Region.Mode) (ops : Array Oper) (Q : Exit → Act → World → Prop) (S : World → Prop) (E : List Nat) : Nat → Array Bool → Act → World → Prop
  | 0, listed, a, w => Region.ready md ops listed = [] ∧ Q .normal a w
  | fuel + 1, listed, a, w =>
    (Region.ready md ops listed = [] → Q .normal a w) ∧
    ∀ i ∈ Region.ready md ops listed, wpOp P ops Q i (fun a' w' => (i ∉ E → S w') ∧ wpT P md ops Q S E fuel (listed.setIfInBounds i true) a' w') a w

theorem wpAny_of_T : ∀ (fuel : Nat) (listed : Array Bool) (a : Act) (w : World), wpT P md ops Q S E fuel listed a w → wpAny P md ops Q fuel listed a w
  | 0, _, _, _, h => h
  | fuel + 1, _, _, _, h => ⟨h.1, fun i hi => wpOp_mono (fun a' w' h' => wpAny_of_T fuel _ a' w' h'.2) (h.2 i hi)⟩

/-- the operations that wait for i, one behind another. -/
def depsOf (md : Region.Mode) (ops : Array Oper) (i : Nat) : List Nat :=
  (List.range ops.size).foldl (fun C x => if ((ops[x]?).map (·.after.any fun e => Region.binds md e && (e.on == i || C.contains e.on))).getD false then x :: C else C) []
/-- those of E wait for i, by way of operations that have not come up. -/
def lateB (md : Region.Mode) (ops : Array Oper) (listed : Array Bool) (i : Nat) (E : List Nat) : Bool :=
  (E.all fun s => (depsOf md ops i).contains s) && (depsOf md ops i).all fun x => !listed.getD x true && ((ops[x]?).map (·.after.any fun e => Region.binds md e && (e.on == i || (depsOf md ops i).contains e.on))).getD false
/-- what lateB says. -/
def Late (md : Region.Mode) (ops : Array Oper) (C : List Nat) (listed : Array Bool) (i : Nat) : Prop :=
  ∀ x ∈ C, listed.getD x true = false ∧ ∃ o, ops[x]? = some o ∧ ∃ e ∈ o.after, Region.binds md e = true ∧ (e.on = i ∨ e.on ∈ C)
theorem lateB_spec {listed : Array Bool} {i : Nat} (h : lateB md ops listed i E = true) : (∀ s ∈ E, s ∈ depsOf md ops i) ∧ Late md ops (depsOf md ops i) listed i := by
  unfold lateB at h
  rw [Bool.and_eq_true] at h
  refine ⟨fun s hs => by simpa using List.all_eq_true.1 h.1 s hs, fun x hx => ?_⟩
  have h2 := List.all_eq_true.1 h.2 x hx
  rw [Bool.and_eq_true] at h2
  refine ⟨by simpa using h2.1, ?_⟩
  have h3 := h2.2
  cases ho : ops[x]? with
  | none => rw [ho] at h3; simp at h3
  | some o =>
    rw [ho] at h3
    simp only [Option.map_some, Option.getD_some] at h3
    obtain ⟨e, he, hb⟩ := Array.any_eq_true'.1 h3
    simp only [Bool.and_eq_true, Bool.or_eq_true, beq_iff_eq] at hb
    exact ⟨o, rfl, e, he, hb.1, hb.2.imp id (by simp)⟩
theorem Late.not_ready {C : List Nat} {listed : Array Bool} {i j : Nat} (h : Late md ops C listed i) (hi : listed.getD i true = false) (hj : j ∈ Region.ready md ops listed) : j ∉ C := fun hc => by
  obtain ⟨_, o, ho, e, he, hb, h4⟩ := h j hc
  obtain ⟨_, o', ho', hall⟩ := mem_ready.1 hj
  rw [ho] at ho'
  cases ho'
  have h5 := hall e he hb
  have h6 : listed.getD e.on true = false := by
    rcases h4 with h4 | h4
    · rw [h4]; exact hi
    · exact (h _ h4).1
  rcases Nat.lt_or_ge e.on listed.size with h' | h'
  · simp [h'] at h5 h6; rw [h6] at h5; cases h5
  · simp [Array.getElem?_eq_none h'] at h5
theorem Late.step {C : List Nat} {listed : Array Bool} {i j : Nat} (h : Late md ops C listed i) (hj : j ∉ C) : Late md ops C (listed.setIfInBounds j true) i := fun x hx => by
  obtain ⟨h1, h2⟩ := h x hx
  have hne : j ≠ x := fun e => hj (by rw [e]; exact hx)
  exact ⟨by rw [getD_set_ne true hne]; exact h1, h2⟩

theorem wpT_first {i : Nat} {oi : Oper} {v : Value} {C : List Nat} (hs : ∀ s ∈ E, s ∈ C) (hi : ops[i]? = some oi) (hsel : ∀ (j : Nat) (o : Oper) cs b, ops[j]? = some o → o.op ≠ .select cs b)
    (hQ : ∀ c a w, Q (.panic c) (a.put oi.dst v) w → Q (.panic c) a w) :
    ∀ (fuel : Nat) (listed : Array Bool) (a : Act) (w : World),
      (∀ j oj, ops[j]? = some oj → j ≠ i → listed.getD j true = false → (∀ e ∈ oj.after, Region.binds md e = true → e.on ≠ i) → oi.apart ops oj = true) →
      Late md ops C listed i → i ∈ Region.ready md ops listed → YieldsIf P ops S oi v a → S w →
      wpT P md ops Q S E fuel (listed.setIfInBounds i true) (a.put oi.dst v) w → wpT P md ops Q S E (fuel + 1) listed a w := by
  intro fuel
  induction fuel with
  | zero =>
    intro listed a w _ _ hr hy hS H
    refine ⟨fun h => (by rw [h] at hr; cases hr), fun j hj => ?_⟩
    by_cases hji : j = i
    · subst hji; exact hy.wpOp hi hS ⟨fun _ => hS, H⟩
    · have := ready_mono hj hji
      rw [H.1] at this
      cases this
  | succ fuel ih =>
    intro listed a w hfree hlate hr hy hS H
    refine ⟨fun h => (by rw [h] at hr; cases hr), fun j hj => ?_⟩
    by_cases hji : j = i
    · subst hji; exact hy.wpOp hi hS ⟨fun _ => hS, H⟩
    · have h1 := H.2 j (ready_mono hj hji)
      have hiun := (mem_ready.1 hr).1
      have hjC := hlate.not_ready hiun hj
      have hjs : j ∉ E := fun e => hjC (hs j e)
      obtain ⟨hjun, oj, hoj, hall⟩ := mem_ready.1 hj
      have hnot : ∀ e ∈ oj.after, Region.binds md e = true → e.on ≠ i := fun e he hb heq => by
        have h1 := hall e he hb
        have h0 := (mem_ready.1 hr).1
        rw [heq] at h1
        rcases Nat.lt_or_ge i listed.size with h' | h'
        · simp [h'] at h0 h1; rw [h0] at h1; cases h1
        · simp [Array.getElem?_eq_none h'] at h1
      have h2 := wpOp_putIf hoj (hfree j oj hoj hji hjun hnot) (fun cs b => hsel i oi cs b hi) (fun cs b => hsel j oj cs b hoj) hQ hy h1
      have hfree' : ∀ k ok, ops[k]? = some ok → k ≠ i → (listed.setIfInBounds j true).getD k true = false →
          (∀ e ∈ ok.after, Region.binds md e = true → e.on ≠ i) → oi.apart ops ok = true := fun k ok hk hki hun hno => by
        refine hfree k ok hk hki ?_ hno
        by_cases hjk : j = k
        · subst hjk; exact hjun
        · rw [getD_set_ne true hjk] at hun; exact hun
      refine wpOp_mono (fun a' w' h3 => ⟨fun _ => h3.2.1 hjs, ih (listed.setIfInBounds j true) a' w' hfree' (hlate.step hjC) (ready_mono hr (Ne.symm hji)) h3.1 (h3.2.1 hjs) ?_⟩) h2
      rw [Array.setIfInBounds_comm _ _ hji]
      exact h3.2.2

/-- Take number i first. -/
theorem wpT_take {i : Nat} {oi : Oper} {v : Value} {fuel : Nat} {listed : Array Bool} {a : Act} {w : World} (hi : ops[i]? = some oi)
    (hs : Region.noSelect ops = true) (hf : Region.free md ops listed i = true) (hr : (Region.ready md ops listed).contains i = true) (hl : lateB md ops listed i E = true)
    (hQ : ∀ c a w, Q (.panic c) (a.put oi.dst v) w → Q (.panic c) a w) (hy : YieldsIf P ops S oi v a) (hS : S w)
    (h : wpT P md ops Q S E fuel (listed.setIfInBounds i true) (a.put oi.dst v) w) : wpT P md ops Q S E (fuel + 1) listed a w :=
  wpT_first (lateB_spec hl).1 hi (Region.noSelect_spec hs) hQ fuel listed a w (Region.free_spec hi hf) (lateB_spec hl).2 (by simpa using hr) hy hS h

/-- The only one that may come up comes up: S is to be shown anew. -/
theorem wpT_one {i : Nat} {o : Oper} {fuel : Nat} {listed : Array Bool} {a : Act} {w : World} (hr : Region.ready md ops listed = [i]) (ho : ops[i]? = some o)
    (h : ∀ K' : Act → World → Prop, Shut (∀ a w, S w → (S w → wpT P md ops Q S E fuel (listed.setIfInBounds i true) a w) → K' a w) → if Region.wanted o (yielded ops a.tmps) = true then Oper.wp P o a w K' Q else K' (a.put o.dst undef) w) :
    wpT P md ops Q S E (fuel + 1) listed a w :=
  ⟨fun h0 => absurd (hr ▸ h0) (by simp), fun j hj => by
    rw [hr] at hj
    obtain rfl : j = i := by simpa using hj
    exact wpOp_step ho (fun K' hK => h K' (fun a w hS hW => hK a w ⟨fun _ => hS, hW hS⟩))⟩
/-- One of E comes up, alone: S is not asked for. -/
theorem wpT_pass {i : Nat} {o : Oper} {fuel : Nat} {listed : Array Bool} {a : Act} {w : World} (hr : Region.ready md ops listed = [i]) (hE : i ∈ E) (ho : ops[i]? = some o)
    (h : ∀ K' : Act → World → Prop, Shut (∀ a w, wpT P md ops Q S E fuel (listed.setIfInBounds i true) a w → K' a w) → if Region.wanted o (yielded ops a.tmps) = true then Oper.wp P o a w K' Q else K' (a.put o.dst undef) w) :
    wpT P md ops Q S E (fuel + 1) listed a w :=
  ⟨fun h0 => absurd (hr ▸ h0) (by simp), fun j hj => by
    rw [hr] at hj
    obtain rfl : j = i := by simpa using hj
    exact wpOp_step ho (fun K' hK => h K' (fun a w hW => hK a w ⟨fun h => absurd hE h, hW⟩))⟩
/-- All have come up. -/
theorem wpT_done {listed : Array Bool} {a : Act} {w : World} (hr : Region.ready md ops listed = []) (h : Q .normal a w) : ∀ fuel, wpT P md ops Q S E fuel listed a w
  | 0 => ⟨hr, h⟩
  | _ + 1 => ⟨fun _ => h, by rw [hr]; simp⟩
/-- The beginning. -/
theorem wp_region_T {id : Nat} {a : Act} {w : World} (hm : P.follows .mixedOrders = true) (hS : S w.drew)
    (h : S w.drew → wpT P .any ops Q S E ops.size (Array.replicate ops.size false) a w.drew) : (Code.region id ops true).wp P Q a w :=
  wp_region_any hm (wpAny_of_T _ _ _ _ (h hS))
end
end Go.Proofs.YtijedphpcocfnaaDoor
