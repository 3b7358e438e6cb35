/- Contracts and lemmas: Slk, Held, Many, Sha, Byt, DigB, DigC, Bx, Nwt, RInv, LinD, LinF, PolA, TruA, TruB. -/
import Derived.Deep.RegionHeld3
import Derived.WalkKit
import Derived.Laws.BitsAllLaws
import Derived.BigRegion
import Derived.Deep.WholeRow
import Derived.Deep.Cut
import Derived.Deep.AppendLies
import Derived.Test.YtchcllcbknfikaaGreatDoorTs1
set_option linter.unusedVariables false
set_option linter.unusedSimpArgs false
set_option maxRecDepth 100000
set_option maxHeartbeats 25600000
namespace Go.Proofs.YtchcllcbknfikaaGreatDoor
open Go.RowKit jK
def Own (w : World) (p : Addr) (v : Value) : Prop := w.cell? p = some v ∧ w.frozen? p = false
theorem Own.below {w w' : World} {p : Addr} {v : Value} (h : Own w p v) (hb : Below w.heap.size w w') : Own w' p v :=
 ⟨cell_below h.1 hb, (hb.frozen (World.block_lt_of_cell? _ _ h.1)).trans h.2⟩
theorem aY {w : World} {cs : Array Value} {T : TypeId} {n j : Nat} {v : Value} (hn : w.heap.size = n) (hj : cs[j]? = some v) : (w.alloc (.cells cs T)).cell? ⟨n, j, none⟩ = some v := by
 subst hn
 exact (World.cell?_alloc_at _ _ _ _ rfl).trans hj
theorem qZ {w : World} {cs : Array Value} {T : TypeId} {n j : Nat} {v : Value} (hn : w.heap.size = n) (hj : cs[j]? = some v) : Own (w.alloc (.cells cs T)) ⟨n, j, none⟩ v := by
 refine ⟨aY hn hj, ?_⟩
 subst hn
 exact dV (heap_alloc_new w _) _
def Dx (xs : List Int) (n : Nat) (w : World) (e : Ending) (w' : World) : Prop := ∃ A c, e = .returned (.slice A n c) ∧ Sl w' A xs ∧ (0 < xs.length → ∃ g, A = some ⟨g, 0, none⟩ ∧ w.heap.size ≤ g) ∧ Below w.heap.size w w'
theorem sl0 (w : World) (A : Option Addr) : Sl w A [] := fun k hk => absurd hk (by simp)
theorem aO.sl {w : World} {B : Nat} {v : Value} {xs : List Int} (h : aO w B v xs) : ∃ A c, v = .slice A xs.length c ∧ Sl w A xs ∧ (0 < xs.length → ∃ g, A = some ⟨g, 0, none⟩ ∧ B ≤ g) := by
 by_cases h0 : 0 < xs.length
 ·
  obtain ⟨g, cap, rfl, hg, hc⟩ := aO.cells h h0
  exact ⟨some ⟨g, 0, none⟩, cap, rfl, fun k hk => ⟨g, 0, rfl, by rw [Nat.zero_add]; exact hc k hk⟩, fun _ => ⟨g, rfl, hg⟩⟩
 ·
  have e : xs = [] := List.eq_nil_of_length_eq_zero (by omega)
  subst e
  obtain ⟨_, h2⟩ := h
  rcases h2 with ⟨hv, _⟩ | ⟨g, cap, cur, hv, _⟩
  · exact ⟨none, 0, hv, sl0 _ _, fun h => absurd h (by simp)⟩
  · exact ⟨_, cap, hv, sl0 _ _, fun h => absurd h (by simp)⟩
theorem Sl.at0 {w : World} {A : Option Addr} {xs : List Int} (h : Sl w A xs) (h0 : 0 < xs.length) : ∃ b o, A = some ⟨b, o, none⟩ ∧ ∀ j, j < xs.length → w.cell? ⟨b, o + j, none⟩ = some (.int .i64 (xs.getD j 0)) := by
 obtain ⟨b, o, rfl, _⟩ := h 0 h0
 exact ⟨b, o, rfl, fun j hj => by
  obtain ⟨b', o', e, hc⟩ := h j hj
  cases e
  exact hc⟩
theorem iF (A : Option Addr) (xs : List Int) (n c : Nat) (hn : Hid (xs.length = n)) (hbig : n < 1000000) (w : World) (hA : Hid (Sl w A xs)) :
  Calls Tryz.prog 153 #[.slice A n c] w (Dx xs n w) := by
 have hn' := hn.out
 by_cases h0 : n = 0
 ·
  have e1 := List.eq_nil_of_length_eq_zero (hn'.trans h0)
  subst e1
  subst h0
  cases A with
  | none =>
   refine (Tryz.slices_Clone_int_nil 0 c w).mono ?_
   rintro e w' ⟨rfl, rfl⟩
   exact ⟨none, 0, rfl, sl0 _ _, fun h => absurd h (by simp), Below.refl _ _⟩
  | some a =>
   refine (Tryz.slices_Clone_int_zero a c w).mono ?_
   rintro e w' ⟨v', rfl, ho, _, hb⟩
   obtain ⟨B, cc, hv, hs, hg⟩ := aO.sl (xs := []) ho
   exact ⟨B, cc, by rw [hv]; rfl, hs, hg, hb⟩
 ·
  obtain ⟨b1, o1, rfl, hc1⟩ := hA.out.at0 (by omega)
  refine (Tryz.slices_Clone_int b1 o1 n c xs w (by omega) (by omega) hc1).mono ?_
  rintro e w' ⟨v', rfl, ho, _, hb⟩
  rw [List.take_of_length_le (by omega), ← hn'] at ho
  obtain ⟨B, cc, hv, hs, hg⟩ := aO.sl (xs := xs) ho
  exact ⟨B, cc, by rw [hv, hn'], hs, hg, hb⟩
end Go.Proofs.YtchcllcbknfikaaGreatDoor
namespace Go.Proofs.YtchcllcbknfikaaGreatDoor
open Go
section
variable {P : Program} {ops : Array Oper} {Q : Exit → Act → World → Prop} {md : Region.Mode} {S : World → Prop} {E : List Nat}
def eG (P : Program) (md : Region.Mode) (ops : Array Oper) (Q : Exit → Act → World → Prop) (S : World → Prop) (E : List Nat) : Nat → Array Bool → Act → World → Prop
 | 0, listed, a, w => Region.ready md ops listed = [] ∧ Q .normal a w
 | fuel + 1, listed, a, w =>
  (Region.ready md ops listed = [] → Q .normal a w) ∧
  ∀ i ∈ Region.ready md ops listed, wpOp P ops Q i (fun a' w' => (i ∉ E → S w') ∧ eG P md ops Q S E fuel (listed.setIfInBounds i true) a' w') a w
theorem iy : ∀ (fuel : Nat) (listed : Array Bool) (a : Act) (w : World), eG P md ops Q S E fuel listed a w → wpAny P md ops Q fuel listed a w
 | 0, _, _, _, h => h
 | fuel + 1, _, _, _, h => ⟨h.1, fun i hi => wpOp_mono (fun a' w' h' => iy fuel _ a' w' h'.2) (h.2 i hi)⟩
def lC (md : Region.Mode) (ops : Array Oper) (i : Nat) : List Nat :=
 (List.range ops.size).foldl (fun C x => if ((ops[x]?).map (·.after.any fun e => Region.binds md e && (e.on == i || C.contains e.on))).getD false then x :: C else C) []
def iR (md : Region.Mode) (ops : Array Oper) (listed : Array Bool) (i : Nat) (E : List Nat) : Bool :=
 (E.all fun s => (lC md ops i).contains s) && (lC md ops i).all fun x => !listed.getD x true && ((ops[x]?).map (·.after.any fun e => Region.binds md e && (e.on == i || (lC md ops i).contains e.on))).getD false
def Late (md : Region.Mode) (ops : Array Oper) (C : List Nat) (listed : Array Bool) (i : Nat) : Prop :=
 ∀ x ∈ C, listed.getD x true = false ∧ ∃ o, ops[x]? = some o ∧ ∃ e ∈ o.after, Region.binds md e = true ∧ (e.on = i ∨ e.on ∈ C)
theorem kK {listed : Array Bool} {i : Nat} (h : iR md ops listed i E = true) : (∀ s ∈ E, s ∈ lC md ops i) ∧ Late md ops (lC md ops i) listed i := by
 unfold iR at h
 rw [Bool.and_eq_true] at h
 refine ⟨fun s hs => by simpa using List.all_eq_true.1 h.1 s hs, fun x hx => ?_⟩
 have h2 := List.all_eq_true.1 h.2 x hx
 rw [Bool.and_eq_true] at h2
 refine ⟨by simpa using h2.1, ?_⟩
 have h3 := h2.2
 cases ho : ops[x]? with
 | none => rw [ho] at h3; simp at h3
 | some o =>
  rw [ho] at h3
  simp only [Option.map_some, Option.getD_some] at h3
  obtain ⟨e, he, hb⟩ := Array.any_eq_true'.1 h3
  simp only [Bool.and_eq_true, Bool.or_eq_true, beq_iff_eq] at hb
  exact ⟨o, rfl, e, he, hb.1, hb.2.imp id (by simp)⟩
theorem Late.not_ready {C : List Nat} {listed : Array Bool} {i j : Nat} (h : Late md ops C listed i) (hi : listed.getD i true = false) (hj : j ∈ Region.ready md ops listed) : j ∉ C := fun hc => by
 obtain ⟨_, o, ho, e, he, hb, h4⟩ := h j hc
 obtain ⟨_, o', ho', hall⟩ := mem_ready.1 hj
 rw [ho] at ho'
 cases ho'
 have h5 := hall e he hb
 have h6 : listed.getD e.on true = false := by
  rcases h4 with h4 | h4
  · rw [h4]; exact hi
  · exact (h _ h4).1
 rcases Nat.lt_or_ge e.on listed.size with h' | h'
 · simp [h'] at h5 h6; rw [h6] at h5; cases h5
 · simp [Array.getElem?_eq_none h'] at h5
theorem Late.step {C : List Nat} {listed : Array Bool} {i j : Nat} (h : Late md ops C listed i) (hj : j ∉ C) : Late md ops C (listed.setIfInBounds j true) i := fun x hx => by
 obtain ⟨h1, h2⟩ := h x hx
 have hne : j ≠ x := fun e => hj (by rw [e]; exact hx)
 exact ⟨by rw [getD_set_ne true hne]; exact h1, h2⟩
theorem sO {i : Nat} {oi : Oper} {v : Value} {C : List Nat} (hs : ∀ s ∈ E, s ∈ C) (hi : ops[i]? = some oi) (hsel : ∀ (j : Nat) (o : Oper) cs b, ops[j]? = some o → o.op ≠ .select cs b)
  (hQ : ∀ c a w, Q (.panic c) (a.put oi.dst v) w → Q (.panic c) a w) :
  ∀ (fuel : Nat) (listed : Array Bool) (a : Act) (w : World),
   (∀ j oj, ops[j]? = some oj → j ≠ i → listed.getD j true = false → (∀ e ∈ oj.after, Region.binds md e = true → e.on ≠ i) → oi.apart ops oj = true) →
   Late md ops C listed i → i ∈ Region.ready md ops listed → YieldsIf P ops S oi v a → S w →
   eG P md ops Q S E fuel (listed.setIfInBounds i true) (a.put oi.dst v) w → eG P md ops Q S E (fuel + 1) listed a w := by
 intro fuel
 induction fuel with
 | zero =>
  intro listed a w _ _ hr hy hS H
  refine ⟨fun h => (by rw [h] at hr; cases hr), fun j hj => ?_⟩
  by_cases hji : j = i
  · subst hji; exact hy.wpOp hi hS ⟨fun _ => hS, H⟩
  ·
   have := ready_mono hj hji
   rw [H.1] at this
   cases this
 | succ fuel ih =>
  intro listed a w hfree Al hr hy hS H
  refine ⟨fun h => (by rw [h] at hr; cases hr), fun j hj => ?_⟩
  by_cases hji : j = i
  · subst hji; exact hy.wpOp hi hS ⟨fun _ => hS, H⟩
  ·
   have h1 := H.2 j (ready_mono hj hji)
   have Fu := (mem_ready.1 hr).1
   have GX := Al.not_ready Fu hj
   have hjs : j ∉ E := fun e => GX (hs j e)
   obtain ⟨hjun, oj, hoj, hall⟩ := mem_ready.1 hj
   have hnot : ∀ e ∈ oj.after, Region.binds md e = true → e.on ≠ i := fun e he hb heq => by
    have h1 := hall e he hb
    have h0 := (mem_ready.1 hr).1
    rw [heq] at h1
    rcases Nat.lt_or_ge i listed.size with h' | h'
    · simp [h'] at h0 h1; rw [h0] at h1; cases h1
    · simp [Array.getElem?_eq_none h'] at h1
   have h2 := wpOp_putIf hoj (hfree j oj hoj hji hjun hnot) (fun cs b => hsel i oi cs b hi) (fun cs b => hsel j oj cs b hoj) hQ hy h1
   have hfree' : ∀ k ok, ops[k]? = some ok → k ≠ i → (listed.setIfInBounds j true).getD k true = false →
     (∀ e ∈ ok.after, Region.binds md e = true → e.on ≠ i) → oi.apart ops ok = true := fun k ok hk hki hun hno => by
    refine hfree k ok hk hki ?_ hno
    by_cases hjk : j = k
    · subst hjk; exact hjun
    · rw [getD_set_ne true hjk] at hun; exact hun
   refine wpOp_mono (fun a' w' h3 => ⟨fun _ => h3.2.1 hjs, ih (listed.setIfInBounds j true) a' w' hfree' (Al.step GX) (ready_mono hr (Ne.symm hji)) h3.1 (h3.2.1 hjs) ?_⟩) h2
   rw [Array.setIfInBounds_comm _ _ hji]
   exact h3.2.2
theorem dO {i : Nat} {oi : Oper} {v : Value} {fuel : Nat} {listed : Array Bool} {a : Act} {w : World} (hi : ops[i]? = some oi)
  (hs : Region.noSelect ops = true) (hf : Region.free md ops listed i = true) (hr : (Region.ready md ops listed).contains i = true) (hl : iR md ops listed i E = true)
  (hQ : ∀ c a w, Q (.panic c) (a.put oi.dst v) w → Q (.panic c) a w) (hy : YieldsIf P ops S oi v a) (hS : S w)
  (h : eG P md ops Q S E fuel (listed.setIfInBounds i true) (a.put oi.dst v) w) : eG P md ops Q S E (fuel + 1) listed a w :=
 sO (kK hl).1 hi (Region.noSelect_spec hs) hQ fuel listed a w (Region.free_spec hi hf) (kK hl).2 (by simpa using hr) hy hS h
theorem yu {i : Nat} {o : Oper} {fuel : Nat} {listed : Array Bool} {a : Act} {w : World} (hr : Region.ready md ops listed = [i]) (ho : ops[i]? = some o)
  (h : ∀ K' : Act → World → Prop, Shut (∀ a w, S w → (S w → eG P md ops Q S E fuel (listed.setIfInBounds i true) a w) → K' a w) → if Region.wanted o (yielded ops a.tmps) = true then Oper.wp P o a w K' Q else K' (a.put o.dst undef) w) :
  eG P md ops Q S E (fuel + 1) listed a w :=
 ⟨fun h0 => absurd (hr ▸ h0) (by simp), fun j hj => by
  rw [hr] at hj
  obtain rfl : j = i := by simpa using hj
  exact wpOp_step ho (fun K' hK => h K' (fun a w hS hW => hK a w ⟨fun _ => hS, hW hS⟩))⟩
theorem Km {α : Type _} {xs : List α} {i : Nat} (h : i < xs.toArray.size) : xs.toArray[i] = xs[i]'(by simpa using h) := rfl
theorem Kl {α : Type _} (a : α) (l : List α) (h : 0 < (a :: l).length) : getElem (a :: l) 0 h = a := rfl
theorem Kk {α : Type _} (a : α) (l : List α) (i : Nat) (h : i + 1 < (a :: l).length) : getElem (a :: l) (i+1) h = getElem l i (Nat.lt_of_succ_lt_succ h) := rfl
theorem Kj {α : Type _} (l : List α) (i : Nat) (a : α) : l.toArray.setIfInBounds i a = (l.set i a).toArray := List.setIfInBounds_toArray l i a
theorem Ki {α : Type _} {x : α} {xs : List α} {a : α} : (x :: xs).set 0 a = a :: xs := rfl
theorem Kh {α : Type _} {x : α} {xs : List α} {i : Nat} {a : α} : (x :: xs).set (i + 1) a = x :: xs.set i a := rfl
theorem Ke (i : Nat) {oi : Oper} {v : Value} {fuel : Nat} {listed : Array Bool} {a : Act} {w : World} (h : eG P md ops Q S E fuel (listed.setIfInBounds i true) (a.put oi.dst v) w) (hi : ops[i]? = some oi := by rfl)
  (hs : Region.noSelect ops = true := by kernel_rfl) (hf : Region.free md ops listed i = true := by kernel_rfl) (hr : (Region.ready md ops listed).contains i = true := by kernel_rfl) (hl : iR md ops listed i E = true := by kernel_rfl)
  (hQ : ∀ c a w, Q (.panic c) (a.put oi.dst v) w → Q (.panic c) a w := by exact fun _ _ _ h => h) (hw : Region.wanted oi (yielded ops a.tmps) = true := by rfl)
  (hy : ∀ w, S w → (execOp a.eval oi).run P w = .ok (.value v) w := by intro wS hSw; (try dsimp only at hSw); go_simp <;> with_reducible rfl) (hS : S w := by assumption) : eG P md ops Q S E (fuel + 1) listed a w :=
 dO hi hs hf hr hl hQ (Or.inl ⟨hw, hy⟩) hS h
theorem Kg (i : Nat) {oi : Oper} {fuel : Nat} {listed : Array Bool} {a : Act} {w : World} (h : eG P md ops Q S E fuel (listed.setIfInBounds i true) (a.put oi.dst undef) w) (hi : ops[i]? = some oi := by rfl)
  (hs : Region.noSelect ops = true := by kernel_rfl) (hf : Region.free md ops listed i = true := by kernel_rfl) (hr : (Region.ready md ops listed).contains i = true := by kernel_rfl) (hl : iR md ops listed i E = true := by kernel_rfl)
  (hQ : ∀ c a w, Q (.panic c) (a.put oi.dst undef) w → Q (.panic c) a w := by exact fun _ _ _ h => h) (hw : Region.wanted oi (yielded ops a.tmps) = false := by rfl) (hS : S w := by assumption) : eG P md ops Q S E (fuel + 1) listed a w :=
 dO hi hs hf hr hl hQ (Or.inr ⟨hw, rfl⟩) hS h
theorem jU {i1 i2 : Nat} {o1 o2 : Oper} {fuel : Nat} {listed : Array Bool} {a : Act} {w : World} (hr : Region.ready md ops listed = [i1, i2]) (ho1 : ops[i1]? = some o1) (ho2 : ops[i2]? = some o2)
  (h1 : ∀ K' : Act → World → Prop, Shut (∀ a w, S w → (S w → eG P md ops Q S E fuel (listed.setIfInBounds i1 true) a w) → K' a w) → if Region.wanted o1 (yielded ops a.tmps) = true then Oper.wp P o1 a w K' Q else K' (a.put o1.dst undef) w)
  (h2 : ∀ K' : Act → World → Prop, Shut (∀ a w, S w → (S w → eG P md ops Q S E fuel (listed.setIfInBounds i2 true) a w) → K' a w) → if Region.wanted o2 (yielded ops a.tmps) = true then Oper.wp P o2 a w K' Q else K' (a.put o2.dst undef) w) :
  eG P md ops Q S E (fuel + 1) listed a w :=
 ⟨fun h0 => absurd (hr ▸ h0) (by simp), fun j hj => by
  rw [hr] at hj
  rcases (by simpa using hj : j = i1 ∨ j = i2) with rfl | rfl
  · exact wpOp_step ho1 (fun K' hK => h1 K' (fun a w hS hW => hK a w ⟨fun _ => hS, hW hS⟩))
  · exact wpOp_step ho2 (fun K' hK => h2 K' (fun a w hS hW => hK a w ⟨fun _ => hS, hW hS⟩))⟩
theorem uq {i : Nat} {o : Oper} {fuel : Nat} {listed : Array Bool} {a : Act} {w : World} (hr : Region.ready md ops listed = [i]) (hE : i ∈ E) (ho : ops[i]? = some o)
  (h : ∀ K' : Act → World → Prop, Shut (∀ a w, eG P md ops Q S E fuel (listed.setIfInBounds i true) a w → K' a w) → if Region.wanted o (yielded ops a.tmps) = true then Oper.wp P o a w K' Q else K' (a.put o.dst undef) w) :
  eG P md ops Q S E (fuel + 1) listed a w :=
 ⟨fun h0 => absurd (hr ▸ h0) (by simp), fun j hj => by
  rw [hr] at hj
  obtain rfl : j = i := by simpa using hj
  exact wpOp_step ho (fun K' hK => h K' (fun a w hW => hK a w ⟨fun h => absurd hE h, hW⟩))⟩
theorem uu {listed : Array Bool} {a : Act} {w : World} (hr : Region.ready md ops listed = []) (h : Q .normal a w) : ∀ fuel, eG P md ops Q S E fuel listed a w
 | 0 => ⟨hr, h⟩
 | _ + 1 => ⟨fun _ => h, by rw [hr]; simp⟩
theorem d_ {id : Nat} {a : Act} {w : World} (hm : P.follows .mixedOrders = true) (hS : S w.drew)
  (h : S w.drew → eG P .any ops Q S E ops.size (Array.replicate ops.size false) a w.drew) : (Code.region id ops true).wp P Q a w :=
 wp_region_any hm (iy _ _ _ _ (h hS))
end
section
variable {P : Program} {ops : Array Oper} {Q : Exit → Act → World → Prop} {md : Region.Mode} {S : World → Prop} {E : List Nat}
theorem mg {fuel : Nat} {listed : Array Bool} {a : Act} {w : World} (h : ∀ (T : Nat → Array Bool → Act → World → Prop) (a0 : Act), T = eG P md ops Q S E → a0 = a → T fuel listed a0 w) : eG P md ops Q S E fuel listed a w := h _ _ rfl rfl
end
end Go.Proofs.YtchcllcbknfikaaGreatDoor
namespace Go.Proofs.YtchcllcbknfikaaGreatDoor
open Go.RowKit
structure St where
 (a b c d e f g h : Int)
def KL : List Int := [
  0x428a2f98, 0x71374491, 0xb5c0fbcf, 0xe9b5dba5, 0x3956c25b, 0x59f111f1, 0x923f82a4, 0xab1c5ed5,
  0xd807aa98, 0x12835b01, 0x243185be, 0x550c7dc3, 0x72be5d74, 0x80deb1fe, 0x9bdc06a7, 0xc19bf174,
  0xe49b69c1, 0xefbe4786, 0x0fc19dc6, 0x240ca1cc, 0x2de92c6f, 0x4a7484aa, 0x5cb0a9dc, 0x76f988da,
  0x983e5152, 0xa831c66d, 0xb00327c8, 0xbf597fc7, 0xc6e00bf3, 0xd5a79147, 0x06ca6351, 0x14292967,
  0x27b70a85, 0x2e1b2138, 0x4d2c6dfc, 0x53380d13, 0x650a7354, 0x766a0abb, 0x81c2c92e, 0x92722c85,
  0xa2bfe8a1, 0xa81a664b, 0xc24b8b70, 0xc76c51a3, 0xd192e819, 0xd6990624, 0xf40e3585, 0x106aa070,
  0x19a4c116, 0x1e376c08, 0x2748774c, 0x34b0bcb5, 0x391c0cb3, 0x4ed8aa4a, 0x5b9cca4f, 0x682e6ff3,
  0x748f82ee, 0x78a5636f, 0x84c87814, 0x8cc70208, 0x90befffa, 0xa4506ceb, 0xbef9a3f7, 0xc67178f2]
def st0 : St := ⟨0x6a09e667, 0xbb67ae85, 0x3c6ef372, 0xa54ff53a, 0x510e527f, 0x9b05688c, 0x1f83d9ab, 0x5be0cd19⟩
def FR (n : Int) : List Int := [n / 72057594037927936 % 256, n / 281474976710656 % 256, n / 1099511627776 % 256, n / 4294967296 % 256, n / 16777216 % 256, n / 65536 % 256, n / 256 % 256, n % 256]
def St.list (s : St) : List Int := [s.a, s.b, s.c, s.d, s.e, s.f, s.g, s.h]
theorem zF (n : Int) : (FR n).length = 8 := rfl
end Go.Proofs.YtchcllcbknfikaaGreatDoor
namespace Go.Proofs.YtchcllcbknfikaaGreatDoor
open Go.RowKit jK
def Sk (K : IntKind) (w : World) (A : Option Addr) (xs : List Int) : Prop := ∀ j, j < xs.length → ∃ b o, A = some ⟨b, o, none⟩ ∧ w.cell? ⟨b, o + j, none⟩ = some (.int K (xs.getD j 0))
variable {K : IntKind}
theorem GG (w : World) (A : Option Addr) : Sk K w A [] := fun k hk => absurd hk (by simp)
theorem Sk.below {w w' : World} {A : Option Addr} {xs : List Int} (h : Sk K w A xs) (hb : Below w.heap.size w w') : Sk K w' A xs := fun k hk => by
 obtain ⟨b, o, h1, h2⟩ := h k hk
 exact ⟨b, o, h1, (hb.cell (World.block_lt_of_cell? _ _ h2)).trans h2⟩
theorem Sk.at0 {w : World} {A : Option Addr} {xs : List Int} (h : Sk K w A xs) (h0 : 0 < xs.length) : ∃ b o, A = some ⟨b, o, none⟩ ∧ ∀ j, j < xs.length → w.cell? ⟨b, o + j, none⟩ = some (.int K (xs.getD j 0)) := by
 obtain ⟨b, o, rfl, _⟩ := h 0 h0
 exact ⟨b, o, rfl, fun j hj => by
  obtain ⟨b', o', e, hc⟩ := h j hj
  cases e
  exact hc⟩
theorem Sk.lt {w : World} {b o : Nat} {xs : List Int} (h : Sk K w (some ⟨b, o, none⟩) xs) (h0 : 0 < xs.length) : b < w.heap.size := by
 obtain ⟨b', o', e, hc⟩ := h 0 h0
 cases e
 exact World.block_lt_of_cell? _ _ hc
theorem Sk.cell {w : World} {b o : Nat} {xs : List Int} (h : Sk K w (some ⟨b, o, none⟩) xs) {j : Nat} (hj : j < xs.length) : w.cell? ⟨b, o + j, none⟩ = some (.int K (xs.getD j 0)) := by
 obtain ⟨b', o', e, hc⟩ := h j hj
 cases e
 exact hc
theorem Sk.drop {w : World} {b o n : Nat} {xs : List Int} (h : Sk K w (some ⟨b, o, none⟩) xs) : Sk K w (some ⟨b, o + n, none⟩) (xs.drop n) := fun j hj => by
 rw [List.length_drop] at hj
 refine ⟨b, o + n, rfl, ?_⟩
 rw [Nat.add_assoc, h.cell (j := n + j) (by omega)]
 simp [List.getD_eq_getElem?_getD, List.getElem?_drop]
theorem Sk.take {w : World} {A : Option Addr} {n : Nat} {xs : List Int} (h : Sk K w A xs) : Sk K w A (xs.take n) := fun j hj => by
 rw [List.length_take] at hj
 obtain ⟨b, o, h1, h2⟩ := h j (by omega)
 refine ⟨b, o, h1, ?_⟩
 rw [h2]
 simp [List.getD_eq_getElem?_getD, List.getElem?_take_of_lt (show j < n by omega)]
theorem Sk.grown {w w1 : World} {row : Option Nat} {A : Option Addr} {xs : List Int} (h : Sk K w A xs) (hg : w.grownBy w1 row) (hne : ∀ b o, A = some ⟨b, o, none⟩ → 0 < xs.length → row ≠ some b) : Sk K w1 A xs := fun k hk => by
 obtain ⟨b, o, h1, h2⟩ := h k hk
 exact ⟨b, o, h1, hg.cell h2 (fun e => hne b o h1 (by omega) e.symm)⟩
def bS (K : IntKind) (T : TypeId) (w : World) (base : Nat) (v : Value) (xs : List Int) : Prop := w.ownsRow base T 1 v xs.length (xs.map (Value.int K))
variable {T : TypeId}
theorem bS.app {w1 : World} {base k : Nat} {v' : Value} {xs ys : List Int} {m : Nat} (hk : k = xs.length) (hm : m = ys.length)
  (h : w1.ownsRow base T 1 v' (k + m) (xs.map (Value.int K) ++ ys.map (Value.int K))) : bS K T w1 base v' (xs ++ ys) := by
 unfold bS
 rw [List.length_append, List.map_append, ← hk, ← hm]
 exact h
theorem bS.below {w w1 wr : World} {B : Nat} {o : Obj} {v : Value} {xs : List Int} (h : bS K T wr B v xs) (hb : Below B w wr) (hB : B ≤ wr.heap.size) (hg : (wr.alloc o).grownBy w1 v.ownBlock) : Below B w w1 :=
 (hb.alloc hB o).grown hg (by simp; omega) (fun j hj => (World.ownsRow.lt h j hj).1)
theorem bS.cells {w : World} {B : Nat} {v : Value} {xs : List Int} (h : bS K T w B v xs) (hne : 0 < xs.length) : ∃ g cap, v = .slice (some ⟨g, 0, none⟩) xs.length cap ∧ B ≤ g ∧ xs.length ≤ cap ∧ cap ≤ maxLen ∧ Sk K w (some ⟨g, 0, none⟩) xs := by
 obtain ⟨h1, h2⟩ := h
 rcases h2 with ⟨_, h0⟩ | ⟨g, cap, cur, rfl, hg, hh, hn, hc, hs, ht⟩
 · omega
 ·
  refine ⟨g, cap, rfl, hg, hn, hc, fun j hj => ⟨g, 0, rfl, ?_⟩⟩
  rw [Nat.zero_add, ah hh]
  have e : cur.toList[j]? = (xs.map (Value.int K))[j]? := by
   rw [← ht, List.getElem?_take_of_lt (by omega)]
  rw [← Array.getElem?_toList, e, List.getElem?_map, List.getElem?_eq_getElem hj, List.getD_eq_getElem?_getD, List.getElem?_eq_getElem hj]
  rfl
theorem bS.sk {w : World} {B : Nat} {v : Value} {xs : List Int} (h : bS K T w B v xs) : ∃ A c, v = .slice A xs.length c ∧ Sk K w A xs ∧ (0 < xs.length → ∃ g, A = some ⟨g, 0, none⟩ ∧ B ≤ g) ∧ xs.length ≤ c := by
 by_cases h0 : 0 < xs.length
 ·
  obtain ⟨g, cap, rfl, hg, hn, _, hc⟩ := bS.cells h h0
  exact ⟨some ⟨g, 0, none⟩, cap, rfl, hc, fun _ => ⟨g, rfl, hg⟩, hn⟩
 ·
  have e : xs = [] := List.eq_nil_of_length_eq_zero (by omega)
  subst e
  obtain ⟨_, h2⟩ := h
  rcases h2 with ⟨hv, _⟩ | ⟨g, cap, cur, hv, _⟩
  · exact ⟨none, 0, hv, GG _ _, fun h => absurd h (by simp), by simp⟩
  · exact ⟨_, cap, hv, GG _ _, fun h => absurd h (by simp), by simp⟩
theorem bS.keep {w w' : World} {B : Nat} {v : Value} {xs : List Int} (h : bS K T w B v xs) (hb : Below w.heap.size w w') : bS K T w' B v xs := by
 obtain ⟨h1, h2⟩ := h
 refine ⟨h1, h2.imp id ?_⟩
 rintro ⟨g, cap, cur, rfl, hg, hh, rest⟩
 exact ⟨g, cap, cur, rfl, hg, (hb.block g (Array.getElem?_eq_some_iff.1 hh).1).trans hh, rest⟩
theorem bS.mono {w : World} {B B' : Nat} {v : Value} {xs : List Int} (h : bS K T w B v xs) (hb : B' ≤ B) : bS K T w B' v xs := by
 obtain ⟨h1, h2⟩ := h
 refine ⟨h1, h2.imp id ?_⟩
 rintro ⟨g, cap, cur, rfl, hg, rest⟩
 exact ⟨g, cap, cur, rfl, by omega, rest⟩
theorem bS.kept {w w' : World} {row : Option Nat} {B : Nat} {v : Value} {xs : List Int} (h : bS K T w B v xs) (hg : w.grownBy w' row) (hne : v.ownBlock = none ∨ v.ownBlock ≠ row) : bS K T w' B v xs := World.ownsRow.kept h hg hne
theorem bS.row {w : World} {B n : Nat} {v : Value} {xs : List Int} (h : bS K T w B v xs) (hn : xs.length = n) : w.ownsRow B T 1 v n (xs.map (Value.int K)) := by
 subst hn; exact h
theorem bS.lt {w : World} {B : Nat} {v : Value} {xs : List Int} (h : bS K T w B v xs) (j : Nat) (hj : v.ownBlock = some j) : B ≤ j ∧ j < w.heap.size := World.ownsRow.lt h j hj
def arr (K : IntKind) (l : List Int) : Array Value := (l.map (Value.int K)).toArray
theorem dW (l : List Int) : (arr K l).size = l.length := by simp [arr]
def lS (K : IntKind) (T : TypeId) (w : World) (b : Nat) (l : List Int) : Prop := w.heap[b]? = some (.cells (arr K l) T (0, 0))
theorem lS.below {w w' : World} {b : Nat} {l : List Int} (h : lS K T w b l) (hb : Below w.heap.size w w') : lS K T w' b l :=
 (hb.block b (Array.getElem?_eq_some_iff.1 h).1).trans h
theorem lS.lt {w : World} {b : Nat} {l : List Int} (h : lS K T w b l) : b < w.heap.size := (Array.getElem?_eq_some_iff.1 h).1
theorem zJ {l : List Int} {j : Nat} (hj : j < l.length) : (arr K l)[j]? = some (.int K (l.getD j 0)) := by
 simp [arr, List.getD_eq_getElem?_getD, List.getElem?_eq_getElem hj]
theorem lS.cell {w : World} {b j : Nat} {l : List Int} (h : lS K T w b l) (hj : j < l.length) : w.cell? ⟨b, j, none⟩ = some (.int K (l.getD j 0)) := (ah h j).trans (zJ hj)
theorem lS.free {w : World} {b : Nat} {l : List Int} (h : lS K T w b l) (j : Nat) : w.frozen? ⟨b, j, none⟩ = false := dV h j
theorem zI {l : List Int} {j : Nat} {v : Int} : (arr K l).setIfInBounds j (.int K v) = arr K (l.set j v) := by
 apply Array.ext'
 simp [arr, List.map_set]
theorem lS.set {w : World} {b j : Nat} {l : List Int} {v : Int} (h : lS K T w b l) : lS K T (w.setCell ⟨b, j, none⟩ (.int K v)) b (l.set j v) := by
 unfold lS
 rw [heap_setCell_same w b j _ T _ h, zI]
theorem lS.new (w : World) (l : List Int) : lS K T (w.alloc (.cells (arr K l) T)) w.heap.size l := heap_alloc_new _ _
theorem lS.drew {w : World} {b : Nat} {l : List Int} (h : lS K T w b l) (n : Nat) : lS K T (w.drewN n) b l := h.below (aj (Below.refl _ _) n)
theorem lS.sk {w : World} {b : Nat} {l : List Int} (h : lS K T w b l) : Sk K w (some ⟨b, 0, none⟩) l := fun j hj => ⟨b, 0, rfl, by rw [Nat.zero_add]; exact h.cell hj⟩
theorem lS.grown {w w1 : World} {row : Option Nat} {b : Nat} {l : List Int} (h : lS K T w b l) (hg : w.grownBy w1 row) (hne : row ≠ some b) : lS K T w1 b l := (hg.block b h.lt (Ne.symm hne)).trans h
def Iw (n : Nat) : List Int := List.replicate n 0
def wz (l : List Int) : List Int := l ++ Iw (64 - l.length)
def xu (w : World) : Prop := (∀ k, k < 64 → w.cell? ⟨5, k, none⟩ = some (.int .u32 (KL.getD k 0))) ∧ (∀ k, k < 8 → w.cell? ⟨4, k, none⟩ = some (.int .u32 (st0.list.getD k 0)))
theorem xu.below {w w' : World} (h : xu w) (hb : Below w.heap.size w w') : xu w' := ⟨fun k hk => cell_below (h.1 k hk) hb, fun k hk => cell_below (h.2 k hk) hb⟩
theorem uk {b c u : World} (h : Hid (Below b.heap.size b c)) (h2 : Hid (Below c.heap.size c u)) : Hid (Below b.heap.size b u) := aa (af h.out h2.out)
theorem lV {b c u : World} (h : Hid (Below b.heap.size b c)) (h2 : Below c.heap.size c u) : Hid (Below b.heap.size b u) := aa (af h.out h2)
theorem bb2 {a b u u2 : World} (h : Hid (Below a.heap.size a u ∧ Below b.heap.size b u)) (q : Below u.heap.size u u2) : Hid (Below a.heap.size a u2 ∧ Below b.heap.size b u2) := aa ⟨af h.out.1 q, af h.out.2 q⟩
theorem bb3 {a b c u u2 : World} (h : Hid (Below a.heap.size a u ∧ Below b.heap.size b u ∧ Below c.heap.size c u)) (q : Below u.heap.size u u2) : Hid (Below a.heap.size a u2 ∧ Below b.heap.size b u2 ∧ Below c.heap.size c u2) := aa ⟨af h.out.1 q, af h.out.2.1 q, af h.out.2.2 q⟩
theorem KR {a b c d u u2 : World} (h : Hid (Below a.heap.size a u ∧ Below b.heap.size b u ∧ Below c.heap.size c u ∧ Below d.heap.size d u)) (q : Below u.heap.size u u2) : Hid (Below a.heap.size a u2 ∧ Below b.heap.size b u2 ∧ Below c.heap.size c u2 ∧ Below d.heap.size d u2) := aa ⟨af h.out.1 q, af h.out.2.1 q, af h.out.2.2.1 q, af h.out.2.2.2 q⟩
theorem Ew {P : Program} {f : Nat} {args : Array Value} {b w : World} {E0 : Ending} {Q : Ending → World → Prop} (hB : Hid (Below b.heap.size b w)) (h : Calls P f args w fun e w' => e = E0 ∧ Below w.heap.size w w') (k : ∀ w', Hid (Below b.heap.size b w') → Q E0 w') : Calls P f args w Q :=
 h.mono (fun e w' he => by obtain ⟨rfl, hb⟩ := he; exact k w' (lV hB hb))
theorem bH {P : Program} {f : Nat} {args : Array Value} {b w : World} {E0 : Ending} {Q : Ending → World → Prop} {C : World → Prop} (kC : Hid (∀ u, Hid (Below b.heap.size b u) → C u)) (hB : Hid (Below b.heap.size b w)) (h : Calls P f args w fun e w' => e = E0 ∧ Below w.heap.size w w') (k : ∀ w', Hid (Below b.heap.size b w') → C w' → Q E0 w') : Calls P f args w Q :=
 Ew hB h (fun w' h' => k w' h' (kC.out _ h'))
theorem Du {P : Program} {f : Nat} {args : Array Value} {b c w : World} {E0 : Ending} {Q : Ending → World → Prop} (hB : Hid (Below b.heap.size b w)) (hC : Hid (Below c.heap.size c w)) (h : Calls P f args w fun e w' => e = E0 ∧ Below w.heap.size w w') (k : ∀ w', Hid (Below b.heap.size b w') → Hid (Below c.heap.size c w') → Q E0 w') : Calls P f args w Q :=
 h.mono (fun e w' he => by obtain ⟨rfl, hb⟩ := he; exact k w' (lV hB hb) (lV hC hb))
theorem l8 {P : Program} {f : Nat} {args : Array Value} {b c d w : World} {E0 : Ending} {Q : Ending → World → Prop} (hB : Hid (Below b.heap.size b w)) (hC : Hid (Below c.heap.size c w)) (hD : Hid (Below d.heap.size d w)) (h : Calls P f args w fun e w' => e = E0 ∧ Below w.heap.size w w') (k : ∀ w', Hid (Below b.heap.size b w') → Hid (Below c.heap.size c w') → Hid (Below d.heap.size d w') → Q E0 w') : Calls P f args w Q :=
 h.mono (fun e w' he => by obtain ⟨rfl, hb⟩ := he; exact k w' (lV hB hb) (lV hC hb) (lV hD hb))
theorem bI (b : World) : Hid (Below b.heap.size b b) := aa (Below.refl _ _)
theorem xV {w w0 : World} (φ : World → Prop) (hb : Hid (Below w.heap.size w w0)) (h : Hid (φ w)) (st : ∀ {u}, φ w → Below w.heap.size w u → φ u) : Hid (∀ u : World, Hid (Below w0.heap.size w0 u) → Hid (φ u)) :=
 aa (fun u hu => aa (st h.out (af hb.out hu.out)))
theorem uj {w : World} (φ : World → Prop) (h : φ w) (st : ∀ {u}, φ w → Below w.heap.size w u → φ u) : Hid (∀ u : World, Hid (Below w.heap.size w u) → Hid (φ u)) :=
 aa (fun u hu => aa (st h hu.out))
theorem mkS {w w0 : World} {A : Option Addr} {xs : List Int} (hb : Hid (Below w.heap.size w w0)) (h : Hid (Sl w A xs)) : Hid (∀ u : World, Hid (Below w0.heap.size w0 u) → Hid (Sl u A xs)) := xV (fun u => Sl u A xs) hb h (·.below)
theorem mkV {w w0 : World} (hb : Hid (Below w.heap.size w w0)) (h : Hid (Vars w)) : Hid (∀ u : World, Hid (Below w0.heap.size w0 u) → Hid (Vars u)) := xV (fun u => Vars u) hb h (·.below)
theorem EY {w0 : World} {p : Addr} {v : Value} (h : w0.cell? p = some v) : Hid (∀ u : World, Hid (Below w0.heap.size w0 u) → u.cell? p = some v) := aa (fun u hu => cell_below h hu.out)
theorem gW {w w0 u : World} (h : Hid (Below w.heap.size w w0)) (h2 : Hid (Below w0.heap.size w0 u)) : Below w.heap.size w u := af h.out h2.out
def BO (u : World) (b : Nat) (o : Obj) : Prop := ∃ c T, o = .cells c T ∧ ∀ (j : Nat) v, c[j]? = some v → Own u ⟨b, j, none⟩ v
theorem BO.new (w : World) (c : Array Value) (T : TypeId) : BO (w.alloc (.cells c T)) w.heap.size (.cells c T) := ⟨c, T, rfl, fun _ _ h => qZ rfl h⟩
theorem BO.below {u u2 : World} {b : Nat} {o : Obj} (h : BO u b o) (hb : Below u.heap.size u u2) : BO u2 b o := by
 obtain ⟨c, T, e, h⟩ := h
 exact ⟨c, T, e, fun j v hj => (h j v hj).below hb⟩
theorem BO.get {u : World} {b : Nat} {c : Array Value} {T : TypeId} (h : BO u b (.cells c T)) (j : Nat) {v : Value} (hj : c[j]? = some v) : Own u ⟨b, j, none⟩ v := by
 obtain ⟨c', T', e, h⟩ := h
 cases e
 exact h j v hj
theorem I8 {a0 : Value} {r : List Value} {T : TypeId} (u : World) (b : Nat) (h : BO u b (.cells (a0 :: r).toArray T)) : u.cell? ⟨b, 0, none⟩ = some a0 := (h.get 0 (by simp)).1
theorem rY {a0 a1 : Value} {r : List Value} {T : TypeId} (u : World) (b : Nat) (h : BO u b (.cells (a0 :: a1 :: r).toArray T)) : u.cell? ⟨b, 0, none⟩ = some a0 ∧ u.cell? ⟨b, 1, none⟩ = some a1 := ⟨(h.get 0 (by simp)).1, (h.get 1 (by simp)).1⟩
theorem lW {a0 a1 a2 : Value} {r : List Value} {T : TypeId} (u : World) (b : Nat) (h : BO u b (.cells (a0 :: a1 :: a2 :: r).toArray T)) : u.cell? ⟨b, 0, none⟩ = some a0 ∧ u.cell? ⟨b, 1, none⟩ = some a1 ∧ u.cell? ⟨b, 2, none⟩ = some a2 := ⟨(h.get 0 (by simp)).1, (h.get 1 (by simp)).1, (h.get 2 (by simp)).1⟩
theorem FQ {a0 : Value} {r : List Value} {T : TypeId} (u : World) (b : Nat) (R : Prop) (h : BO u b (.cells (a0 :: r).toArray T)) (g : R) : u.cell? ⟨b, 0, none⟩ = some a0 ∧ R := ⟨(h.get 0 (by simp)).1, g⟩
theorem gy {a0 a1 a2 : Value} {r : List Value} {T : TypeId} (u : World) (b : Nat) (R : Prop) (h : BO u b (.cells (a0 :: a1 :: a2 :: r).toArray T)) (g : R) : u.cell? ⟨b, 0, none⟩ = some a0 ∧ u.cell? ⟨b, 1, none⟩ = some a1 ∧ u.cell? ⟨b, 2, none⟩ = some a2 ∧ R := ⟨(h.get 0 (by simp)).1, (h.get 1 (by simp)).1, (h.get 2 (by simp)).1, g⟩
theorem st1 {c0 : Array Value} {T0 : TypeId} {C0 : World → Nat → Prop} (o0 : Obj) (h0 : ∀ u b, BO u b (.cells c0 T0) → C0 u b) (w : World) (q0 : o0 = .cells c0 T0 := by rfl) : ∃ w0, Hid ((w.alloc o0) = w0) ∧ Hid (Below w.heap.size w w0) ∧ Hid (∀ u : World, Hid (Below w0.heap.size w0 u) → C0 u (w.heap.size)) := by
 subst q0
 have p0 : BO ((w.alloc (.cells c0 T0))) (w.heap.size) (.cells c0 T0) := BO.new w c0 T0
 exact ⟨_, aa rfl, aa (ag _ _), aa (fun u h => h0 _ _ (p0.below h.out))⟩
theorem st2 {c0 c1 : Array Value} {T0 T1 : TypeId} {C0 : World → Nat → Prop → Prop} {C1 : World → Nat → Prop} (o0 : Obj) (h0 : ∀ u b R, BO u b (.cells c0 T0) → R → C0 u b R) (o1 : Obj) (h1 : ∀ u b, BO u b (.cells c1 T1) → C1 u b) (w : World) (q0 : o0 = .cells c0 T0 := by rfl) (q1 : o1 = .cells c1 T1 := by rfl) : ∃ w0, Hid (((w.alloc o0).alloc o1) = w0) ∧ Hid (Below w.heap.size w w0) ∧ Hid (∀ u : World, Hid (Below w0.heap.size w0 u) → C0 u (w.heap.size) (C1 u (w.heap.size + 1))) := by
 subst q0 q1
 have p0 : BO (((w.alloc (.cells c0 T0)).alloc (.cells c1 T1))) (w.heap.size) (.cells c0 T0) := BO.below (BO.new w c0 T0) (ag _ _)
 have p1 : BO (((w.alloc (.cells c0 T0)).alloc (.cells c1 T1))) (w.heap.size + 1) (.cells c1 T1) := (show (w.alloc (.cells c0 T0)).heap.size = w.heap.size + 1 by simp) ▸ BO.new (w.alloc (.cells c0 T0)) c1 T1
 exact ⟨_, aa rfl, aa (af (ag _ _) (ag _ _)), aa (fun u h => h0 _ _ _ (p0.below h.out) (h1 _ _ (p1.below h.out)))⟩
theorem Ab {c0 c1 c2 : Array Value} {T0 T1 T2 : TypeId} {C0 : World → Nat → Prop → Prop} {C1 : World → Nat → Prop → Prop} {C2 : World → Nat → Prop} (o0 : Obj) (h0 : ∀ u b R, BO u b (.cells c0 T0) → R → C0 u b R) (o1 : Obj) (h1 : ∀ u b R, BO u b (.cells c1 T1) → R → C1 u b R) (o2 : Obj) (h2 : ∀ u b, BO u b (.cells c2 T2) → C2 u b) (w : World) (q0 : o0 = .cells c0 T0 := by rfl) (q1 : o1 = .cells c1 T1 := by rfl) (q2 : o2 = .cells c2 T2 := by rfl) : ∃ w0, Hid ((((w.alloc o0).alloc o1).alloc o2) = w0) ∧ Hid (Below w.heap.size w w0) ∧ Hid (∀ u : World, Hid (Below w0.heap.size w0 u) → C0 u (w.heap.size) (C1 u (w.heap.size + 1) (C2 u (w.heap.size + 2)))) := by
 subst q0 q1 q2
 have p0 : BO ((((w.alloc (.cells c0 T0)).alloc (.cells c1 T1)).alloc (.cells c2 T2))) (w.heap.size) (.cells c0 T0) := BO.below (BO.below (BO.new w c0 T0) (ag _ _)) (ag _ _)
 have p1 : BO ((((w.alloc (.cells c0 T0)).alloc (.cells c1 T1)).alloc (.cells c2 T2))) (w.heap.size + 1) (.cells c1 T1) := BO.below ((show (w.alloc (.cells c0 T0)).heap.size = w.heap.size + 1 by simp) ▸ BO.new (w.alloc (.cells c0 T0)) c1 T1) (ag _ _)
 have p2 : BO ((((w.alloc (.cells c0 T0)).alloc (.cells c1 T1)).alloc (.cells c2 T2))) (w.heap.size + 2) (.cells c2 T2) := (show ((w.alloc (.cells c0 T0)).alloc (.cells c1 T1)).heap.size = w.heap.size + 2 by simp) ▸ BO.new ((w.alloc (.cells c0 T0)).alloc (.cells c1 T1)) c2 T2
 exact ⟨_, aa rfl, aa (af (af (ag _ _) (ag _ _)) (ag _ _)), aa (fun u h => h0 _ _ _ (p0.below h.out) (h1 _ _ _ (p1.below h.out) (h2 _ _ (p2.below h.out))))⟩
theorem Iz {c0 c1 c2 c3 : Array Value} {T0 T1 T2 T3 : TypeId} {C0 : World → Nat → Prop → Prop} {C1 : World → Nat → Prop → Prop} {C2 : World → Nat → Prop → Prop} {C3 : World → Nat → Prop} (o0 : Obj) (h0 : ∀ u b R, BO u b (.cells c0 T0) → R → C0 u b R) (o1 : Obj) (h1 : ∀ u b R, BO u b (.cells c1 T1) → R → C1 u b R) (o2 : Obj) (h2 : ∀ u b R, BO u b (.cells c2 T2) → R → C2 u b R) (o3 : Obj) (h3 : ∀ u b, BO u b (.cells c3 T3) → C3 u b) (w : World) (q0 : o0 = .cells c0 T0 := by rfl) (q1 : o1 = .cells c1 T1 := by rfl) (q2 : o2 = .cells c2 T2 := by rfl) (q3 : o3 = .cells c3 T3 := by rfl) : ∃ w0, Hid (((((w.alloc o0).alloc o1).alloc o2).alloc o3) = w0) ∧ Hid (Below w.heap.size w w0) ∧ Hid (∀ u : World, Hid (Below w0.heap.size w0 u) → C0 u (w.heap.size) (C1 u (w.heap.size + 1) (C2 u (w.heap.size + 2) (C3 u (w.heap.size + 3))))) := by
 subst q0 q1 q2 q3
 have p0 : BO (((((w.alloc (.cells c0 T0)).alloc (.cells c1 T1)).alloc (.cells c2 T2)).alloc (.cells c3 T3))) (w.heap.size) (.cells c0 T0) := BO.below (BO.below (BO.below (BO.new w c0 T0) (ag _ _)) (ag _ _)) (ag _ _)
 have p1 : BO (((((w.alloc (.cells c0 T0)).alloc (.cells c1 T1)).alloc (.cells c2 T2)).alloc (.cells c3 T3))) (w.heap.size + 1) (.cells c1 T1) := BO.below (BO.below ((show (w.alloc (.cells c0 T0)).heap.size = w.heap.size + 1 by simp) ▸ BO.new (w.alloc (.cells c0 T0)) c1 T1) (ag _ _)) (ag _ _)
 have p2 : BO (((((w.alloc (.cells c0 T0)).alloc (.cells c1 T1)).alloc (.cells c2 T2)).alloc (.cells c3 T3))) (w.heap.size + 2) (.cells c2 T2) := BO.below ((show ((w.alloc (.cells c0 T0)).alloc (.cells c1 T1)).heap.size = w.heap.size + 2 by simp) ▸ BO.new ((w.alloc (.cells c0 T0)).alloc (.cells c1 T1)) c2 T2) (ag _ _)
 have p3 : BO (((((w.alloc (.cells c0 T0)).alloc (.cells c1 T1)).alloc (.cells c2 T2)).alloc (.cells c3 T3))) (w.heap.size + 3) (.cells c3 T3) := (show (((w.alloc (.cells c0 T0)).alloc (.cells c1 T1)).alloc (.cells c2 T2)).heap.size = w.heap.size + 3 by simp) ▸ BO.new (((w.alloc (.cells c0 T0)).alloc (.cells c1 T1)).alloc (.cells c2 T2)) c3 T3
 exact ⟨_, aa rfl, aa (af (af (af (ag _ _) (ag _ _)) (ag _ _)) (ag _ _)), aa (fun u h => h0 _ _ _ (p0.below h.out) (h1 _ _ _ (p1.below h.out) (h2 _ _ _ (p2.below h.out) (h3 _ _ (p3.below h.out)))))⟩
theorem Cy {c : Array Value} {T : TypeId} {C : World → Nat → Prop} (o : Obj) (e : ∀ u b, BO u b (.cells c T) → C u b) (w : World) (q : o = .cells c T := by rfl) : ∃ w2, w.alloc o = w2 ∧ Hid (Below w.heap.size w w2) ∧ Hid (w2.heap.size = w.heap.size + 1) ∧ Hid (w2.heap[w.heap.size]? = some o) ∧ Hid (∀ u : World, Hid (Below w2.heap.size w2 u) → C u w.heap.size) := by
 subst q
 exact ⟨_, rfl, aa (ag _ _), aa (by simp), aa (heap_alloc_new _ _), aa (fun u h => e _ _ ((BO.new w c T).below h.out))⟩
theorem qq : (∀ {α : Type} (xs : List α) (i : Nat) (h : i < xs.toArray.size), xs.toArray[i] = xs[i]'(by simpa using h)) ∧ (∀ {α : Type} (a : α) (l : List α) (h : 0 < (a :: l).length), getElem (a :: l) 0 h = a) ∧
  (∀ {α : Type} (a : α) (l : List α) (i : Nat) (h : i + 1 < (a :: l).length), getElem (a :: l) (i+1) h = getElem l i (Nat.lt_of_succ_lt_succ h)) ∧
  (∀ (a : Act) (d : Tmp) (v : Value), a.put (some d) v = { a with tmps := a.tmps.setIfInBounds d v }) ∧ (∀ (a : Act) (v : Value), a.put none v = a) ∧
  (∀ {α : Type} (l : List α) (i : Nat) (a : α), l.toArray.setIfInBounds i a = (l.set i a).toArray) ∧ (∀ {α : Type} (x : α) (xs : List α) (a : α), (x :: xs).set 0 a = a :: xs) ∧ (∀ {α : Type} (x : α) (xs : List α) (i : Nat) (a : α), (x :: xs).set (i + 1) a = x :: xs.set i a) ∧
  (∀ a b : Value, cond true a b = a) ∧ (∀ a b : Value, cond false a b = b) :=
 ⟨fun _ _ _ => rfl, fun _ _ _ => rfl, fun _ _ _ _ => rfl, fun _ _ _ => rfl, fun _ _ => rfl, fun l i a => List.setIfInBounds_toArray l i a, fun _ _ _ => rfl, fun _ _ _ _ => rfl, fun _ _ => rfl, fun _ _ => rfl⟩
section
variable {P : Program} {ops : Array Oper} {Q : Exit → Act → World → Prop} {md : Region.Mode} {S : World → Prop} {E : List Nat}
theorem aM (i : Nat) {oi : Oper} {v : Value} {fuel : Nat} {listed l2 : Array Bool} {a a2 : Act} {w : World} (h : eG P md ops Q S E fuel l2 a2 w) (hi : ops[i]? = some oi := by rfl)
  (hs : Region.noSelect ops = true := by kernel_rfl) (hf : Region.free md ops listed i = true := by kernel_rfl) (hr : (Region.ready md ops listed).contains i = true := by kernel_rfl) (hl : iR md ops listed i E = true := by kernel_rfl)
  (hQ : ∀ c a w, Q (.panic c) (a.put oi.dst v) w → Q (.panic c) a w := by exact fun _ _ _ h => h) (hw : Region.wanted oi (yielded ops a.tmps) = true := by rfl)
  (hy : ∀ w, S w → (execOp a.eval oi).run P w = .ok (.value v) w := by intro wS hSw; have zS := hO.out wS hSw; go_simp <;> with_reducible rfl) (hS : S w := by assumption) (hn : listed.setIfInBounds i true = l2 ∧ a.put oi.dst v = a2 := by refine ⟨?_, ?_⟩ <;> (try simp only [qq]) <;> rfl) : eG P md ops Q S E (fuel + 1) listed a w :=
 dO hi hs hf hr hl hQ (Or.inl ⟨hw, hy⟩) hS (hn.1 ▸ hn.2 ▸ h)
theorem qi (i : Nat) {oi : Oper} {v : Value} {fuel : Nat} {listed l2 : Array Bool} {a a2 : Act} {w : World} (h : eG P md ops Q S E fuel l2 a2 w) (hi : ops[i]? = some oi := by rfl)
  (hs : Region.noSelect ops = true := by kernel_rfl) (hf : Region.free md ops listed i = true := by kernel_rfl) (hr : (Region.ready md ops listed).contains i = true := by kernel_rfl) (hl : iR md ops listed i E = true := by kernel_rfl)
  (hQ : ∀ c a w, Q (.panic c) (a.put oi.dst v) w → Q (.panic c) a w := by exact fun _ _ _ h => h) (hw : Region.wanted oi (yielded ops a.tmps) = true := by rfl)
  (hy : ∀ w, S w → (execOp a.eval oi).run P w = .ok (.value v) w := by intro wS hSw; (try dsimp only at hSw); go_simp <;> with_reducible rfl) (hS : S w := by assumption) (hn : listed.setIfInBounds i true = l2 ∧ a.put oi.dst v = a2 := by refine ⟨?_, ?_⟩ <;> (try simp only [qq]) <;> rfl) : eG P md ops Q S E (fuel + 1) listed a w :=
 dO hi hs hf hr hl hQ (Or.inl ⟨hw, hy⟩) hS (hn.1 ▸ hn.2 ▸ h)
theorem Cu (i : Nat) {oi : Oper} {fuel : Nat} {listed l2 : Array Bool} {a a2 : Act} {w : World} (h : eG P md ops Q S E fuel l2 a2 w) (hi : ops[i]? = some oi := by rfl)
  (hs : Region.noSelect ops = true := by kernel_rfl) (hf : Region.free md ops listed i = true := by kernel_rfl) (hr : (Region.ready md ops listed).contains i = true := by kernel_rfl) (hl : iR md ops listed i E = true := by kernel_rfl)
  (hQ : ∀ c a w, Q (.panic c) (a.put oi.dst undef) w → Q (.panic c) a w := by exact fun _ _ _ h => h) (hw : Region.wanted oi (yielded ops a.tmps) = false := by rfl) (hS : S w := by assumption) (hn : listed.setIfInBounds i true = l2 ∧ a.put oi.dst undef = a2 := by refine ⟨?_, ?_⟩ <;> (try simp only [qq]) <;> rfl) : eG P md ops Q S E (fuel + 1) listed a w :=
 dO hi hs hf hr hl hQ (Or.inr ⟨hw, rfl⟩) hS (hn.1 ▸ hn.2 ▸ h)
theorem eX (i : Nat) {o : Oper} {fuel : Nat} {listed : Array Bool} {a : Act} {w : World}
  (h : ∀ K' : Act → World → Prop, Shut (∀ a w, S w → (S w → eG P md ops Q S E fuel (listed.setIfInBounds i true) a w) → K' a w) → if Region.wanted o (yielded ops a.tmps) = true then Oper.wp P o a w K' Q else K' (a.put o.dst undef) w)
  (hr : Region.ready md ops listed = [i] := by kernel_rfl) (ho : ops[i]? = some o := by rfl) : eG P md ops Q S E (fuel + 1) listed a w := yu hr ho h
def uh (md : Region.Mode) (ops : Array Oper) (E : List Nat) (l : Array Bool) (i : Nat) : Bool := Region.noSelect ops && (Region.free md ops l i && ((Region.ready md ops l).contains i && iR md ops l i E))
theorem rH {i : Nat} {o : Oper} {v : Value} {fuel : Nat} {l l2 : Array Bool} {a a2 : Act} {w : World} (g : ops[i]? = some o) (c : uh md ops E l i = true) (hw : Region.wanted o (yielded ops a.tmps) = true) (y : ∀ w, S w → (execOp a.eval o).run P w = .ok (.value v) w) (hS : S w) (n : l.setIfInBounds i true = l2 ∧ a.put o.dst v = a2)
    (q : ∀ d v c a w, Q (.panic c) (Act.put a d v) w → Q (.panic c) a w) (h : eG P md ops Q S E fuel l2 a2 w) : eG P md ops Q S E (fuel + 1) l a w := by
  simp only [uh, Bool.and_eq_true] at c
  obtain ⟨rfl, rfl⟩ := n
  exact dO g c.1 c.2.1 c.2.2.1 c.2.2.2 (q _ _) (Or.inl ⟨hw, y⟩) hS h
theorem rJ {i : Nat} {o : Oper} {fuel : Nat} {l l2 : Array Bool} {a a2 : Act} {w : World} (g : ops[i]? = some o) (c : uh md ops E l i = true) (hw : Region.wanted o (yielded ops a.tmps) = false) (hS : S w) (n : l.setIfInBounds i true = l2 ∧ a.put o.dst undef = a2)
    (q : ∀ d v c a w, Q (.panic c) (Act.put a d v) w → Q (.panic c) a w) (h : eG P md ops Q S E fuel l2 a2 w) : eG P md ops Q S E (fuel + 1) l a w := by
  simp only [uh, Bool.and_eq_true] at c
  obtain ⟨rfl, rfl⟩ := n
  exact dO g c.1 c.2.1 c.2.2.1 c.2.2.2 (q _ _) (Or.inr ⟨hw, rfl⟩) hS h
theorem ko (i0 i1 i2 i3 : Nat) {o0 o1 o2 o3 : Oper} {fuel : Nat} {l0 l1 l2 l3 l4 : Array Bool} {a0 a1 a2 a3 a4 : Act} {w : World} (h : eG P md ops Q S E fuel l4 a4 w)
    (g0 : ops[i0]? = some o0 := by rfl) (c0 : uh md ops E l0 i0 = true := by kernel_rfl) (w0 : Region.wanted o0 (yielded ops a0.tmps) = false := by rfl) (n0 : l0.setIfInBounds i0 true = l1 ∧ a0.put o0.dst undef = a1 := by refine ⟨?_, ?_⟩ <;> (try simp only [qq]) <;> rfl)
    (g1 : ops[i1]? = some o1 := by rfl) (c1 : uh md ops E l1 i1 = true := by kernel_rfl) (w1 : Region.wanted o1 (yielded ops a1.tmps) = false := by rfl) (n1 : l1.setIfInBounds i1 true = l2 ∧ a1.put o1.dst undef = a2 := by refine ⟨?_, ?_⟩ <;> (try simp only [qq]) <;> rfl)
    (g2 : ops[i2]? = some o2 := by rfl) (c2 : uh md ops E l2 i2 = true := by kernel_rfl) (w2 : Region.wanted o2 (yielded ops a2.tmps) = false := by rfl) (n2 : l2.setIfInBounds i2 true = l3 ∧ a2.put o2.dst undef = a3 := by refine ⟨?_, ?_⟩ <;> (try simp only [qq]) <;> rfl)
    (g3 : ops[i3]? = some o3 := by rfl) (c3 : uh md ops E l3 i3 = true := by kernel_rfl) (w3 : Region.wanted o3 (yielded ops a3.tmps) = false := by rfl) (n3 : l3.setIfInBounds i3 true = l4 ∧ a3.put o3.dst undef = a4 := by refine ⟨?_, ?_⟩ <;> (try simp only [qq]) <;> rfl)
    (S0 : S w := by assumption) (q : ∀ d v c a w, Q (.panic c) (Act.put a d v) w → Q (.panic c) a w := by first | exact fun _ _ _ _ _ h => h | (intro d v c a w h; cases d <;> exact h)) : eG P md ops Q S E (fuel + 4) l0 a0 w := rJ g0 c0 w0 S0 n0 q (rJ g1 c1 w1 S0 n1 q (rJ g2 c2 w2 S0 n2 q (rJ g3 c3 w3 S0 n3 q h)))
theorem aK (i0 i1 i2 i3 : Nat) {o0 o1 o2 o3 : Oper} {v0 v1 v2 v3 : Value} {fuel : Nat} {l0 l1 l2 l3 l4 : Array Bool} {a0 a1 a2 a3 a4 : Act} {w : World} (h : eG P md ops Q S E fuel l4 a4 w)
    (g0 : ops[i0]? = some o0 := by rfl) (c0 : uh md ops E l0 i0 = true := by kernel_rfl) (w0 : Region.wanted o0 (yielded ops a0.tmps) = true := by rfl) (y0 : ∀ w, S w → (execOp a0.eval o0).run P w = .ok (.value v0) w := by intro wS hSw; have zS := hO.out wS hSw; go_simp <;> with_reducible rfl) (n0 : l0.setIfInBounds i0 true = l1 ∧ a0.put o0.dst v0 = a1 := by refine ⟨?_, ?_⟩ <;> (try simp only [qq]) <;> rfl)
    (g1 : ops[i1]? = some o1 := by rfl) (c1 : uh md ops E l1 i1 = true := by kernel_rfl) (w1 : Region.wanted o1 (yielded ops a1.tmps) = true := by rfl) (y1 : ∀ w, S w → (execOp a1.eval o1).run P w = .ok (.value v1) w := by intro wS hSw; have zS := hO.out wS hSw; go_simp <;> with_reducible rfl) (n1 : l1.setIfInBounds i1 true = l2 ∧ a1.put o1.dst v1 = a2 := by refine ⟨?_, ?_⟩ <;> (try simp only [qq]) <;> rfl)
    (g2 : ops[i2]? = some o2 := by rfl) (c2 : uh md ops E l2 i2 = true := by kernel_rfl) (w2 : Region.wanted o2 (yielded ops a2.tmps) = true := by rfl) (y2 : ∀ w, S w → (execOp a2.eval o2).run P w = .ok (.value v2) w := by intro wS hSw; have zS := hO.out wS hSw; go_simp <;> with_reducible rfl) (n2 : l2.setIfInBounds i2 true = l3 ∧ a2.put o2.dst v2 = a3 := by refine ⟨?_, ?_⟩ <;> (try simp only [qq]) <;> rfl)
    (g3 : ops[i3]? = some o3 := by rfl) (c3 : uh md ops E l3 i3 = true := by kernel_rfl) (w3 : Region.wanted o3 (yielded ops a3.tmps) = true := by rfl) (y3 : ∀ w, S w → (execOp a3.eval o3).run P w = .ok (.value v3) w := by intro wS hSw; have zS := hO.out wS hSw; go_simp <;> with_reducible rfl) (n3 : l3.setIfInBounds i3 true = l4 ∧ a3.put o3.dst v3 = a4 := by refine ⟨?_, ?_⟩ <;> (try simp only [qq]) <;> rfl)
    (S0 : S w := by assumption) (q : ∀ d v c a w, Q (.panic c) (Act.put a d v) w → Q (.panic c) a w := by first | exact fun _ _ _ _ _ h => h | (intro d v c a w h; cases d <;> exact h)) : eG P md ops Q S E (fuel + 4) l0 a0 w := rH g0 c0 w0 y0 S0 n0 q (rH g1 c1 w1 y1 S0 n1 q (rH g2 c2 w2 y2 S0 n2 q (rH g3 c3 w3 y3 S0 n3 q h)))
theorem GD (i : Nat) {o : Oper} {fuel : Nat} {listed : Array Bool} {a : Act} {w : World}
  (h : ∀ K' : Act → World → Prop, Shut (∀ a w, eG P md ops Q S E fuel (listed.setIfInBounds i true) a w → K' a w) → if Region.wanted o (yielded ops a.tmps) = true then Oper.wp P o a w K' Q else K' (a.put o.dst undef) w)
  (hr : Region.ready md ops listed = [i] := by kernel_rfl) (hE : i ∈ E := by simp) (ho : ops[i]? = some o := by rfl) : eG P md ops Q S E (fuel + 1) listed a w := uq hr hE ho h
theorem jD {fuel : Nat} {listed : Array Bool} {a : Act} {w : World} (h : Q .normal a w) (hr : Region.ready md ops listed = [] := by kernel_rfl) : eG P md ops Q S E fuel listed a w := uu hr h fuel
theorem mG {id : Nat} {a : Act} {w : World} (B : World → Prop) (E : List Nat) (hS : Hid (B w.drew)) (h : Hid (B w.drew) → eG P .any ops Q (fun u => Hid (B u)) E ops.size (Array.replicate ops.size false) a w.drew)
  (hm : P.follows .mixedOrders = true := by kernel_rfl) : (Code.region id ops true).wp P Q a w := d_ hm hS h
theorem Bi {id : Nat} {a : Act} {w b : World} (E : List Nat) (hS : Hid (Below b.heap.size b w)) (h : Hid (Below b.heap.size b w.drew) → eG P .any ops Q (fun u => Hid (Below b.heap.size b u)) E ops.size (Array.replicate ops.size false) a w.drew)
  (hm : P.follows .mixedOrders = true := by kernel_rfl) : (Code.region id ops true).wp P Q a w := d_ hm (lV hS (Below.refl _ _).drew) h
end
namespace jK
def Cg (q a b : Int) : Prop := ∃ t, a = b + q * t
theorem Cg.refl (q a : Int) : Cg q a a := ⟨0, by simp⟩
theorem Cg.symm {q a b : Int} (h : Cg q a b) : Cg q b a := by obtain ⟨t, h⟩ := h; exact ⟨-t, by rw [h]; grind⟩
theorem Cg.trans {q a b c : Int} (h : Cg q a b) (h2 : Cg q b c) : Cg q a c := by obtain ⟨t, h⟩ := h; obtain ⟨s, h2⟩ := h2; exact ⟨s + t, by rw [h, h2]; grind⟩
theorem Cg.add {q a b c d : Int} (h : Cg q a b) (h2 : Cg q c d) : Cg q (a + c) (b + d) := by obtain ⟨t, h⟩ := h; obtain ⟨s, h2⟩ := h2; exact ⟨s + t, by rw [h, h2]; grind⟩
theorem Cg.sub {q a b c d : Int} (h : Cg q a b) (h2 : Cg q c d) : Cg q (a - c) (b - d) := by obtain ⟨t, h⟩ := h; obtain ⟨s, h2⟩ := h2; exact ⟨t - s, by rw [h, h2]; grind⟩
theorem Cg.mul {q a b c d : Int} (h : Cg q a b) (h2 : Cg q c d) : Cg q (a * c) (b * d) := by obtain ⟨t, h⟩ := h; obtain ⟨s, h2⟩ := h2; exact ⟨b * s + d * t + q * s * t, by rw [h, h2]; grind⟩
theorem Cg.mod (q a : Int) : Cg q (a % q) a := ⟨-(a / q), by have := Int.emod_add_mul_ediv a q; grind⟩
theorem Cg.of_eq {q a b : Int} (h : a = b) : Cg q a b := h ▸ Cg.refl q a
theorem Cg.eq {q a b : Int} (h : Cg q a b) : a % q = b % q := by obtain ⟨t, h⟩ := h; rw [h, Int.add_mul_emod_self_left]
def tp (xs : Nat → Int) (k : Nat) (x : Int) : Nat → Int
 | 0 => 1
 | m + 1 => if m = k then tp xs k x m else tp xs k x m * (x - xs m)
def gp (xs : Nat → Int) (x : Int) : Nat → Int
 | 0 => 1
 | m + 1 => gp xs x m * (x - xs m)
theorem nC (xs : Nat → Int) (k : Nat) (x : Int) : ∀ m, m ≤ k → tp xs k x m = gp xs x m
 | 0, _ => rfl
 | m + 1, h => by rw [tp, if_neg (by omega), gp, nC xs k x m (by omega)]
theorem nA (xs : Nat → Int) (k : Nat) (x : Int) : ∀ m, k < m → tp xs k x m * (x - xs k) = gp xs x m
 | 0, h => absurd h (by omega)
 | m + 1, h => by
  rw [tp, gp]
  by_cases e : m = k
  · subst e; rw [if_pos rfl, nC xs _ x _ (Nat.le_refl _)]
  · rw [if_neg e, ← nA xs k x m (by omega)]; grind
def sm (f : Nat → Int) : Nat → Int
 | 0 => 0
 | m + 1 => sm f m + f m
theorem uF {q : Int} {f g : Nat → Int} : ∀ m, (∀ k, k < m → Cg q (f k) (g k)) → Cg q (sm f m) (sm g m)
 | 0, _ => Cg.refl _ _
 | m + 1, h => (uF m fun k hk => h k (by omega)).add (h m (by omega))
theorem uG (f g : Nat → Int) (c : Int) : ∀ m, sm (fun k => f k + c * g k) m = sm f m + c * sm g m
 | 0 => by simp [sm]
 | m + 1 => by simp only [sm]; rw [uG f g c m]; grind
def nw (xs ys kp : Nat → Int) (x : Int) : Nat → Int
 | 0 => 0
 | m + 1 => nw xs ys kp x m + kp m * gp xs x m
theorem fT {q : Int} {xs ys kp : Nat → Int} {u : Nat → Nat → Int} {n : Nat}
  (hk : ∀ m, m < n → Cg q (kp m * gp xs (xs m) m) (ys m - nw xs ys kp (xs m) m))
  (hu : ∀ m k, m ≤ n → k < m → Cg q (u m k * tp xs k (xs k) m) 1) :
  ∀ m, m ≤ n → ∀ x, Cg q (nw xs ys kp x m) (sm (fun k => ys k * (tp xs k x m * u m k)) m)
 | 0, _, _ => Cg.refl _ _
 | m + 1, hm, x => by
  have ih := fT hk hu m (by omega)
  -- v: the inverse of gp (xs m) m
  have hv : Cg q (u (m + 1) m * gp xs (xs m) m) 1 := by
   have := hu (m + 1) m hm (by omega)
   rwa [tp, if_pos rfl, nC _ _ _ _ (Nat.le_refl _)] at this
  have hkm : Cg q (kp m) ((ys m - nw xs ys kp (xs m) m) * u (m + 1) m) := by
   have h1 : Cg q (kp m * (u (m + 1) m * gp xs (xs m) m)) (kp m * 1) := (Cg.refl _ _).mul hv
   have h2 := ((hk m (by omega)).mul (Cg.refl q (u (m + 1) m)))
   rw [Int.mul_one] at h1
   exact h1.symm.trans ((Cg.of_eq (by grind)).trans h2)
  have hF := ih x
  have hG := ih (xs m)
  -- each term
  have De : ∀ k, k < m → Cg q (ys k * (tp xs k x (m + 1) * u (m + 1) k)) (ys k * (tp xs k x m * u m k) + (-(u (m + 1) m * gp xs x m)) * (ys k * (tp xs k (xs m) m * u m k))) := by
   intro k hkm
   have e1 : tp xs k x (m + 1) = tp xs k x m * (x - xs m) := by rw [tp, if_neg (by omega)]
   have e2 : tp xs k (xs k) (m + 1) = tp xs k (xs k) m * (xs k - xs m) := by rw [tp, if_neg (by omega)]
   have e3 := nA xs k x m hkm
   have e4 := nA xs k (xs m) m hkm
   have h1 := hu (m + 1) k hm (by omega)
   have h2 := hu m k (by omega) hkm
   rw [e2] at h1
   rw [← e4] at hv
   rw [e1, ← e3]
   -- names
   generalize tp xs k x m = T at *
   generalize tp xs k (xs m) m = S at *
   generalize tp xs k (xs k) m = B at *
   generalize u (m + 1) k = a at *
   generalize u m k = b at *
   generalize u (m + 1) m = v at *
   generalize xs k = p at *
   generalize xs m = r at *
   -- a B (p - r) ≡ 1, b B ≡ 1, v S (r - p) ≡ 1; show T (x - r) a ≡ T b - v T (x - p) S b
   have hab : Cg q (a * (p - r)) b := by
    -- b ≡ b (a B (p - r)) = (b B) (a (p - r)) ≡ a (p - r)
    have q1 : Cg q (b * (a * (B * (p - r)))) (b * 1) := (Cg.refl _ _).mul h1
    have q2 : Cg q ((b * B) * (a * (p - r))) (1 * (a * (p - r))) := h2.mul (Cg.refl _ _)
    rw [Int.mul_one] at q1; rw [Int.one_mul] at q2
    exact q2.symm.trans ((Cg.of_eq (by grind)).trans q1)
   have hac : Cg q (v * S * b) (-a) := by
    -- v S b ≡ v S a (p - r) = -(v S (r - p)) a ≡ -a
    have q1 : Cg q (v * S * b) (v * S * (a * (p - r))) := (Cg.refl _ _).mul hab.symm
    have q2 : Cg q (v * (S * (r - p)) * (-a)) (1 * (-a)) := hv.mul (Cg.refl _ _)
    rw [Int.one_mul] at q2
    exact q1.trans ((Cg.of_eq (by grind)).trans q2)
   have q3 : Cg q (ys k * (T * b) + (-(T * (x - p))) * ys k * (v * S * b)) (ys k * (T * (a * (p - r))) + (-(T * (x - p))) * ys k * (-a)) :=
    ((Cg.refl _ _).mul ((Cg.refl _ _).mul hab.symm)).add ((Cg.refl _ _).mul hac)
   exact (Cg.of_eq (by grind)).trans (q3.symm.trans (Cg.of_eq (by grind)))
  have hs := uF m De
  rw [uG] at hs
  rw [sm]
  rw [show tp xs m x (m + 1) = gp xs x m by rw [tp, if_pos rfl, nC _ _ _ _ (Nat.le_refl _)]]
  rw [nw]
  have h5 : Cg q (kp m * gp xs x m) ((ys m - sm (fun k => ys k * (tp xs k (xs m) m * u m k)) m) * u (m + 1) m * gp xs x m) :=
   (hkm.trans (((Cg.refl _ _).sub hG).mul (Cg.refl _ _))).mul (Cg.refl _ _)
  exact (hF.add h5).trans ((Cg.of_eq (by grind)).trans (hs.symm.add (Cg.refl _ _)))
def Un (q a : Int) : Prop := ∃ y, Cg q (y * a) 1
theorem Un.one (q : Int) : Un q 1 := ⟨1, Cg.refl _ _⟩
theorem Un.mul {q a b : Int} (h : Un q a) (h2 : Un q b) : Un q (a * b) := by
 obtain ⟨y, h⟩ := h
 obtain ⟨z, h2⟩ := h2
 exact ⟨y * z, (Cg.of_eq (by grind)).trans ((h.mul h2).trans (Cg.of_eq (by grind)))⟩
theorem Un.cg {q a b : Int} (h : Un q a) (h2 : Cg q a b) : Un q b := by
 obtain ⟨y, h⟩ := h
 exact ⟨y, ((Cg.refl q y).mul h2).symm.trans h⟩
theorem Un.neg {q a : Int} (h : Un q a) : Un q (-a) := by
 obtain ⟨y, h⟩ := h
 exact ⟨-y, (Cg.of_eq (by grind)).trans h⟩
theorem Ao {q : Int} {xs : Nat → Int} {x : Int} : ∀ m, (∀ j, j < m → Un q (x - xs j)) → Un q (gp xs x m)
 | 0, _ => Un.one q
 | m + 1, h => (Ao m fun j hj => h j (by omega)).mul (h m (by omega))
theorem uA {q : Int} {xs : Nat → Int} {x : Int} {k : Nat} : ∀ m, (∀ j, j < m → j ≠ k → Un q (x - xs j)) → Un q (tp xs k x m)
 | 0, _ => Un.one q
 | m + 1, h => by
  rw [tp]
  by_cases e : m = k
  · rw [if_pos e]; exact uA m fun j hj => h j (by omega)
  · rw [if_neg e]; exact (uA m fun j hj => h j (by omega)).mul (h m (by omega) e)
def pv : List Int → Int → Int
 | [], _ => 0
 | c :: t, x => c + x * pv t x
def hv (q : Int) : List Int → Int → Int
 | [], _ => 0
 | c :: t, x => (hv q t x * x % q + c) % q
theorem Ah (q : Int) : ∀ (f : List Int) (x : Int), Cg q (hv q f x) (pv f x)
 | [], _ => Cg.refl _ _
 | c :: t, x => (Cg.mod _ _).trans ((((Cg.mod _ _).trans ((Ah q t x).mul (Cg.refl _ _))).add (Cg.refl _ _)).trans (Cg.of_eq (by rw [pv]; grind)))
theorem mQ {q : Int} (hq : 0 < q) : ∀ (f : List Int) (x : Int), 0 ≤ hv q f x ∧ hv q f x < q
 | [], _ => ⟨Int.le_refl _, hq⟩
 | _ :: _, _ => ⟨Int.emod_nonneg _ (by omega), Int.emod_lt_of_pos _ hq⟩
theorem Db {q : Int} (hq : 0 < q) (f : List Int) (x : Int) : hv q f x = pv f x % q := by
 rw [← (Ah q f x).eq, Int.emod_eq_of_lt (mQ hq f x).1 (mQ hq f x).2]
theorem y_ {q x : Int} {f : List Int} {k : Nat} (hk : k < f.length) : hv q (f.drop k) x = (hv q (f.drop (k + 1)) x * x % q + f.getD k 0) % q := by
 rw [List.drop_eq_getElem_cons hk, hv, List.getD_eq_getElem?_getD, List.getElem?_eq_getElem hk]; rfl
theorem vB (x : Int) : ∀ (f : List Int) (n : Nat) (v : Int), n < f.length → pv (f.set n v) x = pv f x + (v - f.getD n 0) * x ^ n
 | [], _, _, h => absurd h (by simp)
 | c :: t, 0, v, _ => by simp only [List.set_cons_zero, pv, List.getD_cons_zero]; grind
 | c :: t, n + 1, v, h => by
  simp only [List.set_cons_succ, pv, List.getD_cons_succ]
  rw [vB x t n v (by simpa using h)]; grind
theorem iM (x : Int) : ∀ (f : List Int) (n : Nat), n < f.length → pv (f.take (n + 1)) x = pv (f.take n) x + f.getD n 0 * x ^ n
 | [], _, h => absurd h (by simp)
 | c :: t, 0, _ => by simp only [List.take_succ_cons, List.take_zero, pv, List.getD_cons_zero]; grind
 | c :: t, n + 1, h => by
  rw [List.take_succ_cons, List.take_succ_cons]
  simp only [pv, List.getD_cons_succ]
  rw [iM x t n (by simpa using h)]; grind
theorem oW (x : Int) : ∀ n, pv (List.replicate n 0) x = 0
 | 0 => rfl
 | n + 1 => by rw [List.replicate_succ, pv, oW x n]; grind
theorem yU {x : Int} {f : List Int} {n : Nat} (hn : n + 1 ≤ f.length) (h0 : f.getD n 0 = 0) : pv (f.take (n + 1)) x = pv (f.take n) x := by
 rw [iM x f n (by omega), h0]; grind
theorem lu {n : Int} : ∀ l : List Int, ay n l = some true → n ∈ l
 | [], h => by cases h
 | p :: ps, h => by
  by_cases e : n % p = 0
  ·
   rw [ay, if_pos e] at h
   rw [of_decide_eq_true (Option.some.inj h)]; exact List.mem_cons_self ..
  ·
   rw [ay, if_neg e] at h
   exact List.mem_cons_of_mem _ (lu ps h)
theorem lq {n : Int} : ∀ l : List Int, ay n l = none → ∀ p ∈ l, n % p ≠ 0
 | [], _, p, hp => by cases hp
 | p :: ps, h, x, hx => by
  by_cases e : n % p = 0
  · rw [ay, if_pos e] at h; cases h
  ·
   rw [ay, if_neg e] at h
   cases hx with
   | head => exact e
   | tail _ hx => exact lq ps h x hx
theorem vN {q : Int} (h : di q = true) : q ∈ fU ∨ (q % 2 ≠ 0 ∧ q % 3 ≠ 0 ∧ q % 5 ≠ 0 ∧ q % 7 ≠ 0) := by
 have h2 := fI h
 cases hd : ay q fU with
 | some b =>
  obtain rfl : b = true := (kN h2 hd).symm.trans h
  exact Or.inl (lu _ hd)
 | none =>
  have := lq _ hd
  exact Or.inr ⟨this 2 (by decide), this 3 (by decide), this 5 (by decide), this 7 (by decide)⟩
theorem yG : ∀ q ∈ fU, ∀ d ∈ [(1 : Int), 2, 3, 4, 5, 6, 7, 8], d < q → ∃ y ∈ [(1 : Int), 2, 3, 4, 5, 6, 7, 8, 9, 10, 11, 12, 13, 14, 15, 16, 17, 18, 19, 20, 21, 22, 23, 24, 25, 26, 27, 28, 29, 30, 31, 32, 33, 34, 35, 36], y * d % q = 1 := by decide +kernel
theorem CQ {q y d : Int} (h : y * d % q = 1) : Un q d := ⟨y, (Cg.mod q (y * d)).symm.trans (Cg.of_eq h)⟩
theorem oH {q d : Int} (h : di q = true) (h0 : 0 < d) (h8 : d ≤ 8) (hd : d < q) : Un q d := by
 rcases vN h with hm | ⟨h2, h3, h5, h7⟩
 ·
  have hmem : d ∈ [(1 : Int), 2, 3, 4, 5, 6, 7, 8] := by
   have : d = 1 ∨ d = 2 ∨ d = 3 ∨ d = 4 ∨ d = 5 ∨ d = 6 ∨ d = 7 ∨ d = 8 := by omega
   rcases this with rfl | rfl | rfl | rfl | rfl | rfl | rfl | rfl <;> decide
  obtain ⟨y, _, hy⟩ := yG q hm d hmem hd
  exact CQ hy
 ·
  have key : ∃ t y, y * d = 1 + q * t := by
   have : d = 1 ∨ d = 2 ∨ d = 3 ∨ d = 4 ∨ d = 5 ∨ d = 6 ∨ d = 7 ∨ d = 8 := by omega
   rcases this with rfl | rfl | rfl | rfl | rfl | rfl | rfl | rfl
   · exact ⟨0, 1, by omega⟩
   · exact ⟨1, (1 + q) / 2, by omega⟩
   ·
    rcases (show q % 3 = 1 ∨ q % 3 = 2 by omega) with e | e
    · exact ⟨2, (1 + q * 2) / 3, by omega⟩
    · exact ⟨1, (1 + q) / 3, by omega⟩
   ·
    rcases (show q % 4 = 1 ∨ q % 4 = 3 by omega) with e | e
    · exact ⟨3, (1 + q * 3) / 4, by omega⟩
    · exact ⟨1, (1 + q) / 4, by omega⟩
   ·
    rcases (show q % 5 = 1 ∨ q % 5 = 2 ∨ q % 5 = 3 ∨ q % 5 = 4 by omega) with e | e | e | e
    · exact ⟨4, (1 + q * 4) / 5, by omega⟩
    · exact ⟨2, (1 + q * 2) / 5, by omega⟩
    · exact ⟨3, (1 + q * 3) / 5, by omega⟩
    · exact ⟨1, (1 + q) / 5, by omega⟩
   ·
    rcases (show q % 6 = 1 ∨ q % 6 = 5 by omega) with e | e
    · exact ⟨5, (1 + q * 5) / 6, by omega⟩
    · exact ⟨1, (1 + q) / 6, by omega⟩
   ·
    rcases (show q % 7 = 1 ∨ q % 7 = 2 ∨ q % 7 = 3 ∨ q % 7 = 4 ∨ q % 7 = 5 ∨ q % 7 = 6 by omega) with e | e | e | e | e | e
    · exact ⟨6, (1 + q * 6) / 7, by omega⟩
    · exact ⟨3, (1 + q * 3) / 7, by omega⟩
    · exact ⟨2, (1 + q * 2) / 7, by omega⟩
    · exact ⟨5, (1 + q * 5) / 7, by omega⟩
    · exact ⟨4, (1 + q * 4) / 7, by omega⟩
    · exact ⟨1, (1 + q) / 7, by omega⟩
   ·
    rcases (show q % 8 = 1 ∨ q % 8 = 3 ∨ q % 8 = 5 ∨ q % 8 = 7 by omega) with e | e | e | e
    · exact ⟨7, (1 + q * 7) / 8, by omega⟩
    · exact ⟨5, (1 + q * 5) / 8, by omega⟩
    · exact ⟨3, (1 + q * 3) / 8, by omega⟩
    · exact ⟨1, (1 + q) / 8, by omega⟩
  obtain ⟨t, y, e⟩ := key
  exact ⟨y, t, e⟩
theorem yH {q a b : Int} (h : di q = true) (ha : 1 ≤ a) (Kw : a ≤ 8) (haq : a < q) (hb : 0 ≤ b) (Em : b ≤ 8) (hbq : b < q) (hne : a ≠ b) : Un q (a - b) := by
 by_cases hlt : b < a
 · exact oH h (by omega) (by omega) (by omega)
 ·
  have := (oH h (show 0 < b - a by omega) (by omega) (by omega)).neg
  rwa [show -(b - a) = a - b by omega] at this
end jK
open Go.RowKit jK
def fV (a m x : Int) : Prop := 0 ≤ x ∧ x < m ∧ (x * a % m = 1 ∨ (x = 0 ∧ ∀ y, y * a % m ≠ 1))
theorem nR {a m x y : Int} (hx : fV a m x) (hy : fV a m y) : x = y := by
 obtain ⟨x0, x1, hx⟩ := hx
 obtain ⟨y0, y1, hy⟩ := hy
 rcases hx with hx | ⟨rfl, hx⟩
 ·
  rcases hy with hy | ⟨rfl, hy⟩
  ·
   have h1 : x * (y * a) % m = x % m := by rw [Int.mul_emod, hy, Int.mul_one, Int.emod_emod_of_dvd _ (Int.dvd_refl m)]
   have h2 : x * (y * a) % m = y % m := by
    rw [show x * (y * a) = y * (x * a) by rw [← Int.mul_assoc, ← Int.mul_assoc, Int.mul_comm x y], Int.mul_emod, hx, Int.mul_one, Int.emod_emod_of_dvd _ (Int.dvd_refl m)]
   have h3 := h1.symm.trans h2
   rwa [Int.emod_eq_of_lt x0 x1, Int.emod_eq_of_lt y0 y1] at h3
  · exact absurd hx (hy x)
 ·
  rcases hy with hy | ⟨rfl, hy⟩
  · exact absurd hy (hx y)
  · rfl
theorem vL {a m d : Int} (h1 : d ∣ a) (h2 : d ∣ m) (h0 : 0 < d) (hne : d ≠ 1) (y : Int) : y * a % m ≠ 1 := by
 intro h
 have h3 : d ∣ y * a := Int.dvd_mul_of_dvd_right h1
 have h4 : d ∣ m * (y * a / m) := Int.dvd_mul_of_dvd_left h2
 have h5 : d ∣ y * a - m * (y * a / m) := Int.dvd_sub h3 h4
 have h6 : y * a - m * (y * a / m) = 1 := by have := Int.emod_add_mul_ediv (y * a) m; omega
 rw [h6] at h5
 have := Int.le_of_dvd (by omega) h5
 omega
def zL (a m : Int) (w : World) (e : Ending) (w' : World) : Prop :=
 ∃ x r : Int, e = .returned (.tuple #[.int .i64 x, .int .i64 r]) ∧ fV a m x ∧ ∃ n, w' = w.drewN n
theorem uw (a m : Int) (h1 : 2 ≤ m) (h2 : m < 2305843009213693952) (ha0 : 0 ≤ a) (ha : a < m) (w : World) :
  Calls Tryz.prog 148 #[.int .i64 a, .int .i64 m] w (zL a m w) := by
 have hc := aa (lD (by omega) h2 ha0 ha ha0 ha)
 go_in
 go_wp2_with (go_at_call 96; refine (bZ _ _ _ _).mono ?_; rintro e w' ⟨rfl, rfl⟩; rw [hc.out])
 refine (qN a m (by omega) h2 ha0 ha _).mono ?_
 rintro e w' ⟨d, x, k, rfl, hx0, hx1, hd1, hd2, hd0, hd, hk, n, rfl⟩
 by_cases pU : d = 1
 ·
  have h1d : (d == 1) = true := by simp [pU]
  have I1 : (d != 1) = false := by simp [pU]
  have HX : Hid (fV a m x) := aa ⟨hx0, hx1, .inl (by rw [hk, pU, Int.add_mul_emod_self_left]; exact cO h1)⟩
  clear hk hd1 hd2 hd0 hd pU
  go_wp2
  go_ret2
  exact ⟨x, 0, rfl, HX.out, n, rfl⟩
 ·
  have h1d : (d == 1) = false := by simp [pU]
  have I1 : (d != 1) = true := by simp [pU]
  have HX : Hid (fV a m 0) := aa ⟨by omega, by omega, .inr ⟨rfl, vL hd1 hd2 hd0 pU⟩⟩
  clear hk hd1 hd2 hd0 hd pU
  go_wp2
  go_ret2
  exact ⟨0, 10, rfl, HX.out, n, rfl⟩
theorem mF (a : Int) (ha0 : 0 ≤ a) (ha : a < 9223372036854775808) (w : World) :
  Calls Tryz.prog 191 #[.int .i64 a] w fun e w' => e = .returned (.int .u64 a) ∧ w = w' := by
 have h1 : decide (a < 0) = false := by simp; omega
 have h2 : IntKind.u64.wrap a = a := by rw [IntKind.wrap_u64]; omega
 go_in
 go_wp2
 go_ret
 exact ⟨rfl, rfl⟩
def jC (a m x y : Int) : Prop := 0 ≤ x ∧ 0 ≤ y ∧ x ≤ m ∧ y ≤ m ∧ (0 < x ∨ 0 < y) ∧ (∀ c, (c ∣ x ∧ c ∣ y) ↔ (c ∣ a ∧ c ∣ m))
theorem jG {a m x y : Int} (h : jC a m x y) (hy : 0 < y) : jC a m y (x % y) := by
 obtain ⟨h1, h2, h3, h4, h5, h6⟩ := h
 have e1 : 0 ≤ x % y := Int.emod_nonneg _ (by omega)
 have e2 : x % y < y := Int.emod_lt_of_pos _ hy
 refine ⟨h2, e1, h4, by omega, .inl hy, fun c => ⟨fun ⟨c1, c2⟩ => ?_, fun ⟨c1, c2⟩ => ?_⟩⟩
 ·
  refine (h6 c).1 ⟨?_, c1⟩
  have : c ∣ x % y + y * (x / y) := Int.dvd_add c2 (Int.dvd_mul_of_dvd_left c1)
  rwa [Int.emod_add_mul_ediv] at this
 ·
  obtain ⟨k1, k2⟩ := (h6 c).2 ⟨c1, c2⟩
  refine ⟨k2, ?_⟩
  have : c ∣ x - y * (x / y) := Int.dvd_sub k1 (Int.dvd_mul_of_dvd_left k2)
  rwa [show x - y * (x / y) = x % y by have := Int.emod_add_mul_ediv x y; omega] at this
def xy (a m g : Int) : Prop := 0 < g ∧ g ≤ m ∧ g ∣ a ∧ g ∣ m ∧ ∀ c, c ∣ a → c ∣ m → c ∣ g
theorem jH {a m x : Int} (h : jC a m x 0) : xy a m x := by
 obtain ⟨h1, h2, h3, h4, h5, h6⟩ := h
 obtain ⟨c1, c2⟩ := (h6 x).1 ⟨Int.dvd_refl x, Int.dvd_zero x⟩
 exact ⟨by omega, h3, c1, c2, fun c k1 k2 => ((h6 c).2 ⟨k1, k2⟩).1⟩
def Cm (a m : Int) (w : World) (e : Ending) (w' : World) : Prop := ∃ g : Int, e = .returned (.int .i64 g) ∧ xy a m g ∧ ∃ n, w' = w.drewN n
theorem uZ (a m : Int) (h1 : 1 ≤ m) (h2 : m < 2305843009213693952) (ha0 : 0 ≤ a) (ha : a < m) (w : World) :
  Calls Tryz.prog 160 #[.int .i64 a, .int .i64 m] w (Cm a m w) := by
 have HS : Hid (jC a m a m) := aa ⟨by omega, by omega, by omega, by omega, .inr (by omega), fun c => Iff.rfl⟩
 go_in
 go_wp2_with fail
 refine (mF a ha0 (by omega) _).mono ?_
 rintro e w' ⟨rfl, rfl⟩
 go_wp2_with fail
 refine (mF m (by omega) (by omega) _).mono ?_
 rintro e w' ⟨rfl, rfl⟩
 go_wp2
 go_loopw [5, 6] (fun u v wr => ∃ x y : Int, u = .int .u64 x ∧ v = .int .u64 y ∧ Hid (jC a m x y) ∧ ∃ n, wr = w.drewN n) (fun _ v _ => (intOf v).toNat)
 case atStart => exact ⟨a, m, rfl, rfl, HS, 0, rfl⟩
 case round =>
  obtain ⟨x, y, rfl, rfl, HR, n, rfl⟩ := hrel
  obtain ⟨x0, y0, x1, y1, _⟩ := HR.out
  by_cases hy : y = 0
  ·
   subst hy
   have HD := aa (jH HR.out)
   have hne : ((x : Int) == 9223372036854775808) = false := by simp; omega
   have hcv : IntKind.i64.wrap x = x := IntWalk.i64_in _ (by omega)
   clear HR
   go_wp2
   go_ret
   exact ⟨x, rfl, HD.out, n, rfl⟩
  ·
   have hyp : 0 < y := by omega
   have d1 : decide (0 < y) = true := by simp; omega
   have d2 : ((y : Int) == 0) = false := by simp [hy]
   have HN := aa (jG HR.out hyp)
   have l2 : x % y < y := Int.emod_lt_of_pos _ hyp
   have l1 : 0 ≤ x % y := Int.emod_nonneg _ (by omega)
   clear HR hy
   go_wp2
   go_quiet (fail)
   go_wp2
   go_roundw
   case rel => exact ⟨y, x % y, rfl, rfl, HN, _, by first | rfl | exact World.drewN_drewN _ _ _⟩
   case measure => simp [intOf]; omega
def mZ (a m u v x y : Int) : Prop := jC a m u v ∧ 0 ≤ x ∧ x < m ∧ 0 ≤ y ∧ y < m ∧ (∃ k, x * a = u + m * k) ∧ (∃ k, y * a = v + m * k)
theorem oV {a m : Int} (h1 : 2 ≤ m) (ha0 : 0 ≤ a) (ha : a < m) : mZ a m a m (1 % m) 0 := by
 rw [cO h1]
 exact ⟨⟨by omega, by omega, by omega, by omega, .inr (by omega), fun c => Iff.rfl⟩, by omega, by omega, by omega, by omega, ⟨0, by omega⟩, ⟨-1, by omega⟩⟩
theorem qA {a m u v x y : Int} (h : mZ a m u v x y) (hv : 0 < v) : mZ a m v (u - u / v * v) y ((x - (u / v % m) * y % m) % m) ∧ 0 ≤ u / v ∧ u / v ≤ m ∧ 0 ≤ u / v * v ∧ u / v * v ≤ u ∧ u - u / v * v < v := by
 obtain ⟨hg, x0, x1, y0, y1, ⟨k1, hk1⟩, ⟨k2, hk2⟩⟩ := h
 have hs := jG hg hv
 obtain ⟨g1, g2, g3, g4, g5, g6⟩ := hg
 have e1 : u - u / v * v = u % v := by have := Int.emod_add_mul_ediv u v; rw [Int.mul_comm] at this; omega
 have e2 : 0 ≤ u % v := Int.emod_nonneg _ (by omega)
 have e3 : u % v < v := Int.emod_lt_of_pos _ hv
 have e4 : 0 ≤ u / v := Int.ediv_nonneg g1 (by omega)
 have e5 : 0 ≤ u / v * v := Int.mul_nonneg e4 (by omega)
 have e6 : u / v ≤ u / v * v := by have := Int.mul_le_mul_of_nonneg_left (show (1 : Int) ≤ v by omega) e4; omega
 have hm : 0 < m := by omega
 refine ⟨⟨by rw [e1]; exact hs, y0, y1, Int.emod_nonneg _ (by omega), Int.emod_lt_of_pos _ hm, ⟨k2, hk2⟩, ?_⟩, e4, by omega, e5, by omega, by omega⟩
 -- the new Au
 obtain ⟨q, hq⟩ : ∃ q, u / v = q := ⟨_, rfl⟩
 rw [hq] at e1 ⊢
 have c1 : ∃ t, (q % m) * y % m = q * y + m * t := by
  refine ⟨-(q / m * y) - ((q % m) * y / m), ?_⟩
  have h1 := Int.emod_add_mul_ediv ((q % m) * y) m
  have h2 : (q % m) * y = q * y - m * (q / m * y) := by
   have := Int.emod_add_mul_ediv q m
   rw [show q % m = q - m * (q / m) by omega, Int.sub_mul, Int.mul_assoc]
  rw [Int.mul_sub, Int.mul_neg]
  omega
 obtain ⟨t, ht⟩ := c1
 obtain ⟨s, hs2⟩ : ∃ s, (x - (q % m) * y % m) % m = x - (q % m) * y % m + m * s := ⟨-((x - (q % m) * y % m) / m), by have := Int.emod_add_mul_ediv (x - (q % m) * y % m) m; rw [Int.mul_neg]; omega⟩
 refine ⟨k1 - q * k2 + (s - t) * a, ?_⟩
 rw [hs2, ht]
 obtain ⟨e, he⟩ : ∃ e, s - t = e := ⟨_, rfl⟩
 rw [he, show x - (q * y + m * t) + m * s = x - q * y + m * e by rw [← he, Int.mul_sub]; omega, Int.add_mul, Int.sub_mul, hk1, Int.mul_assoc q y a, hk2, Int.mul_add q, Int.mul_add m, Int.mul_sub m, ← Int.mul_assoc q m, Int.mul_comm q m, Int.mul_assoc m q, Int.mul_assoc m e a]
 omega
theorem qB {a m u x y g : Int} (h1 : 2 ≤ m) (h : mZ a m u 0 x y) (hg : xy a m g) (I4 : g = 1) : fV a m x ∧ x * a % m = 1 := by
 obtain ⟨hG, x0, x1, y0, y1, ⟨k1, hk1⟩, _⟩ := h
 obtain ⟨d1, d2, d3, d4, d5⟩ := jH hG
 have hu : u ∣ 1 := by rw [← I4]; exact hg.2.2.2.2 u d3 d4
 have hu1 : u = 1 := by have := Int.le_of_dvd (by omega) hu; omega
 have he : x * a % m = 1 := by
  rw [hk1, hu1, Int.add_mul_emod_self_left]
  exact cO h1
 exact ⟨⟨x0, x1, .inl he⟩, he⟩
def zN (a m : Int) (w : World) (e : Ending) (w' : World) : Prop :=
 ∃ (x : Int) (b : Bool), e = .returned (.tuple #[.int .i64 x, .bool b]) ∧ fV a m x ∧ (b = true ↔ ∃ y, y * a % m = 1) ∧ ∃ n, w' = w.drewN n
theorem uY (a m : Int) (h1 : 2 ≤ m) (h2 : m < 2305843009213693952) (ha0 : 0 ≤ a) (ha : a < m) (w : World) :
  Calls Tryz.prog 108 #[.int .i64 a, .int .i64 m] w (zN a m w) := by
 have hmz : ((m : Int) == 0) = false := by simp; omega
 have HS : Hid (mZ a m a m (1 % m) 0) := aa (oV h1 ha0 ha)
 go_in
 go_wp2_with fail
 refine (uZ a m (by omega) h2 ha0 ha _).mono ?_
 rintro e w' ⟨g, rfl, hg, n0, rfl⟩
 by_cases hg1 : g = 1
 ·
  have d1 : (g == 1) = true := by simp [hg1]
  have d2 : (g != 1) = false := by simp [hg1]
  have HG := aa hg
  have DZ := aa hg1
  clear hg hg1
  go_wp2
  go_loopw [6, 7, 8, 9] (fun u v s t wr => ∃ u' v' x y : Int, u = .int .i64 u' ∧ v = .int .i64 v' ∧ s = .int .i64 x ∧ t = .int .i64 y ∧ Hid (mZ a m u' v' x y) ∧ ∃ n, wr = w.drewN n) (fun u v _ _ _ => (intOf v).toNat)
  case atStart => exact ⟨a, m, 1 % m, 0, rfl, rfl, rfl, rfl, HS, n0, rfl⟩
  case round =>
   obtain ⟨u, v, x, y, rfl, rfl, rfl, rfl, HR, n, rfl⟩ := hrel
   by_cases hv : v = 0
   ·
    subst hv
    have HD := aa (qB h1 HR.out HG.out DZ.out)
    clear HR
    go_wp2
    go_ret2
    exact ⟨x, true, rfl, HD.out.1, ⟨fun _ => ⟨x, HD.out.2⟩, fun _ => rfl⟩, n, rfl⟩
   ·
    obtain ⟨⟨u0, v0, u1, v1, _⟩, x0, x1, y0, y1, _⟩ := HR.out
    have hvp : 0 < v := by omega
    have d1 : ((v : Int) == 0) = false := by simp [hv]
    have d2 : ((v : Int) != 0) = true := by simp [hv]
    obtain ⟨hst, s1, s2, s3, s4, s5⟩ := qA HR.out hvp
    obtain ⟨q, hq⟩ : ∃ q, u / v = q := ⟨_, rfl⟩
    rw [hq] at hst s1 s2 s3 s4 s5
    obtain ⟨qv, IJ⟩ : ∃ t, q * v = t := ⟨_, rfl⟩
    rw [IJ] at hst s3 s4 s5
    obtain ⟨r, hr⟩ : ∃ r, q % m = r := ⟨_, rfl⟩
    obtain ⟨p, hp⟩ : ∃ p, r * y % m = p := ⟨_, rfl⟩
    obtain ⟨z, hz⟩ : ∃ z, (x - p) % m = z := ⟨_, rfl⟩
    rw [hr, hp, hz] at hst
    have r0 : 0 ≤ r := by rw [← hr]; exact Int.emod_nonneg _ (by omega)
    have r1 : r < m := by rw [← hr]; exact Int.emod_lt_of_pos _ (by omega)
    have p0 : 0 ≤ p := by rw [← hp]; exact Int.emod_nonneg _ (by omega)
    have p1 : p < m := by rw [← hp]; exact Int.emod_lt_of_pos _ (by omega)
    have HST := aa hst
    have xC := aa hr
    have Jy := aa hp
    have I9 := aa hz
    have IP : IntKind.i64.wrap (x - p) = x - p := IntWalk.i64_in _ (by omega)
    clear hst HR hr hp hz hv
    go_wp2_with fail
    refine (cB q m r xC (by omega) h2 (by omega) (by omega) _).mono ?_
    rintro e w' ⟨rfl, rfl⟩
    go_wp2_with fail
    refine (aU r y m p Jy h2 r0 r1 y0 y1 _).mono ?_
    rintro e w' ⟨rfl, rfl⟩
    go_wp2_with fail
    refine (cB (x - p) m z I9 (by omega) h2 (by omega) (by omega) _).mono ?_
    rintro e w' ⟨rfl, rfl⟩
    go_wp2
    go_roundw
    case rel => exact ⟨v, u - qv, y, z, rfl, rfl, rfl, rfl, HST, _, rfl⟩
    case measure => simp [intOf]; omega
 ·
  have d1 : (g == 1) = false := by simp [hg1]
  have d2 : (g != 1) = true := by simp [hg1]
  have t_ : Hid (∀ y, y * a % m ≠ 1) := aa (vL hg.2.2.1 hg.2.2.2.1 hg.1 hg1)
  have HD : Hid (fV a m 0) := aa ⟨by omega, by omega, .inr ⟨rfl, t_.out⟩⟩
  clear hg hg1
  go_wp2
  go_ret2
  exact ⟨0, false, rfl, HD.out, ⟨fun h => (by cases h), fun ⟨y, hy⟩ => absurd hy (t_.out y)⟩, n0, rfl⟩
noncomputable def dH (a m : Int) : Int := @dite _ (∃ x, fV a m x) (Classical.propDecidable _) (fun h => Classical.choose h) (fun _ => 0)
noncomputable def C_ (a m : Int) : Bool := @decide (∃ y, y * a % m = 1) (Classical.propDecidable _)
theorem gI {a m x : Int} (h : fV a m x) : dH a m = x := by
 have he : ∃ x, fV a m x := ⟨x, h⟩
 unfold dH
 rw [dif_pos he]
 exact nR (Classical.choose_spec he) h
theorem uX (a m x : Int) (b : Bool) (hx : Hid (dH a m = x)) (hb : Hid (C_ a m = b)) (h1 : 2 ≤ m) (h2 : m < 2305843009213693952) (ha0 : 0 ≤ a) (ha : a < m) (w : World) :
  Calls Tryz.prog 108 #[.int .i64 a, .int .i64 m] w fun e w' => e = .returned (.tuple #[.int .i64 x, .bool b]) ∧ ∃ n, w' = w.drewN n :=
 (uY a m h1 h2 ha0 ha w).mono fun e w' ⟨x', b', he, hi, hb', hn⟩ => by
  obtain rfl : x' = x := (gI hi).symm.trans hx.out
  obtain rfl : b' = b := by
   rw [← hb.out, C_, Bool.eq_iff_iff]
   simp only [decide_eq_true_eq]
   exact hb'
  exact ⟨he, hn⟩
theorem ni (a b m v : Int) (hv : Hid (a * b % m = v)) (h2 : m < 2305843009213693952) (ha0 : 0 ≤ a) (ha : a < m) (hb0 : 0 ≤ b) (hb : b < m) (w : World) :
  Calls Tryz.prog 35 #[.int .i64 a, .int .i64 b, .int .i64 m] w fun e w' => e = .returned (.tuple #[.int .i64 v, .int .i64 0]) ∧ ∃ n, w' = w.drewN n := by
 rw [← hv.out]; exact ru a b m h2 ha0 ha hb0 hb w
theorem dQ {Q x : Int} (h : aQ Q x = true) : 0 ≤ x := by simp [aQ] at h; exact h.1
theorem dR {Q x : Int} (h : aQ Q x = true) : x < Q := by simp [aQ] at h; exact h.2
theorem aO.keep {w w' : World} {B : Nat} {v : Value} {xs : List Int} (h : aO w B v xs) (hb : Below w.heap.size w w') : aO w' B v xs := by
 obtain ⟨h1, h2⟩ := h
 refine ⟨h1, h2.imp id ?_⟩
 rintro ⟨g, cap, cur, rfl, hg, hh, rest⟩
 exact ⟨g, cap, cur, rfl, hg, (hb.block g (Array.getElem?_eq_some_iff.1 hh).1).trans hh, rest⟩
theorem aO.mono {w : World} {B B' : Nat} {v : Value} {xs : List Int} (h : aO w B v xs) (hb : B' ≤ B) : aO w B' v xs := by
 obtain ⟨h1, h2⟩ := h
 refine ⟨h1, h2.imp id ?_⟩
 rintro ⟨g, cap, cur, rfl, hg, rest⟩
 exact ⟨g, cap, cur, rfl, by omega, rest⟩
def sD (zs : List Int) (w : World) (e : Ending) (w' : World) : Prop := ∃ v, e = .returned v ∧ aO w' w.heap.size v zs ∧ Below w.heap.size w w'
theorem cu {w : World} {b : Nat} {xs : List Int} (h : Cells w b xs) : Sl w (some ⟨b, 0, none⟩) xs := fun k hk => ⟨b, 0, rfl, by rw [Nat.zero_add]; exact h k hk⟩
theorem jV {Q c : Int} (h0 : 0 ≤ c) (h1 : c < Q) : [c].all (aQ Q) = true := by simp [aQ]; omega
theorem ek {a q v : Int} (h0 : 0 ≤ a) (h : a % q = v) : a.tmod q = v := by rw [Int.tmod_eq_emod_of_nonneg h0]; exact h
theorem iN (q a b v : Int) (hv : Hid ((a - b + q) % q = v)) (h1 : 1 ≤ q) (h2 : q < 2305843009213693952) (a0 : 0 ≤ a) (a1 : a < q) (b0 : 0 ≤ b) (b1 : b < q) (w : World) :
  Calls Tryz.prog 94 #[.int .i64 q, .int .i64 a, .int .i64 b] w (Rt w (.int .i64 v)) := by
 have d1 : IntKind.i64.wrap (a - b) = a - b := IntWalk.i64_in _ (by omega)
 have d2 : IntKind.i64.wrap (a - b + q) = a - b + q := IntWalk.i64_in _ (by omega)
 have e1 : wrap64 (a - b) = a - b := IntWalk.wrap64_in _ (by omega)
 have e2 : wrap64 (a - b + q) = a - b + q := IntWalk.wrap64_in _ (by omega)
 have Ai : (a - b + q).tmod q = v := ek (by omega) hv.out
 have v0 : 0 ≤ v := by rw [← hv.out]; exact Int.emod_nonneg _ (by omega)
 have v1 : v < q := by rw [← hv.out]; exact Int.emod_lt_of_pos _ (by omega)
 have hwt : IntKind.i64.wrap v = v := IntWalk.i64_in _ (by omega)
 have hQn : ¬ (q = 0) := by omega
 have Am : ((q : Int) == 0) = false := by simp; omega
 go_in
 go_wp2
 go_ret
 exact ⟨rfl, Below.refl _ _⟩
theorem dN (q a b v : Int) (hv : Hid (a * b % q = v)) (h2 : q < 2305843009213693952) (a0 : 0 ≤ a) (a1 : a < q) (b0 : 0 ≤ b) (b1 : b < q) (w : World) :
  Calls Tryz.prog 93 #[.int .i64 q, .int .i64 a, .int .i64 b] w (Rt w (.int .i64 v)) := by
 go_in
 go_wp2_with fail
 refine (ni a b q v hv h2 a0 a1 b0 b1 _).mono ?_
 rintro e w' ⟨rfl, n3, rfl⟩
 have hbq := aj (Below.refl w.heap.size w) n3
 go_wp2
 go_ret
 exact ⟨rfl, hbq⟩
theorem o6 (q a v : Int) (hv : Hid (dH a q = v)) (h1 : 2 ≤ q) (h2 : q < 2305843009213693952) (a0 : 0 ≤ a) (a1 : a < q) (w : World) :
  Calls Tryz.prog 95 #[.int .i64 q, .int .i64 a] w fun e' w' => e' = .returned (.int .i64 v) ∧ 0 ≤ v ∧ v < q ∧ Below w.heap.size w w' := by
 go_in
 go_wp2_with fail
 refine (uw a q h1 h2 a0 a1 _).mono ?_
 rintro e w' ⟨x, r, rfl, hx, n3, rfl⟩
 obtain rfl : x = v := (gI hx).symm.trans hv.out
 have x0 := hx.1
 have x1 := hx.2.1
 have hbq := aj (Below.refl w.heap.size w) n3
 clear hx
 go_wp2
 go_ret
 exact ⟨rfl, x0, x1, hbq⟩
theorem kM (q : Int) (h2 : q < 2305843009213693952) (hp : Hid (di q = true)) (w : World) (hv : Hid (Vars w)) :
  Calls Tryz.prog 116 #[.int .i64 q] w (Rt w (.bool true)) := by
 have d1 : decide (q < 2305843009213693952) = true := by simp; omega
 go_in
 go_wp2_with fail
 refine (dB q (by omega) true hp.out _ hv.out).mono ?_
 rintro e w' ⟨rfl, n3, rfl⟩
 have hbq := aj (Below.refl w.heap.size w) n3
 go_wp2
 go_ret
 exact ⟨rfl, hbq⟩
theorem uJ (q : Int) (a : Nat) (W : World) (hx : Hid (W.cell? ⟨a, 0, none⟩ = some (.int .i64 q))) :
  Says 157 #[.pointer (some ⟨a, 0, none⟩)] (fun x => !aQ q x) W := fun x w1 hb => by
 show Calls Tryz.prog 157 #[.int .i64 x, .pointer (some ⟨a, 0, none⟩)] w1 fun e w' => e = .returned (.bool (!aQ q x)) ∧ Below w1.heap.size w1 w'
 have c0 := cell_below hx.out hb
 by_cases h0 : x < 0
 ·
  have e : aQ q x = false := by simp [aQ]; omega
  rw [e]
  have d0 : decide (x < 0) = true := by simp; omega
  clear hb e
  go_in
  go_wp2
  go_ret
  exact ⟨rfl, Below.refl _ _⟩
 ·
  have d0 : decide (x < 0) = false := by simp; omega
  obtain ⟨t, ht⟩ : ∃ t, decide (q ≤ x) = t := ⟨_, rfl⟩
  have e : aQ q x = !t := by
   rw [← ht, aQ, decide_eq_true (show (0 : Int) ≤ x by omega), Bool.true_and, ← decide_not]
   exact decide_eq_decide.2 (by omega)
  rw [e, Bool.not_not]
  clear hb e
  go_in
  go_wp2
  go_ret
  exact ⟨by first | rfl | rw [ht], Below.refl _ _⟩
theorem bL (q : Int) (A : Option Addr) (xs : List Int) (n c : Nat) (r : Bool) (hr : Hid (xs.all (aQ q) = r)) (hn : Hid (xs.length = n)) (hbig : Hid (n < 1000000)) (w : World) (hs : Hid (Sl w A xs)) :
  Calls Tryz.prog 102 #[.int .i64 q, .slice A n c] w (Rt w (.bool r)) := by
 have HX0 : Hid ((w.alloc (.cells #[.int .i64 q] 3)).cell? ⟨w.heap.size, 0, none⟩ = some (.int .i64 q)) := aa (ah (heap_alloc_new _ _) 0)
 have Gc := aa (hs.out.below (ag w (.cells #[.int .i64 q] 3)))
 have Jo := aa (uJ q w.heap.size _ HX0)
 have HP : Hid ((xs.any fun x => !aQ q x) = !r) := aa (by rw [qa, hr.out])
 clear hs
 go_in
 go_wp2_with fail
 refine (BM (.pointer (some ⟨w.heap.size, 0, none⟩)) (fun x => !aQ q x) (!r) A xs n c HP hn hbig _ Gc Jo).mono ?_
 rintro e w1 ⟨rfl, hb0⟩
 have hb1 := af (ag _ _) hb0
 clear hb0
 go_wp2
 go_ret
 exact ⟨by simp, hb1⟩
theorem v_ (A : Option Addr) (xs : List Int) (n c : Nat) (v : Int) (hn : Hid (xs.length = n)) (hbig : n < 1000000) (hno : Hid (∀ k, k < n → v ≠ xs.getD k 0)) (w : World) (hs : Hid (Sl w A xs)) :
  Calls Tryz.prog 183 #[.slice A n c, .int .i64 v] w (Rt w (.int .i64 (-1))) := by
 go_in
 go_wp2
 go_loopw [8] (fun i wr => ∃ k : Nat, k ≤ n ∧ i = .int .i64 k ∧ Hid (Below w.heap.size w wr)) (fun i _ => n - (intOf i).toNat)
 case atStart => exact ⟨0, by omega, rfl, aa (Below.refl _ _)⟩
 case round =>
  obtain ⟨k, hk, rfl, ax⟩ := hrel
  by_cases hlt : k < n
  ·
   have hkl : k < xs.length := by rw [hn.out]; exact hlt
   obtain ⟨b, o, hA, hi0⟩ := hs.out.below ax.out k hkl
   subst hA
   have hne := hno.out k hlt
   obtain ⟨x, hx⟩ : ∃ x, xs.getD k 0 = x := ⟨_, rfl⟩
   rw [hx] at hi0 hne
   have hnq : (v == x) = false := by simpa using hne
   clear hx hkl hne
   go_wp2
   go_roundw
   case rel => exact ⟨k + 1, by omega, by go_num, ax⟩
   case measure => simp [intOf]; omega
  ·
   obtain rfl : k = n := by omega
   go_wp2
   go_ret
   exact ⟨rfl, ax.out⟩
theorem p_ (A : Option Addr) (xs : List Int) (n c : Nat) (v : Int) (hn : Hid (xs.length = n)) (hbig : n < 1000000) (hno : Hid (∀ k, k < n → v ≠ xs.getD k 0)) (w : World) (hs : Hid (Sl w A xs)) :
  Calls Tryz.prog 147 #[.slice A n c, .int .i64 v] w (Rt w (.bool false)) := by
 go_in
 go_wp2_with fail
 refine (v_ A xs n c v hn hbig hno _ hs).mono ?_
 rintro e w1 ⟨rfl, hb0⟩
 go_wp2
 go_ret
 exact ⟨rfl, hb0⟩
theorem fC {w : World} {A : Option Addr} {xs : List Int} (h : Sl w A xs) (k : Nat) : Sl w A (xs.take k) := fun j hj => by
 have hj2 : j < k ∧ j < xs.length := by rw [List.length_take] at hj; omega
 obtain ⟨b, o, h1, h2⟩ := h j hj2.2
 refine ⟨b, o, h1, ?_⟩
 rw [h2, List.getD_eq_getElem?_getD, List.getD_eq_getElem?_getD, List.getElem?_take_of_lt hj2.1]
def aP (xs : List Int) : Prop := ∀ i j, i < xs.length → j < i → xs.getD i 0 ≠ xs.getD j 0
theorem mM (q : Int) (A : Option Addr) (xs : List Int) (n c : Nat) (O : Option Addr) (os : List Int) (m d : Nat) (h2 : q < 2305843009213693952) (hp : Hid (di q = true)) (hn : Hid (xs.length = n)) (hbig : n ≤ 100) (hcap : n ≤ c) (hm : Hid (os.length = m)) (hmb : m ≤ 100)
  (hx : Hid (xs.all (aQ q) = true)) (ho : Hid (os.all (aQ q) = true)) (hnt : Hid (aP xs)) (w : World) (hv : Hid (Vars w)) (hs : Hid (Sl w A xs)) (hO : Hid (Sl w O os)) :
  Calls Tryz.prog 92 #[.int .i64 q, .slice A n c, .slice O m d] w (Rt w (.int .i64 0)) := by
 have d1 : decide ((100 : Int) < (n : Int)) = false := by simp; omega
 go_in
 go_wp2_with fail
 refine (kM q h2 hp _ hv).mono ?_
 rintro e w1 ⟨rfl, hb0⟩
 have HB1 := aa hb0
 clear hb0
 go_wp2_with fail
 refine (bL q A xs n c true hx hn (aa (by omega)) _ (aa (hs.out.below HB1.out))).mono ?_
 rintro e w2 ⟨rfl, hb0⟩
 have HB2 := aa (af HB1.out hb0)
 clear hb0
 go_wp2_with fail
 refine (bL q O os m d true ho hm (aa (by omega)) _ (aa (hO.out.below HB2.out))).mono ?_
 rintro e w3 ⟨rfl, hb0⟩
 have HB3 := aa (af HB2.out hb0)
 clear hb0
 go_wp2
 go_loopw [31] (fun i wr => ∃ k : Nat, k ≤ n ∧ i = .int .i64 k ∧ Hid (Below w.heap.size w wr)) (fun i _ => n - (intOf i).toNat)
 case atStart => exact ⟨0, by omega, rfl, HB3⟩
 case round =>
  obtain ⟨k, hk, rfl, ax⟩ := hrel
  by_cases hlt : k < n
  ·
   have hkl : k < xs.length := by rw [hn.out]; exact hlt
   have Az := aa (hs.out.below ax.out)
   obtain ⟨b, o, hA, hi0⟩ := Az.out k hkl
   subst hA
   have hkc : k ≤ c := by omega
   have HT := aa (fC Az.out k)
   have BV : Hid ((xs.take k).length = k) := aa (by rw [List.length_take]; omega)
   have t_ : Hid (∀ j, j < k → xs.getD k 0 ≠ (xs.take k).getD j 0) := aa (fun j hj => by
    have := hnt.out k j hkl hj
    rwa [List.getD_eq_getElem?_getD (l := xs.take k), List.getElem?_take_of_lt hj, ← List.getD_eq_getElem?_getD])
   obtain ⟨x, GK⟩ : ∃ x, xs.getD k 0 = x := ⟨_, rfl⟩
   rw [GK] at hi0 t_
   clear GK hkl
   go_wp2_with fail
   refine (p_ (some ⟨b, o, none⟩) (xs.take k) k c x BV (by omega) t_ _ HT).mono ?_
   rintro e w4 ⟨rfl, hb0⟩
   have EL := aa (af ax.out hb0)
   clear hb0
   go_wp2
   go_roundw
   case rel => exact ⟨k + 1, by omega, by go_num, EL⟩
   case measure => simp [intOf]; omega
  ·
   obtain rfl : k = n := by omega
   go_wp2
   go_ret
   exact ⟨rfl, ax.out⟩
def eH (q : Int) (xs : List Int) (i : Nat) (x : Int) : Nat → Int
 | 0 => 1
 | m + 1 => if m = i then eH q xs i x m else eH q xs i x m * ((x - xs.getD m 0 + q) % q) % q
theorem dP {q : Int} (hq : 2 ≤ q) (xs : List Int) (i : Nat) (x : Int) : ∀ m, 0 ≤ eH q xs i x m ∧ eH q xs i x m < q
 | 0 => ⟨by rw [eH]; omega, by rw [eH]; omega⟩
 | m + 1 => by
  rw [eH]
  split
  · exact dP hq xs i x m
  · exact ⟨Int.emod_nonneg _ (by omega), Int.emod_lt_of_pos _ (by omega)⟩
theorem kg (q : Int) (xs : List Int) (i : Nat) (x : Int) : ∀ m, Cg q (eH q xs i x m) (tp (fun j => xs.getD j 0) i x m)
 | 0 => Cg.refl _ _
 | m + 1 => by
  rw [eH, tp]
  split
  · exact kg q xs i x m
  · exact (Cg.mod _ _).trans ((kg q xs i x m).mul ((Cg.mod _ _).trans ⟨1, by grind⟩))
noncomputable def jT (q : Int) (xs : List Int) (t : Int) (i : Nat) : Int := eH q xs i t xs.length * dH (eH q xs i (xs.getD i 0) xs.length) q % q
noncomputable def oq (q : Int) (xs : List Int) (t : Int) (k : Nat) : List Int := (List.range k).map (jT q xs t)
theorem aI (q : Int) (xs : List Int) (t : Int) (k : Nat) : (oq q xs t k).length = k := by simp [oq]
theorem oF (q : Int) (xs : List Int) (t : Int) (k : Nat) : oq q xs t (k + 1) = oq q xs t k ++ [jT q xs t k] := by simp [oq, List.range_succ]
theorem m_ (q : Int) (xs : List Int) (t : Int) (k i : Nat) (h : i < k) : (oq q xs t k).getD i 0 = jT q xs t i := by
 rw [oq, List.getD_eq_getElem?_getD, List.getElem?_map, List.getElem?_range h]; rfl
theorem iq {q : Int} (hq : 2 ≤ q) (xs : List Int) (t : Int) (i : Nat) : 0 ≤ jT q xs t i ∧ jT q xs t i < q := ⟨Int.emod_nonneg _ (by omega), Int.emod_lt_of_pos _ (by omega)⟩
theorem oM (x y q : Int) : x + q - y = x - y + q := by omega
theorem pO {q : Int} (hq : 2 ≤ q) : (1 : Int).tmod q = 1 := by rw [Int.tmod_eq_emod_of_nonneg (by omega)]; exact Int.emod_eq_of_lt (by omega) (by omega)
def Dv (q : Int) (xs : List Int) (t : Int) (n : Nat) (w : World) (e : Ending) (w' : World) : Prop := ∃ v, e = .returned (.tuple #[v, .int .i64 0]) ∧ aO w' w.heap.size v (oq q xs t n) ∧ Below w.heap.size w w'
theorem oG (q : Int) (A : Option Addr) (xs : List Int) (n c : Nat) (t : Int) (h2 : q < 2305843009213693952) (hp : Hid (di q = true)) (hn : Hid (xs.length = n)) (hbig : n ≤ 100) (hx : Hid (xs.all (aQ q) = true)) (t0 : 0 ≤ t) (t1 : t < q) (hcap : n ≤ c) (hnt : Hid (aP xs)) (w : World) (hv : Hid (Vars w)) (hs : Hid (Sl w A xs)) :
  Calls Tryz.prog 34 #[.int .i64 q, .slice A n c, .int .i64 t] w (Dv q xs t n w) := by
 obtain ⟨i0, hi, hz0, hz1, hz2⟩ := info_parts fJ
 have q2 := fI hp.out
 have hq := ag w (.cells #[.int .i64 t] 3)
 have HO := aa (cu (lG w 3 t))
 have H6 := aa (hv.out.below hq)
 have F5 := aa (hs.out.below hq)
 have J2 : Hid ([t].all (aQ q) = true) := aa (jV t0 t1)
 have JZ := aa hq
 clear hq hv hs
 go_in
 go_wp2_with fail
 refine (mM q A xs n c (some ⟨w.heap.size, 0, none⟩) [t] 1 1 h2 hp hn hbig hcap (aa rfl) (by omega) hx J2 hnt _ H6 F5 HO).mono ?_
 rintro e W ⟨rfl, hb0⟩
 have xO := aa (af JZ.out hb0)
 have AA := aa (F5.out.below hb0)
 have I_ := aa xO.out.size
 clear hb0 HO H6 F5
 go_wp2
 go_loopw [9, 26] (fun v i wr => ∃ k : Nat, k ≤ n ∧ i = .int .i64 k ∧ Hid (aO wr W.heap.size v (oq q xs t k)) ∧ Hid (Below W.heap.size W wr)) (fun _ i _ => n - (intOf i).toNat)
 case atStart => exact ⟨0, by omega, rfl, aa (o7 _ _), aa (Below.refl _ _)⟩
 case round =>
  obtain ⟨k, hk, rfl, HOr, ax⟩ := hrel
  by_cases hlt : k < n
  ·
   have hkl : k < xs.length := by rw [hn.out]; exact hlt
   obtain ⟨b, o, hA, hi0⟩ := AA.out.below ax.out k hkl
   subst hA
   have hm1 := fM hx.out hkl
   obtain ⟨xk, hxk⟩ : ∃ x, xs.getD k 0 = x := ⟨_, rfl⟩
   rw [hxk] at hi0 hm1
   have k0 := dQ hm1
   have k1 := dR hm1
   have Ez := aa hxk
   have hQn : ¬ (q = 0) := by omega
   have Am : ((q : Int) == 0) = false := by simp; omega
   have KN := pO q2
   clear hxk hm1 hkl
   go_wp2
   go_quiet (fail)
   go_wp2
   clear hi0
   go_loopw [12, 13, 37] (fun a u j wz => ∃ m : Nat, m ≤ n ∧ j = .int .i64 m ∧ a = .int .i64 (eH q xs k t m) ∧ u = .int .i64 (eH q xs k xk m) ∧ Hid (Below wr.heap.size wr wz)) (fun _ _ j _ => n - (intOf j).toNat)
   case atStart => exact ⟨0, by omega, rfl, rfl, rfl, aa (by first | exact Below.refl _ _ | exact (Below.refl _ _).drew | exact aj (Below.refl _ _) _)⟩
   case round =>
    obtain ⟨m, hm, rfl, rfl, rfl, dG⟩ := hrel
    obtain ⟨a0, a1⟩ := dP q2 xs k t m
    obtain ⟨u0, u1⟩ := dP q2 xs k xk m
    by_cases hlm : m < n
    ·
     have hml : m < xs.length := by rw [hn.out]; exact hlm
     obtain ⟨b2, o2, hA2, hi1⟩ := AA.out.below (af ax.out dG.out) m hml
     cases hA2
     have hm2 := fM hx.out hml
     have sa : eH q xs k t (m + 1) = if m = k then eH q xs k t m else eH q xs k t m * ((t - xs.getD m 0 + q) % q) % q := rfl
     have su : eH q xs k xk (m + 1) = if m = k then eH q xs k xk m else eH q xs k xk m * ((xk - xs.getD m 0 + q) % q) % q := rfl
     obtain ⟨y, hy⟩ : ∃ x, xs.getD m 0 = x := ⟨_, rfl⟩
     rw [hy] at hi1 hm2 sa su
     have y0 := dQ hm2
     have y1 := dR hm2
     obtain ⟨av, tJ⟩ : ∃ x, eH q xs k t m = x := ⟨_, rfl⟩
     obtain ⟨uv, huv⟩ : ∃ x, eH q xs k xk m = x := ⟨_, rfl⟩
     rw [tJ] at a0 a1 sa ⊢
     rw [huv] at u0 u1 su ⊢
     clear hy hm2 hml tJ huv
     by_cases hmk : m = k
     ·
      have dn : ((m : Int) != (k : Int)) = false := by simp [hmk]
      rw [if_pos hmk] at sa su
      have SA := aa sa
      have SU := aa su
      have JK := aa hmk
      clear sa su hmk
      go_wp2
      go_roundw
      case rel => exact ⟨m + 1, by omega, by go_num, by rw [SA.out], by rw [SU.out], dG⟩
      case measure => simp [intOf]; omega
     ·
      have dn : ((m : Int) != (k : Int)) = true := by simp; omega
      rw [if_neg hmk] at sa su
      obtain ⟨s1, hs1⟩ : ∃ x, (t - y + q) % q = x := ⟨_, rfl⟩
      obtain ⟨s2, hs2⟩ : ∃ x, (xk - y + q) % q = x := ⟨_, rfl⟩
      rw [hs1] at sa
      rw [hs2] at su
      obtain ⟨p1, hp1⟩ : ∃ x, av * s1 % q = x := ⟨_, rfl⟩
      obtain ⟨p2, hp2⟩ : ∃ x, uv * s2 % q = x := ⟨_, rfl⟩
      rw [hp1] at sa
      rw [hp2] at su
      have z1 : 0 ≤ s1 := by rw [← hs1]; exact Int.emod_nonneg _ (by omega)
      have z2 : s1 < q := by rw [← hs1]; exact Int.emod_lt_of_pos _ (by omega)
      have z3 : 0 ≤ s2 := by rw [← hs2]; exact Int.emod_nonneg _ (by omega)
      have z4 : s2 < q := by rw [← hs2]; exact Int.emod_lt_of_pos _ (by omega)
      have SA := aa sa
      have SU := aa su
      have H1 := aa hs1
      have H2 := aa hs2
      have H3 := aa hp1
      have H4 := aa hp2
      clear sa su hs1 hs2 hp1 hp2 hmk
      go_wp2_with fail
      refine (iN q t y s1 H1 (by omega) h2 t0 t1 y0 y1 _).mono ?_
      rintro e Ka ⟨rfl, g1⟩
      have G1 := aa g1
      clear g1
      go_wp2_with fail
      refine (dN q av s1 p1 H3 h2 a0 a1 z1 z2 _).mono ?_
      rintro e J_ ⟨rfl, g2⟩
      have G2 := aa g2
      clear g2
      go_wp2_with fail
      refine (iN q xk y s2 H2 (by omega) h2 k0 k1 y0 y1 _).mono ?_
      rintro e J9 ⟨rfl, g3⟩
      have G3 := aa g3
      clear g3
      go_wp2_with fail
      refine (dN q uv s2 p2 H4 h2 u0 u1 z3 z4 _).mono ?_
      rintro e J8 ⟨rfl, g4⟩
      have G4 := aa g4
      clear g4
      have HB2 := aa (af (af (af (af dG.out G1.out) G2.out) G3.out) G4.out)
      go_wp2
      go_roundw
      case rel => exact ⟨m + 1, by omega, by go_num, by rw [SA.out], by rw [SU.out], HB2⟩
      case measure => simp [intOf]; omega
    ·
     obtain rfl : m = n := by omega
     have hlen := hn.out
     obtain ⟨av, tJ⟩ : ∃ x, eH q xs k t m = x := ⟨_, rfl⟩
     obtain ⟨uv, huv⟩ : ∃ x, eH q xs k xk m = x := ⟨_, rfl⟩
     obtain ⟨iv, hiv⟩ : ∃ x, dH uv q = x := ⟨_, rfl⟩
     obtain ⟨wv, hwv⟩ : ∃ x, av * iv % q = x := ⟨_, rfl⟩
     have FX : Hid (jT q xs t k = wv) := aa (by rw [jT, hlen, Ez.out, tJ, huv, hiv, hwv])
     rw [tJ] at a0 a1 ⊢
     rw [huv] at u0 u1 ⊢
     have Gr := aa hiv
     have FW := aa hwv
     have DR := aa (HOr.out.keep dG.out)
     have D5 := aa (af ax.out dG.out)
     clear hlen tJ huv hiv hwv dG ax HOr
     go_wp2_with fail
     refine (o6 q uv iv Gr q2 h2 u0 u1 _).mono ?_
     rintro e y1 ⟨rfl, v0, v1, g1⟩
     have CF := aa (DR.out.keep g1)
     have HB1 := aa (af D5.out g1)
     clear g1 DR D5
     go_wp2_with fail
     refine (dN q av iv wv FW h2 a0 a1 v0 v1 _).mono ?_
     rintro e y2 ⟨rfl, g1⟩
     have Gg := aa (CF.out.keep g1)
     have HB2 := aa (af HB1.out g1)
     clear g1 CF HB1
     have hown : y2.ownsRow W.heap.size 3 1 u9 k ((oq q xs t k).map (Value.int .i64)) := by
      have h3 := Gg.out
      unfold aO at h3
      rwa [aI] at h3
     have hbs := HB2.out.size
     go_wp2_with (at_builtin; refine wpList_append_own _ rfl _ _ 24 rfl W.heap.size 3 i0 (.int .i64 0) 1 8 Tryz.underlying24 hi hz0 hz1 hz2 rfl (by decide) _ _ _ rfl (hown.alloc _) ⟨y2.heap.size, 0, none⟩ 1 1 [.int .i64 wv] rfl rfl (cell_one_new _ _ _) (ints_oneCell .i64 [wv]) (by unfold maxLen; omega) (by omega) (by simp; omega) ?_; intro v' y3 hown1 hgrow1 _)
     have DT : Hid (aO y3 W.heap.size v' (oq q xs t (k + 1))) := aa (by
      rw [oF, FX.out]
      exact aO.app (aI q xs t k).symm hown1)
     have HB3 : Hid (Below W.heap.size W y3) := aa (Gg.out.below HB2.out hbs hgrow1)
     clear hown hown1 hgrow1 Gg HB2
     go_roundw
     case rel => exact ⟨k + 1, by omega, by go_num, DT, HB3⟩
     case measure => simp [intOf]; omega
  ·
   obtain rfl : k = n := by omega
   have hF := af xO.out ax.out
   have hO := (HOr.out).mono I_.out
   have HF := aa hF
   have JE := aa hO
   clear hF hO HOr ax
   go_wp2
   go_ret2
   exact ⟨_, rfl, JE.out, HF.out⟩
theorem vW {a q v : Int} (hq : 2 ≤ q) (h : dH a q = v) : 0 ≤ v ∧ v < q := by
 rw [← h]
 unfold dH
 split
 · rename_i he; exact ⟨(Classical.choose_spec he).1, (Classical.choose_spec he).2.1⟩
 · omega
def BQ (q : Int) (xs : List Int) (t : Int) (n : Nat) (w : World) (e : Ending) (w' : World) : Prop := ∃ v, e = .returned v ∧ aO w' w.heap.size v (oq q xs t n) ∧ Below w.heap.size w w'
theorem iK (q : Int) (A : Option Addr) (xs : List Int) (n c : Nat) (t : Int) (h2 : q < 2305843009213693952) (hp : Hid (di q = true)) (hn : Hid (xs.length = n)) (hbig : n ≤ 100) (hx : Hid (xs.all (aQ q) = true)) (t0 : 0 ≤ t) (t1 : t < q) (w : World) (hs : Hid (Sl w A xs)) :
  Calls Tryz.prog 54 #[.int .i64 q, .slice A n c, .int .i64 t] w (BQ q xs t n w) := by
 obtain ⟨i0, hi, hz0, hz1, hz2⟩ := info_parts fJ
 have q2 := fI hp.out
 go_in
 go_wp2
 go_loopw [7, 8] (fun v i wr => ∃ k : Nat, k ≤ n ∧ i = .int .i64 k ∧ Hid (aO wr w.heap.size v (oq q xs t k)) ∧ Hid (Below w.heap.size w wr)) (fun _ i _ => n - (intOf i).toNat)
 case atStart => exact ⟨0, by omega, rfl, aa (o7 _ _), aa (Below.refl _ _)⟩
 case round =>
  obtain ⟨k, hk, rfl, HOr, ax⟩ := hrel
  by_cases hlt : k < n
  ·
   have hkl : k < xs.length := by rw [hn.out]; exact hlt
   have hm1 := fM hx.out hkl
   obtain ⟨xk, hxk⟩ : ∃ x, xs.getD k 0 = x := ⟨_, rfl⟩
   rw [hxk] at hm1
   have k0 := dQ hm1
   have k1 := dR hm1
   have Ez := aa hxk
   have hQn : ¬ (q = 0) := by omega
   have Am : ((q : Int) == 0) = false := by simp; omega
   clear hxk hm1
   go_wp2
   go_loopw [9, 10, 11] (fun a u j wz => ∃ m : Nat, m ≤ n ∧ j = .int .i64 m ∧ a = .int .i64 (eH q xs k t m) ∧ u = .int .i64 (eH q xs k xk m) ∧ Hid (Below wr.heap.size wr wz)) (fun _ _ j _ => n - (intOf j).toNat)
   case atStart => exact ⟨0, by omega, rfl, rfl, rfl, aa (Below.refl _ _)⟩
   case round =>
    obtain ⟨m, hm, rfl, rfl, rfl, dG⟩ := hrel
    obtain ⟨a0, a1⟩ := dP q2 xs k t m
    obtain ⟨u0, u1⟩ := dP q2 xs k xk m
    by_cases hlm : m < n
    ·
     have hml : m < xs.length := by rw [hn.out]; exact hlm
     have DF := aa (hs.out.below (af ax.out dG.out))
     obtain ⟨b2, o2, hA2, hi1⟩ := DF.out m hml
     obtain ⟨b3, o3, hA3, hi0⟩ := DF.out k hkl
     subst hA2
     cases hA3
     rw [Ez.out] at hi0
     have hm2 := fM hx.out hml
     have sa : eH q xs k t (m + 1) = if m = k then eH q xs k t m else eH q xs k t m * ((t - xs.getD m 0 + q) % q) % q := rfl
     have su : eH q xs k xk (m + 1) = if m = k then eH q xs k xk m else eH q xs k xk m * ((xk - xs.getD m 0 + q) % q) % q := rfl
     obtain ⟨y, hy⟩ : ∃ x, xs.getD m 0 = x := ⟨_, rfl⟩
     rw [hy] at hi1 hm2 sa su
     have y0 := dQ hm2
     have y1 := dR hm2
     obtain ⟨av, tJ⟩ : ∃ x, eH q xs k t m = x := ⟨_, rfl⟩
     obtain ⟨uv, huv⟩ : ∃ x, eH q xs k xk m = x := ⟨_, rfl⟩
     rw [tJ] at a0 a1 sa ⊢
     rw [huv] at u0 u1 su ⊢
     clear hy hm2 hml tJ huv
     by_cases hmk : m = k
     ·
      have dn : ((m : Int) != (k : Int)) = false := by simp [hmk]
      rw [if_pos hmk] at sa su
      have SA := aa sa
      have SU := aa su
      have JK := aa hmk
      clear sa su hmk hi0 hi1
      go_wp2
      go_roundw
      case rel => exact ⟨m + 1, by omega, by go_num, by rw [SA.out], by rw [SU.out], dG⟩
      case measure => simp [intOf]; omega
     ·
      have dn : ((m : Int) != (k : Int)) = true := by simp; omega
      rw [if_neg hmk] at sa su
      obtain ⟨s1, hs1⟩ : ∃ x, (t - y + q) % q = x := ⟨_, rfl⟩
      obtain ⟨s2, hs2⟩ : ∃ x, (xk - y + q) % q = x := ⟨_, rfl⟩
      rw [hs1] at sa
      rw [hs2] at su
      obtain ⟨p1, hp1⟩ : ∃ x, av * s1 % q = x := ⟨_, rfl⟩
      obtain ⟨p2, hp2⟩ : ∃ x, uv * s2 % q = x := ⟨_, rfl⟩
      rw [hp1] at sa
      rw [hp2] at su
      have z1 : 0 ≤ s1 := by rw [← hs1]; exact Int.emod_nonneg _ (by omega)
      have z2 : s1 < q := by rw [← hs1]; exact Int.emod_lt_of_pos _ (by omega)
      have z3 : 0 ≤ s2 := by rw [← hs2]; exact Int.emod_nonneg _ (by omega)
      have z4 : s2 < q := by rw [← hs2]; exact Int.emod_lt_of_pos _ (by omega)
      have r1 : (t + q - y).tmod q = s1 := ek (by omega) (by rw [oM]; exact hs1)
      have r2 : (xk + q - y).tmod q = s2 := ek (by omega) (by rw [oM]; exact hs2)
      have c1 : IntKind.i64.wrap (t + q) = t + q := IntWalk.i64_in _ (by omega)
      have c2 : IntKind.i64.wrap (t + q - y) = t + q - y := IntWalk.i64_in _ (by omega)
      have c3 : IntKind.i64.wrap (xk + q) = xk + q := IntWalk.i64_in _ (by omega)
      have c4 : IntKind.i64.wrap (xk + q - y) = xk + q - y := IntWalk.i64_in _ (by omega)
      have e1 : wrap64 (t + q) = t + q := IntWalk.wrap64_in _ (by omega)
      have e2 : wrap64 (t + q - y) = t + q - y := IntWalk.wrap64_in _ (by omega)
      have e3 : wrap64 (xk + q) = xk + q := IntWalk.wrap64_in _ (by omega)
      have e4 : wrap64 (xk + q - y) = xk + q - y := IntWalk.wrap64_in _ (by omega)
      have f1 : IntKind.i64.wrap s1 = s1 := IntWalk.i64_in _ (by omega)
      have f2 : IntKind.i64.wrap s2 = s2 := IntWalk.i64_in _ (by omega)
      have SA := aa sa
      have SU := aa su
      have H3 := aa hp1
      have H4 := aa hp2
      clear sa su hs1 hs2 hp1 hp2 hmk
      go_wp2_with fail
      refine (aU av s1 q p1 H3 h2 a0 a1 z1 z2 _).mono ?_
      rintro e wy ⟨rfl, rfl⟩
      go_wp2
      go_quiet ((go_at_call 45; exact iC (aU uv s2 q p2 H4 h2 u0 u1 z3 z4 _)))
      have HB2 := aa (aj dG.out nq)
      go_wp2
      go_roundw
      case rel => exact ⟨m + 1, by omega, by go_num, by rw [SA.out], by rw [SU.out], HB2⟩
      case measure => simp [intOf]; omega
    ·
     obtain rfl : m = n := by omega
     have hlen := hn.out
     obtain ⟨av, tJ⟩ : ∃ x, eH q xs k t m = x := ⟨_, rfl⟩
     obtain ⟨uv, huv⟩ : ∃ x, eH q xs k xk m = x := ⟨_, rfl⟩
     obtain ⟨iv, hiv⟩ : ∃ x, dH uv q = x := ⟨_, rfl⟩
     obtain ⟨wv, hwv⟩ : ∃ x, av * iv % q = x := ⟨_, rfl⟩
     have FX : Hid (jT q xs t k = wv) := aa (by rw [jT, hlen, Ez.out, tJ, huv, hiv, hwv])
     rw [tJ] at a0 a1 ⊢
     rw [huv] at u0 u1 ⊢
     have Gr := aa hiv
     have FW := aa hwv
     have DR := aa (HOr.out.keep dG.out)
     have D5 := aa (af ax.out dG.out)
     obtain ⟨v0, v1⟩ := vW (a := uv) q2 hiv
     clear hlen tJ huv hiv hwv dG ax HOr
     go_wp2_with fail
     refine (uX uv q iv _ Gr (aa rfl) q2 h2 u0 u1 _).mono ?_
     rintro e y1 ⟨rfl, n1, hy1⟩
     have g1 : Below wr.heap.size wr y1 := by rw [hy1]; exact aj (Below.refl _ _) n1
     have CF := aa (DR.out.keep g1)
     have HB1 := aa (af D5.out g1)
     clear g1 DR D5 hy1
     go_wp2_with fail
     refine (aU av iv q wv FW h2 a0 a1 v0 v1 _).mono ?_
     rintro e y2 ⟨rfl, hy2⟩
     subst hy2
     have hown : y1.ownsRow w.heap.size 3 1 u7 k ((oq q xs t k).map (Value.int .i64)) := by
      have h3 := CF.out
      unfold aO at h3
      rwa [aI] at h3
     have hbs := HB1.out.size
     go_wp2_with (at_builtin; refine wpList_append_own _ rfl _ _ 24 rfl w.heap.size 3 i0 (.int .i64 0) 1 8 Tryz.underlying24 hi hz0 hz1 hz2 rfl (by decide) _ _ _ rfl (hown.alloc _) ⟨y1.heap.size, 0, none⟩ 1 1 [.int .i64 wv] rfl rfl (cell_one_new _ _ _) (ints_oneCell .i64 [wv]) (by unfold maxLen; omega) (by omega) (by simp; omega) ?_; intro v' y3 hown1 hgrow1 _)
     have DT : Hid (aO y3 w.heap.size v' (oq q xs t (k + 1))) := aa (by
      rw [oF, FX.out]
      exact aO.app (aI q xs t k).symm hown1)
     have HB3 : Hid (Below w.heap.size w y3) := aa (CF.out.below HB1.out hbs hgrow1)
     clear hown hown1 hgrow1 CF HB1
     go_roundw
     case rel => exact ⟨k + 1, by omega, by go_num, DT, HB3⟩
     case measure => simp [intOf]; omega
  ·
   obtain rfl : k = n := by omega
   go_wp2
   go_ret
   exact ⟨_, rfl, HOr.out, ax.out⟩
abbrev fA (need : Int) (Cs : Option Addr) (cn cc : Nat) (Ks : Option Addr) (kn kc : Nat) : Value := .agg #[.int .i64 need, .slice Cs cn cc, .slice Ks kn kc]
abbrev fB (need : Int) (Cs : Option Addr) (cn cc : Nat) (Ks : Option Addr) (kn kc : Nat) : Obj := .cells #[.int .i64 need, .slice Cs cn cc, .slice Ks kn kc] 26
def fG (Q need : Int) (n : Nat) : Bool := decide (1 ≤ n) && (decide (n ≤ 8) && (decide ((n : Int) < Q) && (decide (1 ≤ need) && decide (need ≤ n))))
def ql (Q i : Int) : Nat → Int
 | 0 => 1
 | k + 1 => ql Q i k * i % Q
def qF (P Q : Int) (cs : List Int) (i : Int) : Nat → Int
 | 0 => 1
 | k + 1 => qF P Q cs i k * pw (cs.getD k 0) (ql Q i k % Q) P % P
def qj (P Q : Int) (cs : List Int) : Nat → List Int → Bool
 | _, [] => true
 | i, y :: t => (y == qF P Q cs ((i : Int) + 1) cs.length) && qj P Q cs (i + 1) t
theorem pK {P Q : Int} {cs ks : List Int} {k : Nat} (hk : k < ks.length) : qj P Q cs k (ks.drop k) = ((ks.getD k 0 == qF P Q cs ((k : Int) + 1) cs.length) && qj P Q cs (k + 1) (ks.drop (k + 1))) := by
 rw [List.drop_eq_getElem_cons hk, qj, List.getD_eq_getElem?_getD, List.getElem?_eq_getElem hk]; rfl
theorem kR {Q i : Int} (hQ : 2 ≤ Q) : ∀ k, 0 ≤ ql Q i k ∧ ql Q i k < Q
 | 0 => ⟨by rw [ql]; omega, by rw [ql]; omega⟩
 | k + 1 => ⟨Int.emod_nonneg _ (by omega), Int.emod_lt_of_pos _ (by omega)⟩
theorem j4 {P Q : Int} {cs : List Int} {i : Int} (hP : 2 ≤ P) (hQ : 1 ≤ Q) (h : cs.all (aA P Q) = true) : ∀ k, k ≤ cs.length → aA P Q (qF P Q cs i k) = true
 | 0, _ => yZ hP
 | k + 1, hk => y7 hP hQ (j4 hP hQ h k (by omega)) (vP hP hQ (Int.emod_nonneg _ (by omega)) (fM h (by omega)))
theorem aX {Q need : Int} {n : Nat} (h : fG Q need n = true) : 1 ≤ n ∧ n ≤ 8 ∧ (n : Int) < Q ∧ 1 ≤ need ∧ need ≤ n := by
 unfold fG at h
 simpa using h
theorem gL {w : World} {A : Option Addr} {xs : List Int} (h : Sl w A xs) (hp : 0 < xs.length) : ∃ b o, A = some ⟨b, o, none⟩ := by
 obtain ⟨b, o, h1, _⟩ := h 0 hp
 exact ⟨b, o, h1⟩
def ou (P Q G need : Int) (cs ks : List Int) : Bool := au P Q G && (fG Q need ks.length && (decide ((cs.length : Int) = need) && (!(cs.getD 0 0 == 1) && (cs.all (aA P Q) && qj P Q cs 0 ks))))
theorem eu (P Q G need : Int) (n : Nat) (r : Bool) (hr : Hid (fG Q need n = r)) (w : World) :
  Calls Tryz.prog 47 #[gv P Q G, .int .i64 need, .int .i64 n] w (Rt w (.bool r)) := by
 have HX := aa (bA w P Q G)
 obtain ⟨c0, c1, c2⟩ := HX.out
 have hb := ag w (aG P Q G)
 have hr1 := hr.out
 unfold fG at hr1
 by_cases h0 : 1 ≤ n
 ·
  have d0 : decide ((1 : Int) ≤ (n : Int)) = true := by simp; omega
  by_cases h1 : n ≤ 8
  ·
   have d1 : decide ((n : Int) ≤ 8) = true := by simp; omega
   by_cases h2 : (n : Int) < Q
   ·
    have d2 : decide ((n : Int) < Q) = true := by simp; omega
    by_cases h3 : 1 ≤ need
    ·
     have d3 : decide ((1 : Int) ≤ need) = true := by simp; omega
     by_cases h4 : need ≤ n
     ·
      have d4 : decide (need ≤ (n : Int)) = true := by simp; omega
      obtain rfl : r = true := by rw [← hr1]; simp; omega
      go_in
      go_wp2
      go_ret
      exact ⟨rfl, hb⟩
     ·
      have d4 : decide (need ≤ (n : Int)) = false := by simp; omega
      obtain rfl : r = false := by rw [← hr1]; simp; omega
      go_in
      go_wp2
      go_ret
      exact ⟨rfl, hb⟩
    ·
     have d3 : decide ((1 : Int) ≤ need) = false := by simp; omega
     obtain rfl : r = false := by rw [← hr1]; simp; omega
     go_in
     go_wp2
     go_ret
     exact ⟨rfl, hb⟩
   ·
    have d2 : decide ((n : Int) < Q) = false := by simp; omega
    obtain rfl : r = false := by rw [← hr1]; simp; omega
    go_in
    go_wp2
    go_ret
    exact ⟨rfl, hb⟩
  ·
   have d1 : decide ((n : Int) ≤ 8) = false := by simp; omega
   obtain rfl : r = false := by rw [← hr1]; simp; omega
   go_in
   go_wp2
   go_ret
   exact ⟨rfl, hb⟩
 ·
  have d0 : decide ((1 : Int) ≤ (n : Int)) = false := by simp; omega
  obtain rfl : r = false := by rw [← hr1]; simp; omega
  go_in
  go_wp2
  go_ret
  exact ⟨rfl, hb⟩
theorem rO (P Q G : Int) (bC oC : Nat) (cs : List Int) (cn cc : Nat) (hbig : cn < 1000000) (idx K : Int) (bf : Hid (au P Q G = true)) (hn : Hid (cs.length = cn)) (hm : Hid (cs.all (aA P Q) = true)) (i0 : 0 ≤ idx) (i1 : idx < Q) (hK : Hid (qF P Q cs idx cs.length = K)) (w : World) (hv : Hid (Vars w)) (hC : Hid (Sl w (some ⟨bC, oC, none⟩) cs)) :
  Calls Tryz.prog 49 #[gv P Q G, .slice (some ⟨bC, oC, none⟩) cn cc, .int .i64 idx] w (Rt w (.int .i64 K)) := by
 obtain ⟨hp2, hp, hq3, Ak⟩ := aB bf.out
 have hQ : Q < 9223372036854775808 := by omega
 have hq : Q < 2305843009213693952 := by omega
 obtain ⟨w0, HW, az, kC⟩ := st1 (aG P Q G) lW w
 have kV := mkV az hv
 have dh := mkS az hC
 have ai := bI w0
 clear hv hC
 go_in
 go_wp2_with fail
 rw [HW.out]
 have zc := kC.out _ ai
 go_wp2
 clear zc
 go_loopw [7, 8, 15] (fun y e i wr => ∃ k : Nat, k ≤ cn ∧ i = .int .i64 k ∧ y = .int .i64 (qF P Q cs idx k) ∧ e = .int .i64 (ql Q idx k) ∧ Hid (Below w0.heap.size w0 wr)) (fun _ _ i _ => cn - (intOf i).toNat)
 case atStart => exact ⟨0, by omega, rfl, rfl, rfl, ai⟩
 case round =>
  obtain ⟨k, hk, rfl, rfl, rfl, ax⟩ := hrel
  have hkm := j4 (i := idx) hp2 (by omega) hm.out k (by rw [hn.out]; exact hk)
  obtain ⟨e0, e1⟩ := kR (i := idx) (show 2 ≤ Q by omega) k
  by_cases hlt : k < cn
  ·
   have hkl : k < cs.length := by rw [hn.out]; exact hlt
   obtain ⟨b, o, hA, hi⟩ := (dh.out _ ax).out k hkl
   cases hA
   have hcm := fM hm.out hkl
   have sk : qF P Q cs idx (k + 1) = qF P Q cs idx k * pw (cs.getD k 0) (ql Q idx k % Q) P % P := rfl
   have se : ql Q idx (k + 1) = ql Q idx k * idx % Q := rfl
   obtain ⟨x, hx⟩ : ∃ x, cs.getD k 0 = x := ⟨_, rfl⟩
   obtain ⟨a, ha⟩ : ∃ x, qF P Q cs idx k = x := ⟨_, rfl⟩
   obtain ⟨e, he⟩ : ∃ x, ql Q idx k = x := ⟨_, rfl⟩
   obtain ⟨v, qG⟩ : ∃ x', pw x (e % Q) P = x' := ⟨_, rfl⟩
   obtain ⟨u, hu⟩ : ∃ x', a * v % P = x' := ⟨_, rfl⟩
   obtain ⟨f, hf⟩ : ∃ x', e * idx % Q = x' := ⟨_, rfl⟩
   rw [hx] at hi hcm sk
   rw [ha] at hkm sk ⊢
   rw [he] at e0 e1 sk se ⊢
   rw [qG, hu] at sk
   rw [hf] at se
   have ck1 : Hid (jQ P Q G [x] = 0) := aa (nT bf.out (by simp [hcm]))
   have mv : aA P Q v = true := by rw [← qG]; exact vP hp2 (by omega) (Int.emod_nonneg _ (by omega)) hcm
   have ck2 : Hid (jQ P Q G [a, v] = 0) := aa (nT bf.out (by simp [hkm, mv]))
   have Dz := aa qG
   have HU := aa hu
   have HF := aa hf
   have SK := aa sk
   have SE := aa se
   clear hx ha he qG hu hf sk se hcm hkm mv hkl
   have zc := kC.out _ ax
   go_wp2_with fail
   clear zc
   refine bH kC ax (rR P Q G x e v ck1 Dz (by omega) (by omega) _ (kV.out _ ax)) fun w1 aD zc => ?_
   go_wp2_with fail
   clear zc
   refine bH kC aD (zo P Q G a v u ck2 HU hQ _ (kV.out _ aD)) fun w2 ak zc => ?_
   go_wp2_with fail
   refine (ni e idx Q f HF hq e0 e1 i0 i1 _).mono ?_
   rintro e9 w9 ⟨rfl, n9, rfl⟩
   have Cj := aa (aj ak.out n9)
   go_wp2
   go_roundw
   case rel => exact ⟨k + 1, by omega, by go_num, by rw [SK.out], by rw [SE.out], Cj⟩
   case measure => simp [intOf]; omega
  ·
   obtain rfl : k = cn := by omega
   have hkv := hK.out
   rw [hn.out] at hkv
   rw [hkv]
   clear hkv hkm e0 e1
   go_wp2
   go_ret
   exact ⟨rfl, gW az ax⟩
theorem CW (P Q G need : Int) (Cs : Option Addr) (cn cc : Nat) (Ks : Option Addr) (kn kc : Nat) (bf : Hid (au P Q G = false)) (hQ : Q < 9223372036854775808) (w : World) (hv : Hid (Vars w)) :
  Calls Tryz.prog 13 #[gv P Q G, fA need Cs cn cc Ks kn kc] w (Rt w (.bool false)) := by
 obtain ⟨w0, HW, az, kC⟩ := st2 (aG P Q G) gy (fB need Cs cn cc Ks kn kc) lW w
 have kV := mkV az hv
 have ai := bI w0
 clear hv
 go_in
 go_wp2_with fail
 rw [HW.out]
 have zc := kC.out _ ai
 go_wp2_with fail
 clear zc
 refine bH kC ai (aZ P Q G false bf hQ _ (kV.out _ ai)) fun w1 aD zc => ?_
 go_wp2
 go_ret
 exact ⟨rfl, gW az aD⟩
theorem CV (P Q G need : Int) (Cs : Option Addr) (cn cc : Nat) (Ks : Option Addr) (kn kc : Nat) (bf : Hid (au P Q G = true)) (HN : Hid (fG Q need kn = false)) (hQ : Q < 9223372036854775808) (w : World) (hv : Hid (Vars w)) :
  Calls Tryz.prog 13 #[gv P Q G, fA need Cs cn cc Ks kn kc] w (Rt w (.bool false)) := by
 obtain ⟨w0, HW, az, kC⟩ := st2 (aG P Q G) gy (fB need Cs cn cc Ks kn kc) lW w
 have kV := mkV az hv
 have ai := bI w0
 clear hv
 go_in
 go_wp2_with fail
 rw [HW.out]
 have zc := kC.out _ ai
 go_wp2_with fail
 clear zc
 refine bH kC ai (aZ P Q G true bf hQ _ (kV.out _ ai)) fun w1 aD zc => ?_
 go_wp2_with fail
 clear zc
 refine bH kC aD (eu P Q G need kn false HN _) fun w2 ak zc => ?_
 go_wp2
 go_ret
 exact ⟨rfl, gW az ak⟩
theorem CU (P Q G need : Int) (Cs : Option Addr) (cn cc : Nat) (Ks : Option Addr) (kn kc : Nat) (bf : Hid (au P Q G = true)) (HN : Hid (fG Q need kn = true)) (hne : ¬ ((cn : Int) = need)) (hQ : Q < 9223372036854775808) (w : World) (hv : Hid (Vars w)) :
  Calls Tryz.prog 13 #[gv P Q G, fA need Cs cn cc Ks kn kc] w (Rt w (.bool false)) := by
 have dn : ((cn : Int) != need) = true := by simpa using hne
 obtain ⟨w0, HW, az, kC⟩ := st2 (aG P Q G) gy (fB need Cs cn cc Ks kn kc) lW w
 have kV := mkV az hv
 have ai := bI w0
 clear hv
 go_in
 go_wp2_with fail
 rw [HW.out]
 have zc := kC.out _ ai
 go_wp2_with fail
 clear zc
 refine bH kC ai (aZ P Q G true bf hQ _ (kV.out _ ai)) fun w1 aD zc => ?_
 go_wp2_with fail
 clear zc
 refine bH kC aD (eu P Q G need kn true HN _) fun w2 ak zc => ?_
 go_wp2
 go_ret
 exact ⟨rfl, gW az ak⟩
theorem CS (P Q G need : Int) (bC oC : Nat) (cs : List Int) (cn cc : Nat) (bK oK : Nat) (ks : List Int) (kn kc : Nat) (hcn : Hid (cs.length = cn)) (hkn : Hid (ks.length = kn)) (bf : Hid (au P Q G = true)) (HN : Hid (fG Q need kn = true)) (hne : Hid ((cn : Int) = need)) (hpos : 0 < cn) (xg : Int) (ug : Hid (cs.getD 0 0 = xg)) (h1 : (xg == 1) = true) (hQ : Q < 9223372036854775808) (w : World) (hv : Hid (Vars w)) (hC : Hid (Sl w (some ⟨bC, oC, none⟩) cs)) (hK : Hid (Sl w (some ⟨bK, oK, none⟩) ks)) :
  Calls Tryz.prog 13 #[gv P Q G, fA need (some ⟨bC, oC, none⟩) cn cc (some ⟨bK, oK, none⟩) kn kc] w (Rt w (.bool false)) := by
 have dn : ((cn : Int) != need) = false := by simpa using hne.out
 obtain ⟨w0, HW, az, kC⟩ := st2 (aG P Q G) gy (fB need (some ⟨bC, oC, none⟩) cn cc (some ⟨bK, oK, none⟩) kn kc) lW w
 have kV := mkV az hv
 have dh := mkS az hC
 have dA := mkS az hK
 have ai := bI w0
 clear hv hC hK
 go_in
 go_wp2_with fail
 rw [HW.out]
 have zc := kC.out _ ai
 go_wp2_with fail
 clear zc
 refine bH kC ai (aZ P Q G true bf hQ _ (kV.out _ ai)) fun w1 aD zc => ?_
 obtain ⟨b9, o9, qI, hi9⟩ := (dh.out _ aD).out 0 (by rw [hcn.out]; exact hpos)
 cases qI
 rw [ug.out, Nat.add_zero] at hi9
 have Gs := aa hi9
 clear hi9
 go_wp2_with fail
 clear zc
 refine bH kC aD (eu P Q G need kn true HN _) fun w2 ak zc => ?_
 obtain ⟨b9, o9, qI, hi9⟩ := (dh.out _ ak).out 0 (by rw [hcn.out]; exact hpos)
 cases qI
 rw [ug.out, Nat.add_zero] at hi9
 clear Gs
 go_wp2
 go_ret
 exact ⟨rfl, gW az ak⟩
theorem CR (P Q G need : Int) (bC oC : Nat) (cs : List Int) (cn cc : Nat) (bK oK : Nat) (ks : List Int) (kn kc : Nat) (hcn : Hid (cs.length = cn)) (hkn : Hid (ks.length = kn)) (bf : Hid (au P Q G = true)) (HN : Hid (fG Q need kn = true)) (hne : Hid ((cn : Int) = need)) (hpos : 0 < cn) (xg : Int) (ug : Hid (cs.getD 0 0 = xg)) (h1 : (xg == 1) = false) (r : Bool) (hr : Hid ((cs.all (aA P Q) && qj P Q cs 0 ks) = r)) (hQ : Q < 9223372036854775808) (w : World) (hv : Hid (Vars w)) (hC : Hid (Sl w (some ⟨bC, oC, none⟩) cs)) (hK : Hid (Sl w (some ⟨bK, oK, none⟩) ks)) :
  Calls Tryz.prog 13 #[gv P Q G, fA need (some ⟨bC, oC, none⟩) cn cc (some ⟨bK, oK, none⟩) kn kc] w (Rt w (.bool r)) := by
 have dn : ((cn : Int) != need) = false := by simpa using hne.out
 obtain ⟨n1, n2, n3, n4, n5⟩ := aX HN.out
 have l5 : cn < 1000000 := by have := hne.out; omega
 obtain ⟨w0, HW, az, kC⟩ := st2 (aG P Q G) gy (fB need (some ⟨bC, oC, none⟩) cn cc (some ⟨bK, oK, none⟩) kn kc) lW w
 have kV := mkV az hv
 have dh := mkS az hC
 have dA := mkS az hK
 have ai := bI w0
 clear hv hC hK
 go_in
 go_wp2_with fail
 rw [HW.out]
 have zc := kC.out _ ai
 go_wp2_with fail
 clear zc
 refine bH kC ai (aZ P Q G true bf hQ _ (kV.out _ ai)) fun w1 aD zc => ?_
 obtain ⟨b9, o9, qI, hi9⟩ := (dh.out _ aD).out 0 (by rw [hcn.out]; exact hpos)
 cases qI
 rw [ug.out, Nat.add_zero] at hi9
 have Gs := aa hi9
 clear hi9
 go_wp2_with fail
 clear zc
 refine bH kC aD (eu P Q G need kn true HN _) fun w2 ak zc => ?_
 obtain ⟨b9, o9, qI, hi9⟩ := (dh.out _ ak).out 0 (by rw [hcn.out]; exact hpos)
 cases qI
 rw [ug.out, Nat.add_zero] at hi9
 clear Gs
 go_wp2
 clear zc
 clear hi9
 go_loopw [40] (fun i wr => ∃ k : Nat, k ≤ cn ∧ i = .int .i64 k ∧ Hid (cs.all (aA P Q) = (cs.drop k).all (aA P Q)) ∧ Hid (Below w0.heap.size w0 wr)) (fun i _ => cn - (intOf i).toNat)
 case atStart => exact ⟨0, by omega, rfl, aa rfl, ak⟩
 case round =>
  obtain ⟨k, hk, rfl, HR, ax⟩ := hrel
  by_cases hlt : k < cn
  ·
   have hkl : k < cs.length := by rw [hcn.out]; exact hlt
   obtain ⟨b, o, hA, hi⟩ := (dh.out _ ax).out k hkl
   cases hA
   cases pQ : aA P Q (cs.getD k 0) with
   | true =>
    have HS : Hid (cs.all (aA P Q) = (cs.drop (k + 1)).all (aA P Q)) := aa (HR.out.trans (eP hkl pQ))
    obtain ⟨x, hx⟩ : ∃ x, cs.getD k 0 = x := ⟨_, rfl⟩
    rw [hx] at hi pQ
    have HM := aa pQ
    clear hx pQ HR hkl
    have zc := kC.out _ ax
    go_wp2_with fail
    clear zc
    refine bH kC ax (iW P Q G x true (aa (by rw [wU, bf.out, HM.out]; rfl)) hQ _ (kV.out _ ax)) fun w3 aH zc => ?_
    go_wp2
    go_roundw
    case rel => exact ⟨k + 1, by omega, by go_num, HS, aH⟩
    case measure => simp [intOf]; omega
   | false =>
    obtain rfl : r = false := by rw [← hr.out, HR.out, fO hkl pQ]; rfl
    obtain ⟨x, hx⟩ : ∃ x, cs.getD k 0 = x := ⟨_, rfl⟩
    rw [hx] at hi pQ
    have HM := aa pQ
    clear hx pQ HR hkl
    have zc := kC.out _ ax
    go_wp2_with fail
    clear zc
    refine bH kC ax (iW P Q G x false (aa (by rw [wU, bf.out, HM.out]; rfl)) hQ _ (kV.out _ ax)) fun w3 aH zc => ?_
    go_wp2
    go_ret
    exact ⟨rfl, gW az aH⟩
  ·
   obtain rfl : k = cn := by omega
   have bJ : Hid (cs.all (aA P Q) = true) := aa (by rw [HR.out, ← hcn.out]; simp)
   have HR2 : Hid (qj P Q cs 0 ks = r) := aa (by rw [← hr.out, bJ.out]; rfl)
   clear HR
   have zc := kC.out _ ax
   go_wp2
   clear zc
   go_loopw [52] (fun i wr => ∃ j : Nat, j ≤ kn ∧ i = .int .i64 j ∧ Hid (qj P Q cs j (ks.drop j) = r) ∧ Hid (Below w0.heap.size w0 wr)) (fun i _ => kn - (intOf i).toNat)
   case atStart => exact ⟨0, by omega, rfl, HR2, ax⟩
   case round =>
    obtain ⟨j, hj, rfl, xD, qm⟩ := hrel
    by_cases dZ : j < kn
    ·
     have hjl : j < ks.length := by rw [hkn.out]; exact dZ
     obtain ⟨b, o, hA, hi⟩ := (dA.out _ qm).out j hjl
     cases hA
     have hst := pK (P := P) (Q := Q) (cs := cs) hjl
     obtain ⟨y, hy⟩ : ∃ x, ks.getD j 0 = x := ⟨_, rfl⟩
     obtain ⟨K, xY⟩ : ∃ x, qF P Q cs ((j : Int) + 1) cs.length = x := ⟨_, rfl⟩
     rw [hy] at hi hst
     rw [xY] at hst
     have EG := aa xY
     have dw : IntKind.i64.wrap ((j : Int) + 1) = (j : Int) + 1 := IntWalk.i64_in _ (by omega)
     have KO : wrap64 ((j : Int) + 1) = (j : Int) + 1 := IntWalk.wrap64_in _ (by omega)
     clear hy xY
     cases hyk : (y == K) with
     | true =>
      have Gd : Hid (qj P Q cs (j + 1) (ks.drop (j + 1)) = r) := aa (by rw [← xD.out, hst, hyk]; rfl)
      have FP : (y != K) = false := by simpa using hyk
      clear hst xD hjl hyk
      have zc := kC.out _ qm
      go_wp2_with fail
      clear zc
      refine bH kC qm (rO P Q G bC oC cs k cc l5 ((j : Int) + 1) K bf hcn bJ (by omega) (by omega) EG _ (kV.out _ qm) (dh.out _ qm)) fun w3 aH zc => ?_
      go_wp2
      go_roundw
      case rel => exact ⟨j + 1, by omega, by go_num, Gd, aH⟩
      case measure => simp [intOf]; omega
     | false =>
      obtain rfl : r = false := by rw [← xD.out, hst, hyk]; rfl
      have FP : (y != K) = true := by simpa using hyk
      clear hst xD hjl hyk
      have zc := kC.out _ qm
      go_wp2_with fail
      clear zc
      refine bH kC qm (rO P Q G bC oC cs k cc l5 ((j : Int) + 1) K bf hcn bJ (by omega) (by omega) EG _ (kV.out _ qm) (dh.out _ qm)) fun w3 aH zc => ?_
      go_wp2
      go_ret
      exact ⟨rfl, gW az aH⟩
    ·
     obtain rfl : j = kn := by omega
     obtain rfl : r = true := by rw [← xD.out, ← hkn.out, List.drop_length]; rfl
     clear xD
     have zc := kC.out _ qm
     go_wp2
     go_ret
     exact ⟨rfl, gW az qm⟩
theorem dJ (P Q G need : Int) (Cs : Option Addr) (cs : List Int) (cn cc : Nat) (Ks : Option Addr) (ks : List Int) (kn kc : Nat) (hcn : Hid (cs.length = cn)) (hkn : Hid (ks.length = kn)) (r : Bool) (hr : Hid (ou P Q G need cs ks = r)) (hQ : Q < 9223372036854775808) (w : World) (hv : Hid (Vars w)) (hC : Hid (Sl w Cs cs)) (hK : Hid (Sl w Ks ks)) :
  Calls Tryz.prog 13 #[gv P Q G, fA need Cs cn cc Ks kn kc] w (Rt w (.bool r)) := by
 have hr1 := hr.out
 unfold ou at hr1
 rw [hkn.out, hcn.out] at hr1
 cases h1 : au P Q G with
 | false =>
  obtain rfl : r = false := by rw [← hr1, h1]; rfl
  exact CW P Q G need Cs cn cc Ks kn kc (aa h1) hQ w hv
 | true =>
  cases h2 : fG Q need kn with
  | false =>
   obtain rfl : r = false := by rw [← hr1, h1, h2]; rfl
   exact CV P Q G need Cs cn cc Ks kn kc (aa h1) (aa h2) hQ w hv
  | true =>
   by_cases h3 : (cn : Int) = need
   ·
    obtain ⟨n1, n2, n3, n4, n5⟩ := aX h2
    have hpos : 0 < cn := by omega
    obtain ⟨bC, oC, rfl⟩ := gL hC.out (by rw [hcn.out]; exact hpos)
    obtain ⟨bK, oK, rfl⟩ := gL hK.out (by rw [hkn.out]; exact n1)
    cases h4 : (cs.getD 0 0 == 1) with
    | true =>
     obtain rfl : r = false := by rw [← hr1, h1, h2, decide_eq_true h3, h4]; rfl
     exact CS P Q G need bC oC cs cn cc bK oK ks kn kc hcn hkn (aa h1) (aa h2) (aa h3) hpos _ (aa rfl) h4 hQ w hv hC hK
    | false => exact CR P Q G need bC oC cs cn cc bK oK ks kn kc hcn hkn (aa h1) (aa h2) (aa h3) hpos _ (aa rfl) h4 r (aa (by rw [← hr1, h1, h2, decide_eq_true h3, h4]; rfl)) hQ w hv hC hK
   ·
    obtain rfl : r = false := by rw [← hr1, h1, h2, decide_eq_false h3]; rfl
    exact CU P Q G need Cs cn cc Ks kn kc (aa h1) (aa h2) h3 hQ w hv
theorem eZ (P Q G need : Int) (n : Nat) (r : Bool) (hr : Hid (fG Q need n = r)) (w : World) :
  Calls Tryz.prog 41 #[gv P Q G, .int .i64 need, .int .i64 n] w (Rt w (.bool r)) := by
 have HX := aa (bA w P Q G)
 obtain ⟨c0, c1, c2⟩ := HX.out
 have hb := ag w (aG P Q G)
 have hr1 := hr.out
 unfold fG at hr1
 by_cases h0 : 1 ≤ n
 ·
  have d0 : decide ((1 : Int) ≤ (n : Int)) = true := by simp; omega
  by_cases h1 : n ≤ 8
  ·
   have d1 : decide ((n : Int) ≤ 8) = true := by simp; omega
   by_cases h2 : (n : Int) < Q
   ·
    have d2 : decide ((n : Int) < Q) = true := by simp; omega
    by_cases h3 : 1 ≤ need
    ·
     have d3 : decide ((1 : Int) ≤ need) = true := by simp; omega
     by_cases h4 : need ≤ n
     ·
      have d4 : decide (need ≤ (n : Int)) = true := by simp; omega
      obtain rfl : r = true := by rw [← hr1]; simp; omega
      go_in
      go_wp2
      go_ret
      exact ⟨rfl, hb⟩
     ·
      have d4 : decide (need ≤ (n : Int)) = false := by simp; omega
      obtain rfl : r = false := by rw [← hr1]; simp; omega
      go_in
      go_wp2
      go_ret
      exact ⟨rfl, hb⟩
    ·
     have d3 : decide ((1 : Int) ≤ need) = false := by simp; omega
     obtain rfl : r = false := by rw [← hr1]; simp; omega
     go_in
     go_wp2
     go_ret
     exact ⟨rfl, hb⟩
   ·
    have d2 : decide ((n : Int) < Q) = false := by simp; omega
    obtain rfl : r = false := by rw [← hr1]; simp; omega
    go_in
    go_wp2
    go_ret
    exact ⟨rfl, hb⟩
  ·
   have d1 : decide ((n : Int) ≤ 8) = false := by simp; omega
   obtain rfl : r = false := by rw [← hr1]; simp; omega
   go_in
   go_wp2
   go_ret
   exact ⟨rfl, hb⟩
 ·
  have d0 : decide ((1 : Int) ≤ (n : Int)) = false := by simp; omega
  obtain rfl : r = false := by rw [← hr1]; simp; omega
  go_in
  go_wp2
  go_ret
  exact ⟨rfl, hb⟩
theorem rM {P Q : Int} {cs : List Int} (hP : 2 ≤ P) (hQ : 1 ≤ Q) (h : cs.all (aA P Q) = true) : ∀ (ks : List Int) (i : Nat), qj P Q cs i ks = true → ks.all (aA P Q) = true
 | [], _, _ => rfl
 | y :: t, i, hk => by
  rw [qj] at hk
  simp only [Bool.and_eq_true, beq_iff_eq] at hk
  rw [List.all_cons, rM hP hQ h t (i + 1) hk.2, hk.1, j4 hP hQ h _ (Nat.le_refl _)]; rfl
theorem aR (P Q G : Int) (A : Option Addr) (xs : List Int) (n c : Nat) (r : Bool) (hr : Hid (xs.all (aA P Q) = r)) (hn : Hid (xs.length = n)) (hbig : n < 1000000) (h1 : P < 2305843009213693952) (xX : 0 ≤ Q) (hQ : Q < 9223372036854775808) (w : World) (Et : Hid (Sl w A xs)) :
  Calls Tryz.prog 42 #[gv P Q G, .slice A n c] w (Rt w (.bool r)) := by
 obtain ⟨w0, HW, az, kC⟩ := st1 (aG P Q G) lW w
 have dh := mkS az Et
 have ai := bI w0
 clear Et
 go_in
 go_wp2_with fail
 rw [HW.out]
 have zc := kC.out _ ai
 go_wp2
 clear zc
 go_loopw [5] (fun i wr => ∃ k : Nat, k ≤ n ∧ i = .int .i64 k ∧ Hid (xs.all (aA P Q) = (xs.drop k).all (aA P Q)) ∧ Hid (Below w0.heap.size w0 wr)) (fun i _ => n - (intOf i).toNat)
 case atStart => exact ⟨0, by omega, rfl, aa rfl, ai⟩
 case round =>
  obtain ⟨k, hk, rfl, HR, ax⟩ := hrel
  by_cases hlt : k < n
  ·
   have hkl : k < xs.length := by rw [hn.out]; exact hlt
   obtain ⟨b, o, hA, hi⟩ := (dh.out _ ax).out k hkl
   subst hA
   cases pQ : aA P Q (xs.getD k 0) with
   | true =>
    have HS : Hid (xs.all (aA P Q) = (xs.drop (k + 1)).all (aA P Q)) := aa (HR.out.trans (eP hkl pQ))
    obtain ⟨x, hx⟩ : ∃ x, xs.getD k 0 = x := ⟨_, rfl⟩
    rw [hx] at hi pQ
    have kI := EY (p := ⟨b, o + k, none⟩) (v := .int .i64 x) hi
    have HM := aa pQ
    clear hx pQ HR hkl hi
    have jc := bI wr
    have zc := kC.out _ ax
    have qh := kI.out _ jc
    go_wp2_with fail
    clear zc qh
    have hS1 := aa (show ∀ u1 u2 : World, (Hid (Below w0.heap.size w0 u1) ∧ Hid (Below wr.heap.size wr u1)) → Below u1.heap.size u1 u2 → ((u2.cell? ⟨w.heap.size, 0, none⟩ = some (.int .i64 P) ∧ u2.cell? ⟨w.heap.size, 1, none⟩ = some (.int .i64 Q) ∧ u2.cell? ⟨w.heap.size, 2, none⟩ = some (.int .i64 G)) ∧ (u2.cell? ⟨b, o + k, none⟩ = some (.int .i64 x)) ∧ Hid (Below w0.heap.size w0 u2) ∧ Hid (Below wr.heap.size wr u2)) from fun u1 u2 h1 h2 => by
     obtain ⟨q0, q1⟩ := h1
     have r0 := lV q0 h2
     have r1 := lV q1 h2
     exact ⟨kC.out _ r0, kI.out _ r1, r0, r1⟩)
    have HR1 := aa (show Hid (Below w0.heap.size w0 wr) ∧ Hid (Below wr.heap.size wr wr) from ⟨ax, jc⟩)
    go_region_held3 (fun w' => (w'.cell? ⟨w.heap.size, 0, none⟩ = some (.int .i64 P) ∧ w'.cell? ⟨w.heap.size, 1, none⟩ = some (.int .i64 Q) ∧ w'.cell? ⟨w.heap.size, 2, none⟩ = some (.int .i64 G)) ∧ (w'.cell? ⟨b, o + k, none⟩ = some (.int .i64 x)) ∧ Hid (Below w0.heap.size w0 w') ∧ Hid (Below wr.heap.size wr w'))
     (first | exact hS1.out _ _ HR1.out ((Below.refl _ _).drew) | (exact hS1.out _ _ (by go_split_ands; exact ⟨(by assumption), (by assumption)⟩) dL) | go_keep)
     ((first
      | (go_at_call 103; (with_reducible refine (jE P Q G x true HM h1 xX hQ _).mono ?_); rintro e wA ⟨rfl, dL⟩)))
    rename_i hHeld
    obtain ⟨-, -, qf, xH⟩ := hHeld
    clear hS1 HR1
    have zc := kC.out _ qf
    have qh := kI.out _ xH
    go_wp2
    go_roundw
    case rel => exact ⟨k + 1, by omega, by go_num, HS, qf⟩
    case measure => simp only [intOf]; omega
   | false =>
    obtain rfl : r = false := by rw [← hr.out, HR.out]; exact fO hkl pQ
    obtain ⟨x, hx⟩ : ∃ x, xs.getD k 0 = x := ⟨_, rfl⟩
    rw [hx] at hi pQ
    have kI := EY (p := ⟨b, o + k, none⟩) (v := .int .i64 x) hi
    have HM := aa pQ
    clear hx pQ HR hkl hi
    have jc := bI wr
    have zc := kC.out _ ax
    have qh := kI.out _ jc
    go_wp2_with fail
    clear zc qh
    have hS1 := aa (show ∀ u1 u2 : World, (Hid (Below w0.heap.size w0 u1) ∧ Hid (Below wr.heap.size wr u1)) → Below u1.heap.size u1 u2 → ((u2.cell? ⟨w.heap.size, 0, none⟩ = some (.int .i64 P) ∧ u2.cell? ⟨w.heap.size, 1, none⟩ = some (.int .i64 Q) ∧ u2.cell? ⟨w.heap.size, 2, none⟩ = some (.int .i64 G)) ∧ (u2.cell? ⟨b, o + k, none⟩ = some (.int .i64 x)) ∧ Hid (Below w0.heap.size w0 u2) ∧ Hid (Below wr.heap.size wr u2)) from fun u1 u2 h1 h2 => by
     obtain ⟨q0, q1⟩ := h1
     have r0 := lV q0 h2
     have r1 := lV q1 h2
     exact ⟨kC.out _ r0, kI.out _ r1, r0, r1⟩)
    have HR1 := aa (show Hid (Below w0.heap.size w0 wr) ∧ Hid (Below wr.heap.size wr wr) from ⟨ax, jc⟩)
    go_region_held3 (fun w' => (w'.cell? ⟨w.heap.size, 0, none⟩ = some (.int .i64 P) ∧ w'.cell? ⟨w.heap.size, 1, none⟩ = some (.int .i64 Q) ∧ w'.cell? ⟨w.heap.size, 2, none⟩ = some (.int .i64 G)) ∧ (w'.cell? ⟨b, o + k, none⟩ = some (.int .i64 x)) ∧ Hid (Below w0.heap.size w0 w') ∧ Hid (Below wr.heap.size wr w'))
     (first | exact hS1.out _ _ HR1.out ((Below.refl _ _).drew) | (exact hS1.out _ _ (by go_split_ands; exact ⟨(by assumption), (by assumption)⟩) dL) | go_keep)
     ((first
      | (go_at_call 103; (with_reducible refine (jE P Q G x false HM h1 xX hQ _).mono ?_); rintro e wA ⟨rfl, dL⟩)))
    rename_i hHeld
    obtain ⟨-, -, qf, xH⟩ := hHeld
    clear hS1 HR1
    have zc := kC.out _ qf
    have qh := kI.out _ xH
    go_wp2
    go_ret
    exact ⟨rfl, gW az qf⟩
  ·
   obtain rfl : k = n := by omega
   obtain rfl : r = true := by rw [← hr.out, HR.out, ← hn.out]; simp
   clear HR
   have zc := kC.out _ ax
   go_wp2
   go_ret
   exact ⟨rfl, gW az ax⟩
theorem Bh (P Q G need : Int) (Cs : Option Addr) (cn cc : Nat) (Ks : Option Addr) (kn kc : Nat) (bf : Hid (au P Q G = false)) (hQ : Q < 9223372036854775808) (w : World) :
  Calls Tryz.prog 12 #[gv P Q G, fA need Cs cn cc Ks kn kc] w (Rt w (.bool false)) := by
 obtain ⟨w0, HW, az, kC⟩ := st2 (aG P Q G) gy (fB need Cs cn cc Ks kn kc) lW w
 have ai := bI w0
 go_in
 go_wp2_with fail
 rw [HW.out]
 have zc := kC.out _ ai
 go_wp2_with fail
 clear zc
 refine bH kC ai (bz P Q G false bf hQ _) fun w1 aD zc => ?_
 go_wp2
 go_ret
 exact ⟨rfl, gW az aD⟩
theorem Bg (P Q G need : Int) (Cs : Option Addr) (cn cc : Nat) (Ks : Option Addr) (kn kc : Nat) (bf : Hid (au P Q G = true)) (HN : Hid (fG Q need kn = false)) (hQ : Q < 9223372036854775808) (w : World) :
  Calls Tryz.prog 12 #[gv P Q G, fA need Cs cn cc Ks kn kc] w (Rt w (.bool false)) := by
 obtain ⟨w0, HW, az, kC⟩ := st2 (aG P Q G) gy (fB need Cs cn cc Ks kn kc) lW w
 have ai := bI w0
 go_in
 go_wp2_with fail
 rw [HW.out]
 have zc := kC.out _ ai
 go_wp2_with fail
 clear zc
 refine bH kC ai (bz P Q G true bf hQ _) fun w1 aD zc => ?_
 go_wp2_with fail
 clear zc
 refine bH kC aD (eZ P Q G need kn false HN _) fun w2 ak zc => ?_
 go_wp2
 go_ret
 exact ⟨rfl, gW az ak⟩
theorem Bf (P Q G need : Int) (Cs : Option Addr) (cn cc : Nat) (Ks : Option Addr) (kn kc : Nat) (bf : Hid (au P Q G = true)) (HN : Hid (fG Q need kn = true)) (hne : ¬ ((cn : Int) = need)) (hQ : Q < 9223372036854775808) (w : World) :
  Calls Tryz.prog 12 #[gv P Q G, fA need Cs cn cc Ks kn kc] w (Rt w (.bool false)) := by
 have dn : ((cn : Int) != need) = true := by simpa using hne
 obtain ⟨w0, HW, az, kC⟩ := st2 (aG P Q G) gy (fB need Cs cn cc Ks kn kc) lW w
 have ai := bI w0
 go_in
 go_wp2_with fail
 rw [HW.out]
 have zc := kC.out _ ai
 go_wp2_with fail
 clear zc
 refine bH kC ai (bz P Q G true bf hQ _) fun w1 aD zc => ?_
 go_wp2_with fail
 clear zc
 refine bH kC aD (eZ P Q G need kn true HN _) fun w2 ak zc => ?_
 go_wp2
 go_ret
 exact ⟨rfl, gW az ak⟩
theorem Be (P Q G need : Int) (bC oC : Nat) (cs : List Int) (cn cc : Nat) (bK oK : Nat) (ks : List Int) (kn kc : Nat) (hcn : Hid (cs.length = cn)) (hkn : Hid (ks.length = kn)) (bf : Hid (au P Q G = true)) (HN : Hid (fG Q need kn = true)) (hne : Hid ((cn : Int) = need)) (hpos : 0 < cn) (hall : Hid (cs.all (aA P Q) = false)) (hQ : Q < 9223372036854775808) (w : World) (hC : Hid (Sl w (some ⟨bC, oC, none⟩) cs)) (hK : Hid (Sl w (some ⟨bK, oK, none⟩) ks)) :
  Calls Tryz.prog 12 #[gv P Q G, fA need (some ⟨bC, oC, none⟩) cn cc (some ⟨bK, oK, none⟩) kn kc] w (Rt w (.bool false)) := by
 have dn : ((cn : Int) != need) = false := by simpa using hne.out
 obtain ⟨hp2, hp, hq3, Ak⟩ := aB bf.out
 obtain ⟨n1, n2, n3, n4, n5⟩ := aX HN.out
 have l5 : cn < 1000000 := by have := hne.out; omega
 obtain ⟨w0, HW, az, kC⟩ := st2 (aG P Q G) gy (fB need (some ⟨bC, oC, none⟩) cn cc (some ⟨bK, oK, none⟩) kn kc) lW w
 have dh := mkS az hC
 have dA := mkS az hK
 have ai := bI w0
 clear hC hK
 go_in
 go_wp2_with fail
 rw [HW.out]
 have zc := kC.out _ ai
 go_wp2_with fail
 clear zc
 refine bH kC ai (bz P Q G true bf hQ _) fun w1 aD zc => ?_
 go_wp2_with fail
 clear zc
 refine bH kC aD (eZ P Q G need kn true HN _) fun w2 ak zc => ?_
 go_wp2_with fail
 clear zc
 refine bH kC ak (aR P Q G (some ⟨bC, oC, none⟩) cs cn cc false hall hcn l5 hp (by omega) hQ _ (dh.out _ ak)) fun w3 aH zc => ?_
 go_wp2
 go_ret
 exact ⟨rfl, gW az aH⟩
theorem Bd (P Q G need : Int) (bC oC : Nat) (cs : List Int) (cn cc : Nat) (bK oK : Nat) (ks : List Int) (kn kc : Nat) (hcn : Hid (cs.length = cn)) (hkn : Hid (ks.length = kn)) (bf : Hid (au P Q G = true)) (HN : Hid (fG Q need kn = true)) (hne : Hid ((cn : Int) = need)) (hpos : 0 < cn) (hall : Hid (cs.all (aA P Q) = true)) (wF : Hid (ks.all (aA P Q) = false)) (hQ : Q < 9223372036854775808) (w : World) (hC : Hid (Sl w (some ⟨bC, oC, none⟩) cs)) (hK : Hid (Sl w (some ⟨bK, oK, none⟩) ks)) :
  Calls Tryz.prog 12 #[gv P Q G, fA need (some ⟨bC, oC, none⟩) cn cc (some ⟨bK, oK, none⟩) kn kc] w (Rt w (.bool false)) := by
 have dn : ((cn : Int) != need) = false := by simpa using hne.out
 obtain ⟨hp2, hp, hq3, Ak⟩ := aB bf.out
 obtain ⟨n1, n2, n3, n4, n5⟩ := aX HN.out
 have l5 : cn < 1000000 := by have := hne.out; omega
 obtain ⟨w0, HW, az, kC⟩ := st2 (aG P Q G) gy (fB need (some ⟨bC, oC, none⟩) cn cc (some ⟨bK, oK, none⟩) kn kc) lW w
 have dh := mkS az hC
 have dA := mkS az hK
 have ai := bI w0
 clear hC hK
 go_in
 go_wp2_with fail
 rw [HW.out]
 have zc := kC.out _ ai
 go_wp2_with fail
 clear zc
 refine bH kC ai (bz P Q G true bf hQ _) fun w1 aD zc => ?_
 go_wp2_with fail
 clear zc
 refine bH kC aD (eZ P Q G need kn true HN _) fun w2 ak zc => ?_
 go_wp2_with fail
 clear zc
 refine bH kC ak (aR P Q G (some ⟨bC, oC, none⟩) cs cn cc true hall hcn l5 hp (by omega) hQ _ (dh.out _ ak)) fun w3 aH zc => ?_
 go_wp2_with fail
 clear zc
 refine bH kC aH (aR P Q G (some ⟨bK, oK, none⟩) ks kn kc false wF hkn (by omega) hp (by omega) hQ _ (dA.out _ aH)) fun w4 eT zc => ?_
 go_wp2
 go_ret
 exact ⟨rfl, gW az eT⟩
theorem Bc (P Q G need : Int) (bC oC : Nat) (cs : List Int) (cn cc : Nat) (bK oK : Nat) (ks : List Int) (kn kc : Nat) (hcn : Hid (cs.length = cn)) (hkn : Hid (ks.length = kn)) (bf : Hid (au P Q G = true)) (HN : Hid (fG Q need kn = true)) (hne : Hid ((cn : Int) = need)) (hpos : 0 < cn) (hall : Hid (cs.all (aA P Q) = true)) (wF : Hid (ks.all (aA P Q) = true)) (xg : Int) (ug : Hid (cs.getD 0 0 = xg)) (h1 : (xg == 1) = true) (hQ : Q < 9223372036854775808) (w : World) (hC : Hid (Sl w (some ⟨bC, oC, none⟩) cs)) (hK : Hid (Sl w (some ⟨bK, oK, none⟩) ks)) :
  Calls Tryz.prog 12 #[gv P Q G, fA need (some ⟨bC, oC, none⟩) cn cc (some ⟨bK, oK, none⟩) kn kc] w (Rt w (.bool false)) := by
 have dn : ((cn : Int) != need) = false := by simpa using hne.out
 obtain ⟨hp2, hp, hq3, Ak⟩ := aB bf.out
 obtain ⟨n1, n2, n3, n4, n5⟩ := aX HN.out
 have l5 : cn < 1000000 := by have := hne.out; omega
 obtain ⟨w0, HW, az, kC⟩ := st2 (aG P Q G) gy (fB need (some ⟨bC, oC, none⟩) cn cc (some ⟨bK, oK, none⟩) kn kc) lW w
 have dh := mkS az hC
 have dA := mkS az hK
 have ai := bI w0
 clear hC hK
 go_in
 go_wp2_with fail
 rw [HW.out]
 have zc := kC.out _ ai
 go_wp2_with fail
 clear zc
 refine bH kC ai (bz P Q G true bf hQ _) fun w1 aD zc => ?_
 go_wp2_with fail
 clear zc
 refine bH kC aD (eZ P Q G need kn true HN _) fun w2 ak zc => ?_
 go_wp2_with fail
 clear zc
 refine bH kC ak (aR P Q G (some ⟨bC, oC, none⟩) cs cn cc true hall hcn l5 hp (by omega) hQ _ (dh.out _ ak)) fun w3 aH zc => ?_
 go_wp2_with fail
 clear zc
 refine bH kC aH (aR P Q G (some ⟨bK, oK, none⟩) ks kn kc true wF hkn (by omega) hp (by omega) hQ _ (dA.out _ aH)) fun w4 eT zc => ?_
 obtain ⟨b9, o9, qI, hi9⟩ := (dh.out _ eT).out 0 (by rw [hcn.out]; exact hpos)
 cases qI
 rw [ug.out, Nat.add_zero] at hi9
 go_wp2
 go_ret
 exact ⟨rfl, gW az eT⟩
theorem kZ {j n : Nat} (h : j < n) (h8 : n ≤ 8) : IntKind.i64.wrap ((j : Int) + 1 - 1) = (j : Int) ∧ IntKind.i64.wrap (j : Int) = (j : Int) ∧ IntKind.i64.wrap ((j : Int) + 1 + 1) = (j : Int) + 1 + 1 ∧ wrap64 ((j : Int) + 1 - 1) = (j : Int) ∧ wrap64 ((j : Int) + 1 + 1) = (j : Int) + 1 + 1 :=
 ⟨by rw [Int.add_sub_cancel]; exact IntWalk.i64_in _ (by omega), IntWalk.i64_in _ (by omega), IntWalk.i64_in _ (by omega), by rw [Int.add_sub_cancel]; exact IntWalk.wrap64_in _ (by omega), IntWalk.wrap64_in _ (by omega)⟩
theorem qW (j : Nat) : ((j : Int) + 1 + 1) = ((j + 1 : Nat) : Int) + 1 := by omega
theorem Bu {j n : Nat} (h : j < n) : n + 1 - ((j : Int) + 1 + 1).toNat < n + 1 - ((j : Int) + 1).toNat := by omega
theorem jI {a b : Int} : (a != b) = (b != a) := by rw [bne, bne, BEq.comm]
theorem Bb (P Q G need : Int) (bC oC : Nat) (cs : List Int) (cn cc : Nat) (bK oK : Nat) (ks : List Int) (kn kc : Nat) (hcn : Hid (cs.length = cn)) (hkn : Hid (ks.length = kn)) (bf : Hid (au P Q G = true)) (HN : Hid (fG Q need kn = true)) (hne : Hid ((cn : Int) = need)) (hpos : 0 < cn) (hall : Hid (cs.all (aA P Q) = true)) (wF : Hid (ks.all (aA P Q) = true)) (xg : Int) (ug : Hid (cs.getD 0 0 = xg)) (h1 : (xg == 1) = false) (r : Bool) (hr : Hid (qj P Q cs 0 (ks.drop 0) = r)) (hQ : Q < 9223372036854775808) (w : World) (hC : Hid (Sl w (some ⟨bC, oC, none⟩) cs)) (hK : Hid (Sl w (some ⟨bK, oK, none⟩) ks)) :
  Calls Tryz.prog 12 #[gv P Q G, fA need (some ⟨bC, oC, none⟩) cn cc (some ⟨bK, oK, none⟩) kn kc] w (Rt w (.bool r)) := by
 have dn : ((cn : Int) != need) = false := by simpa using hne.out
 obtain ⟨hp2, hp, hq3, Ak⟩ := aB bf.out
 obtain ⟨n1, n2, n3, n4, n5⟩ := aX HN.out
 have l5 : cn < 1000000 := by have := hne.out; omega
 obtain ⟨w0, HW, az, kC⟩ := st2 (aG P Q G) gy (fB need (some ⟨bC, oC, none⟩) cn cc (some ⟨bK, oK, none⟩) kn kc) lW w
 have dh := mkS az hC
 have dA := mkS az hK
 have ai := bI w0
 clear hC hK
 go_in
 go_wp2_with fail
 rw [HW.out]
 have zc := kC.out _ ai
 go_wp2_with fail
 clear zc
 refine bH kC ai (bz P Q G true bf hQ _) fun w1 aD zc => ?_
 go_wp2_with fail
 clear zc
 refine bH kC aD (eZ P Q G need kn true HN _) fun w2 ak zc => ?_
 go_wp2_with fail
 clear zc
 refine bH kC ak (aR P Q G (some ⟨bC, oC, none⟩) cs cn cc true hall hcn l5 hp (by omega) hQ _ (dh.out _ ak)) fun w3 aH zc => ?_
 go_wp2_with fail
 clear zc
 refine bH kC aH (aR P Q G (some ⟨bK, oK, none⟩) ks kn kc true wF hkn (by omega) hp (by omega) hQ _ (dA.out _ aH)) fun w4 eT zc => ?_
 obtain ⟨b9, o9, qI, hi9⟩ := (dh.out _ eT).out 0 (by rw [hcn.out]; exact hpos)
 cases qI
 rw [ug.out, Nat.add_zero] at hi9
 go_wp2
 clear zc
 clear hi9
 go_loopw [5] (fun i wr => ∃ j : Nat, j ≤ kn ∧ i = .int .i64 ((j : Int) + 1) ∧ Hid (qj P Q cs j (ks.drop j) = r) ∧ Hid (Below w0.heap.size w0 wr)) (fun i _ => kn + 1 - (intOf i).toNat)
 case atStart => exact ⟨0, by omega, rfl, hr, eT⟩
 case round =>
  obtain ⟨j, hj, rfl, xD, qm⟩ := hrel
  by_cases dZ : j < kn
  ·
   have hjl : j < ks.length := by rw [hkn.out]; exact dZ
   have hst := pK (P := P) (Q := Q) (cs := cs) hjl
   obtain ⟨y, hy⟩ : ∃ x, ks.getD j 0 = x := ⟨_, rfl⟩
   obtain ⟨K, xY⟩ : ∃ x, qF P Q cs ((j : Int) + 1) cs.length = x := ⟨_, rfl⟩
   rw [hy, xY] at hst
   have EG := aa xY
   have HY := aa hy
   have HST := aa hst
   have dle : decide ((j : Int) + 1 ≤ (kn : Int)) = true := by simp; omega
   have i1 : (j : Int) + 1 < Q := by omega
   clear hy xY hst
   have zc := kC.out _ qm
   go_wp2
   clear zc
   go_loopw [6, 7, 8] (fun a e i wz => ∃ k : Nat, k ≤ cn ∧ i = .int .i64 k ∧ a = .int .i64 (qF P Q cs ((j : Int) + 1) k) ∧ e = .int .i64 (ql Q ((j : Int) + 1) k) ∧ Hid (Below w0.heap.size w0 wz)) (fun _ _ i _ => cn - (intOf i).toNat)
   case atStart => exact ⟨0, by omega, rfl, rfl, rfl, qm⟩
   case round =>
    obtain ⟨k, hk, rfl, rfl, rfl, ax⟩ := hrel
    have hkm := j4 (i := (j : Int) + 1) hp2 (by omega) hall.out k (by rw [hcn.out]; exact hk)
    obtain ⟨e0, e1⟩ := kR (i := (j : Int) + 1) (show 2 ≤ Q by omega) k
    by_cases hlt : k < cn
    ·
     have hkl : k < cs.length := by rw [hcn.out]; exact hlt
     obtain ⟨b, o, hA, hi⟩ := (dh.out _ ax).out k hkl
     cases hA
     have hcm := fM hall.out hkl
     have sk : qF P Q cs ((j : Int) + 1) (k + 1) = qF P Q cs ((j : Int) + 1) k * pw (cs.getD k 0) (ql Q ((j : Int) + 1) k % Q) P % P := rfl
     have se : ql Q ((j : Int) + 1) (k + 1) = ql Q ((j : Int) + 1) k * ((j : Int) + 1) % Q := rfl
     obtain ⟨x, hx⟩ : ∃ x, cs.getD k 0 = x := ⟨_, rfl⟩
     obtain ⟨a, ha⟩ : ∃ x, qF P Q cs ((j : Int) + 1) k = x := ⟨_, rfl⟩
     obtain ⟨e, he⟩ : ∃ x, ql Q ((j : Int) + 1) k = x := ⟨_, rfl⟩
     obtain ⟨v, qG⟩ : ∃ x', pw x (e % Q) P = x' := ⟨_, rfl⟩
     obtain ⟨u, hu⟩ : ∃ x', a * v % P = x' := ⟨_, rfl⟩
     obtain ⟨f, hf⟩ : ∃ x', e * ((j : Int) + 1) % Q = x' := ⟨_, rfl⟩
     rw [hx] at hi hcm sk
     rw [ha] at hkm sk ⊢
     rw [he] at e0 e1 sk se ⊢
     rw [qG, hu] at sk
     rw [hf] at se
     have x0 := gN hcm
     have x1 := gP hcm
     have a0 := gN hkm
     have a1 := gP hkm
     obtain ⟨v0, v1⟩ : 0 ≤ v ∧ v < P := by rw [← qG]; exact vz _ _ _ (by omega)
     have Dz := aa qG
     have HU := aa hu
     have HF := aa hf
     have SK := aa sk
     have SE := aa se
     have kI := EY (p := ⟨bC, oC + k, none⟩) (v := .int .i64 x) hi
     clear hx ha he qG hu hf sk se hcm hkm hkl hi
     have j6 := bI wr
     have zc := kC.out _ ax
     have qh := kI.out _ j6
     go_wp2_with fail
     clear zc qh
     have hS5 := aa (show ∀ u1 u2 : World, (Hid (Below w0.heap.size w0 u1) ∧ Hid (Below wr.heap.size wr u1)) → Below u1.heap.size u1 u2 → ((u2.cell? ⟨w.heap.size, 0, none⟩ = some (.int .i64 P) ∧ u2.cell? ⟨w.heap.size, 1, none⟩ = some (.int .i64 Q) ∧ u2.cell? ⟨w.heap.size, 2, none⟩ = some (.int .i64 G) ∧ u2.cell? ⟨w.heap.size + 1, 0, none⟩ = some (.int .i64 need) ∧ u2.cell? ⟨w.heap.size + 1, 1, none⟩ = some (.slice (some ⟨bC, oC, none⟩) cn cc) ∧ u2.cell? ⟨w.heap.size + 1, 2, none⟩ = some (.slice (some ⟨bK, oK, none⟩) kn kc)) ∧ (u2.cell? ⟨bC, oC + k, none⟩ = some (.int .i64 x)) ∧ Hid (Below w0.heap.size w0 u2) ∧ Hid (Below wr.heap.size wr u2)) from fun u1 u2 h1 h2 => by
      obtain ⟨q0, q1⟩ := h1
      have r0 := lV q0 h2
      have r1 := lV q1 h2
      exact ⟨kC.out _ r0, kI.out _ r1, r0, r1⟩)
     have Ia := aa (show Hid (Below w0.heap.size w0 wr) ∧ Hid (Below wr.heap.size wr wr) from ⟨ax, j6⟩)
     go_region_held3 (fun w' => (w'.cell? ⟨w.heap.size, 0, none⟩ = some (.int .i64 P) ∧ w'.cell? ⟨w.heap.size, 1, none⟩ = some (.int .i64 Q) ∧ w'.cell? ⟨w.heap.size, 2, none⟩ = some (.int .i64 G) ∧ w'.cell? ⟨w.heap.size + 1, 0, none⟩ = some (.int .i64 need) ∧ w'.cell? ⟨w.heap.size + 1, 1, none⟩ = some (.slice (some ⟨bC, oC, none⟩) cn cc) ∧ w'.cell? ⟨w.heap.size + 1, 2, none⟩ = some (.slice (some ⟨bK, oK, none⟩) kn kc)) ∧ (w'.cell? ⟨bC, oC + k, none⟩ = some (.int .i64 x)) ∧ Hid (Below w0.heap.size w0 w') ∧ Hid (Below wr.heap.size wr w'))
      (first | exact hS5.out _ _ Ia.out ((Below.refl _ _).drew) | (exact hS5.out _ _ (by go_split_ands; exact ⟨(by assumption), (by assumption)⟩) dL) | go_keep)
      ((first
       | (go_at_call 44; (with_reducible refine (kE P Q G x e v Dz (by omega) hp (by omega) (by omega) (by omega) x1 (by omega) (by omega) _).mono ?_); rintro e wA ⟨rfl, dL⟩)
       | (go_at_call 43; (with_reducible refine (sZ P Q G a v u HU hp (by omega) a1 v0 v1 _).mono ?_); rintro e wA ⟨rfl, dL⟩)))
     rename_i hHeld
     obtain ⟨-, -, AO, DU⟩ := hHeld
     clear hS5 Ia
     have zc := kC.out _ AO
     have qh := kI.out _ DU
     go_wp2_with fail
     refine (aU e ((j : Int) + 1) Q f HF (by omega) e0 e1 (by omega) i1 _).mono ?_
     rintro e9 w9 ⟨rfl, IG⟩
     subst IG
     go_wp2
     go_roundw
     case rel => exact ⟨k + 1, by omega, by go_num, by rw [SK.out], by rw [SE.out], AO⟩
     case measure => simp [intOf]; omega
    ·
     obtain rfl : k = cn := by omega
     have hkv := EG.out
     rw [hcn.out] at hkv
     rw [hkv]
     clear hkv hkm e0 e1
     obtain ⟨b, o, hA, hi⟩ := (dA.out _ ax).out j hjl
     cases hA
     rw [HY.out] at hi
     obtain ⟨dj, Hu, Ht, Hr, Hq⟩ := kZ dZ n2
     cases hyk : (y == K) with
     | true =>
      have Gd : Hid (qj P Q cs (j + 1) (ks.drop (j + 1)) = r) := aa (by rw [← xD.out, HST.out, hyk]; rfl)
      have FP : (K != y) = false := by rw [jI]; simpa using hyk
      clear hyk
      have zc := kC.out _ ax
      go_wp2
      go_roundw
      case rel => exact ⟨j + 1, dZ, by rw [qW], Gd, ax⟩
      case measure => simp only [intOf]; exact Bu dZ
     | false =>
      obtain rfl : r = false := by rw [← xD.out, HST.out, hyk]; rfl
      have FP : (K != y) = true := by rw [jI]; simpa using hyk
      clear hyk
      have zc := kC.out _ ax
      go_wp2
      go_ret
      exact ⟨rfl, gW az ax⟩
  ·
   obtain rfl : j = kn := by omega
   obtain rfl : r = true := by rw [← xD.out, ← hkn.out, List.drop_length]; rfl
   have dle : decide ((j : Int) + 1 ≤ (j : Int)) = false := by simp; omega
   clear xD
   have zc := kC.out _ qm
   go_wp2
   go_ret
   exact ⟨rfl, gW az qm⟩
theorem oQ (P Q G need : Int) (Cs : Option Addr) (cs : List Int) (cn cc : Nat) (Ks : Option Addr) (ks : List Int) (kn kc : Nat) (hcn : Hid (cs.length = cn)) (hkn : Hid (ks.length = kn)) (r : Bool) (hr : Hid (ou P Q G need cs ks = r)) (hQ : Q < 9223372036854775808) (w : World) (hC : Hid (Sl w Cs cs)) (hK : Hid (Sl w Ks ks)) :
  Calls Tryz.prog 12 #[gv P Q G, fA need Cs cn cc Ks kn kc] w (Rt w (.bool r)) := by
 have hr1 := hr.out
 unfold ou at hr1
 rw [hkn.out, hcn.out] at hr1
 cases h1 : au P Q G with
 | false =>
  obtain rfl : r = false := by rw [← hr1, h1]; rfl
  exact Bh P Q G need Cs cn cc Ks kn kc (aa h1) hQ w
 | true =>
  cases h2 : fG Q need kn with
  | false =>
   obtain rfl : r = false := by rw [← hr1, h1, h2]; rfl
   exact Bg P Q G need Cs cn cc Ks kn kc (aa h1) (aa h2) hQ w
  | true =>
   by_cases h3 : (cn : Int) = need
   ·
    obtain ⟨n1, n2, n3, n4, n5⟩ := aX h2
    obtain ⟨p1, p2, p3, p4⟩ := aB h1
    have hpos : 0 < cn := by omega
    obtain ⟨bC, oC, rfl⟩ := gL hC.out (by rw [hcn.out]; exact hpos)
    obtain ⟨bK, oK, rfl⟩ := gL hK.out (by rw [hkn.out]; exact n1)
    cases h4 : cs.all (aA P Q) with
    | false =>
     obtain rfl : r = false := by rw [← hr1, h1, h2, decide_eq_true h3, h4]; simp
     exact Be P Q G need bC oC cs cn cc bK oK ks kn kc hcn hkn (aa h1) (aa h2) (aa h3) hpos (aa h4) hQ w hC hK
    | true =>
     cases h5 : ks.all (aA P Q) with
     | false =>
      have h6 : qj P Q cs 0 ks = false := by
       cases h7 : qj P Q cs 0 ks with
       | false => rfl
       | true => rw [rM p1 (by omega) h4 ks 0 h7] at h5; cases h5
      obtain rfl : r = false := by rw [← hr1, h1, h2, decide_eq_true h3, h4, h6]; simp
      exact Bd P Q G need bC oC cs cn cc bK oK ks kn kc hcn hkn (aa h1) (aa h2) (aa h3) hpos (aa h4) (aa h5) hQ w hC hK
     | true =>
      cases h6 : (cs.getD 0 0 == 1) with
      | true =>
       obtain rfl : r = false := by rw [← hr1, h1, h2, decide_eq_true h3, h6]; rfl
       exact Bc P Q G need bC oC cs cn cc bK oK ks kn kc hcn hkn (aa h1) (aa h2) (aa h3) hpos (aa h4) (aa h5) _ (aa rfl) h6 hQ w hC hK
      | false => exact Bb P Q G need bC oC cs cn cc bK oK ks kn kc hcn hkn (aa h1) (aa h2) (aa h3) hpos (aa h4) (aa h5) _ (aa rfl) h6 r (aa (by rw [← hr1, h1, h2, decide_eq_true h3, h4, h6, List.drop_zero]; rfl)) hQ w hC hK
   ·
    obtain rfl : r = false := by rw [← hr1, h1, h2, decide_eq_false h3]; rfl
    exact Bf P Q G need Cs cn cc Ks kn kc (aa h1) (aa h2) h3 hQ w
end Go.Proofs.YtchcllcbknfikaaGreatDoor