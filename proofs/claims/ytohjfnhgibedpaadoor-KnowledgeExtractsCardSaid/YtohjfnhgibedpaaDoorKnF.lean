/- The contracts of packages knowledge and specieref16: well-formed proofs. -/
import Derived.Test.YtohjfnhgibedpaaDoorKnE
namespace Go.Proofs.YtohjfnhgibedpaaDoor
open Go.RowKit SpM
set_option linter.unusedVariables false
set_option linter.unusedSimpArgs false

/-- a proof as a value, and in a box. -/
abbrev prv (pa : Option Addr) (na ca : Nat) (C : Int) (pz : Option Addr) (nz cz : Nat) : Value := .agg #[.slice pa na ca, .int .i64 C, .slice pz nz cz]
abbrev prObj (pa : Option Addr) (na ca : Nat) (C : Int) (pz : Option Addr) (nz cz : Nat) : Obj := .cells #[.slice pa na ca, .int .i64 C, .slice pz nz cz] 49
def PBox (w : World) (a : Nat) (x y z : Value) : Prop := w.cell? ⟨a, 0, none⟩ = some x ∧ w.cell? ⟨a, 1, none⟩ = some y ∧ w.cell? ⟨a, 2, none⟩ = some z
theorem PBox.below {w w' : World} {a : Nat} {x y z : Value} (h : PBox w a x y z) (hb : Below w.heap.size w w') : PBox w' a x y z :=
  ⟨(hb.cell (World.block_lt_of_cell? _ _ h.1)).trans h.1, (hb.cell (World.block_lt_of_cell? _ _ h.2.1)).trans h.2.1, (hb.cell (World.block_lt_of_cell? _ _ h.2.2)).trans h.2.2⟩
theorem pbox_alloc (w : World) (o : Obj) (T : TypeId) (x y z : Value) : PBox ((w.alloc o).alloc (.cells #[x, y, z] T)) (w.heap.size + 1) x y z := by
  have e : (w.alloc o).heap.size = w.heap.size + 1 := by simp
  rw [← e]
  exact ⟨World.cell?_alloc_at _ _ _ _ rfl, World.cell?_alloc_at _ _ _ _ rfl, World.cell?_alloc_at _ _ _ _ rfl⟩
theorem cell_below {w w' : World} {p : Addr} {v : Value} (h : w.cell? p = some v) (hb : Below w.heap.size w w') : w'.cell? p = some v := (hb.cell (World.block_lt_of_cell? _ _ h)).trans h

/-- a slice of one number, if its length is 1. -/
def One (w : World) (p : Option Addr) (n : Nat) (x : Int) : Prop := n = 1 → ∃ b o, p = some ⟨b, o, none⟩ ∧ w.cell? ⟨b, o, none⟩ = some (.int .i64 x)
theorem One.below {w w' : World} {p : Option Addr} {n : Nat} {x : Int} (h : One w p n x) (hb : Below w.heap.size w w') : One w' p n x := fun e => by
  obtain ⟨b, o, h1, h2⟩ := h e
  exact ⟨b, o, h1, cell_below h2 hb⟩
/-- well-formed proofs of valid groups. -/
def formB (P Q : Int) (na : Nat) (a0 C : Int) (nz : Nat) (z0 : Int) : Bool := na == 1 && (nz == 1 && (memG P Q a0 && (expB Q C && expB Q z0)))

set_option maxHeartbeats 1600000 in
theorem formed_0 (P Q G : Int) (pa : Option Addr) (na ca : Nat) (a0 C : Int) (pz : Option Addr) (nz cz : Nat) (z0 : Int) (hna : ((na : Int) == 1) = false) (hval : Hid (validG P Q G = true)) (hQ : Q < 9223372036854775808) (w : World) (hv : Hid (Vars w)) :
    Calls Tryd.prog 92 #[gv P Q G, prv pa na ca C pz nz cz] w fun e' w' => e' = .returned (.bool false) ∧ Below w.heap.size w w' := by
  have HP : Hid (PBox ((w.alloc (gObj P Q G)).alloc (prObj pa na ca C pz nz cz)) (w.heap.size + 1) (.slice pa na ca) (.int .i64 C) (.slice pz nz cz)) := Lib.hid (pbox_alloc w _ _ _ _ _)
  go_enter Tryd.func92, Tryd.ntmps92
  go_wp2_with fail
  go_quiet (fail)
  go_wp2
  go_ret
  exact ⟨rfl, below_drawN (below_two (Below.refl _ _)) _⟩

set_option maxHeartbeats 1600000 in
theorem formed_1 (P Q G : Int) (ba oa ca : Nat) (a0 C : Int) (pz : Option Addr) (nz cz : Nat) (z0 : Int) (hA : Hid (conG P Q G a0 = false)) (hval : Hid (validG P Q G = true)) (hQ : Q < 9223372036854775808) (w : World) (hv : Hid (Vars w)) (ha : Hid (w.cell? ⟨ba, oa, none⟩ = some (.int .i64 a0))) :
    Calls Tryd.prog 92 #[gv P Q G, prv (some ⟨ba, oa, none⟩) 1 ca C pz nz cz] w fun e' w' => e' = .returned (.bool false) ∧ Below w.heap.size w w' := by
  obtain ⟨hp2, hp, hq3, hqp⟩ := validG_P hval.out
  obtain ⟨W, hW⟩ : ∃ W, (w.alloc (gObj P Q G)).alloc (prObj (some ⟨ba, oa, none⟩) 1 ca C pz nz cz) = W := ⟨_, rfl⟩
  have HB : Hid (Below w.heap.size w W) := Lib.hid (by rw [← hW]; exact below_two (Below.refl _ _))
  have HX : Hid (GBox W w.heap.size P Q G) := Lib.hid (by rw [← hW]; exact (gbox_alloc w P Q G).below (below_box0 _ _))
  have HP : Hid (PBox W (w.heap.size + 1) (.slice (some ⟨ba, oa, none⟩) 1 ca) (.int .i64 C) (.slice pz nz cz)) := Lib.hid (by rw [← hW]; exact pbox_alloc w _ _ _ _ _)
  have HA : Hid (W.cell? ⟨ba, oa, none⟩ = some (.int .i64 a0)) := Lib.hid (cell_below ha.out HB.out)
  have HS : Hid (∀ w1 w2 : World, Hid (Below W.heap.size W w1) → Below w1.heap.size w1 w2 → (w2.cell? ⟨w.heap.size, 0, none⟩ = some (.int .i64 P) ∧ w2.cell? ⟨w.heap.size, 1, none⟩ = some (.int .i64 Q) ∧ w2.cell? ⟨w.heap.size, 2, none⟩ = some (.int .i64 G) ∧ w2.cell? ⟨w.heap.size + 1, 0, none⟩ = some (.slice (some ⟨ba, oa, none⟩) 1 ca) ∧ w2.cell? ⟨w.heap.size + 1, 1, none⟩ = some (.int .i64 C) ∧ w2.cell? ⟨w.heap.size + 1, 2, none⟩ = some (.slice pz nz cz) ∧ w2.cell? ⟨ba, oa, none⟩ = some (.int .i64 a0) ∧ Hid (Below W.heap.size W w2))) :=
    Lib.hid (fun w1 w2 h1 h2 => have h3 := below_ext h1.out h2; ⟨(HX.out.below h3).1, (HX.out.below h3).2.1, (HX.out.below h3).2.2, (HP.out.below h3).1, (HP.out.below h3).2.1, (HP.out.below h3).2.2, cell_below HA.out h3, Lib.hid h3⟩)
  have HB0 : Hid (Below W.heap.size W W) := Lib.hid (Below.refl _ _)
  have HV : Hid (Vars W) := Lib.hid (hv.out.below HB.out)
  have HVS : Hid (∀ w1 : World, Hid (Below W.heap.size W w1) → Hid (Vars w1)) := Lib.hid (fun w1 h1 => Lib.hid (HV.out.below h1.out))
  have HW := Lib.hid hW
  clear hW
  go_enter Tryd.func92, Tryd.ntmps92
  go_wp2_with fail
  rw [HW.out]
  refine wp_region_held_drew (S := fun w' => w'.cell? ⟨w.heap.size, 0, none⟩ = some (.int .i64 P) ∧ w'.cell? ⟨w.heap.size, 1, none⟩ = some (.int .i64 Q) ∧ w'.cell? ⟨w.heap.size, 2, none⟩ = some (.int .i64 G) ∧ w'.cell? ⟨w.heap.size + 1, 0, none⟩ = some (.slice (some ⟨ba, oa, none⟩) 1 ca) ∧ w'.cell? ⟨w.heap.size + 1, 1, none⟩ = some (.int .i64 C) ∧ w'.cell? ⟨w.heap.size + 1, 2, none⟩ = some (.slice pz nz cz) ∧ w'.cell? ⟨ba, oa, none⟩ = some (.int .i64 a0) ∧ Hid (Below W.heap.size W w')) (by kernel_rfl) (HS.out _ _ HB0 ((Below.refl W.heap.size W).drew)) (fun hHeld => ?_)
  refine wpAnyH_take (i := 0) (oi := _) (v := ?_) rfl (by kernel_rfl) (by kernel_rfl) (by kernel_rfl) (fun _ _ _ h => h) (Or.inl ⟨by rfl, ?_⟩) (by assumption) ?_
  rotate_left; (intro wS hSw; (try dsimp only at hSw); go_simp <;> with_reducible rfl)
  try simp only [List.getElem_toArray, List.getElem_cons_zero, List.getElem_cons_succ, Act.put, List.setIfInBounds_toArray, List.set_cons_zero, List.set_cons_succ]
  refine wpAnyH_take (i := 1) (oi := _) (v := ?_) rfl (by kernel_rfl) (by kernel_rfl) (by kernel_rfl) (fun _ _ _ h => h) (Or.inl ⟨by rfl, ?_⟩) (by assumption) ?_
  rotate_left; (intro wS hSw; (try dsimp only at hSw); go_simp <;> with_reducible rfl)
  try simp only [List.getElem_toArray, List.getElem_cons_zero, List.getElem_cons_succ, Act.put, List.setIfInBounds_toArray, List.set_cons_zero, List.set_cons_succ]
  refine wpAnyH_take (i := 2) (oi := _) (v := ?_) rfl (by kernel_rfl) (by kernel_rfl) (by kernel_rfl) (fun _ _ _ h => h) (Or.inl ⟨by rfl, ?_⟩) (by assumption) ?_
  rotate_left; (intro wS hSw; (try dsimp only at hSw); go_simp <;> with_reducible rfl)
  try simp only [List.getElem_toArray, List.getElem_cons_zero, List.getElem_cons_succ, Act.put, List.setIfInBounds_toArray, List.set_cons_zero, List.set_cons_succ]
  refine wpAnyH_take (i := 3) (oi := _) (v := ?_) rfl (by kernel_rfl) (by kernel_rfl) (by kernel_rfl) (fun _ _ _ h => h) (Or.inl ⟨by rfl, ?_⟩) (by assumption) ?_
  rotate_left; (intro wS hSw; (try dsimp only at hSw); go_simp <;> with_reducible rfl)
  try simp only [List.getElem_toArray, List.getElem_cons_zero, List.getElem_cons_succ, Act.put, List.setIfInBounds_toArray, List.set_cons_zero, List.set_cons_succ]
  refine wpAnyH_take (i := 4) (oi := _) (v := ?_) rfl (by kernel_rfl) (by kernel_rfl) (by kernel_rfl) (fun _ _ _ h => h) (Or.inl ⟨by rfl, ?_⟩) (by assumption) ?_
  rotate_left; (intro wS hSw; (try dsimp only at hSw); go_simp <;> with_reducible rfl)
  try simp only [List.getElem_toArray, List.getElem_cons_zero, List.getElem_cons_succ, Act.put, List.setIfInBounds_toArray, List.set_cons_zero, List.set_cons_succ]
  refine wpAnyH_take (i := 5) (oi := _) (v := ?_) rfl (by kernel_rfl) (by kernel_rfl) (by kernel_rfl) (fun _ _ _ h => h) (Or.inl ⟨by rfl, ?_⟩) (by assumption) ?_
  rotate_left; (intro wS hSw; (try dsimp only at hSw); go_simp <;> with_reducible rfl)
  try simp only [List.getElem_toArray, List.getElem_cons_zero, List.getElem_cons_succ, Act.put, List.setIfInBounds_toArray, List.set_cons_zero, List.set_cons_succ]
  refine wpAnyH_take (i := 6) (oi := _) (v := ?_) rfl (by kernel_rfl) (by kernel_rfl) (by kernel_rfl) (fun _ _ _ h => h) (Or.inl ⟨by rfl, ?_⟩) (by assumption) ?_
  rotate_left; (intro wS hSw; (try dsimp only at hSw); go_simp <;> with_reducible rfl)
  try simp only [List.getElem_toArray, List.getElem_cons_zero, List.getElem_cons_succ, Act.put, List.setIfInBounds_toArray, List.set_cons_zero, List.set_cons_succ]
  refine wpAnyH_take (i := 7) (oi := _) (v := ?_) rfl (by kernel_rfl) (by kernel_rfl) (by kernel_rfl) (fun _ _ _ h => h) (Or.inl ⟨by rfl, ?_⟩) (by assumption) ?_
  rotate_left; (intro wS hSw; (try dsimp only at hSw); go_simp <;> with_reducible rfl)
  try simp only [List.getElem_toArray, List.getElem_cons_zero, List.getElem_cons_succ, Act.put, List.setIfInBounds_toArray, List.set_cons_zero, List.set_cons_succ]
  refine wpAnyH_take (i := 8) (oi := _) (v := ?_) rfl (by kernel_rfl) (by kernel_rfl) (by kernel_rfl) (fun _ _ _ h => h) (Or.inl ⟨by rfl, ?_⟩) (by assumption) ?_
  rotate_left; (intro wS hSw; (try dsimp only at hSw); go_simp <;> with_reducible rfl)
  try simp only [List.getElem_toArray, List.getElem_cons_zero, List.getElem_cons_succ, Act.put, List.setIfInBounds_toArray, List.set_cons_zero, List.set_cons_succ]
  refine wpAnyH_take (i := 9) (oi := _) (v := ?_) rfl (by kernel_rfl) (by kernel_rfl) (by kernel_rfl) (fun _ _ _ h => h) (Or.inl ⟨by rfl, ?_⟩) (by assumption) ?_
  rotate_left; (intro wS hSw; (try dsimp only at hSw); go_simp <;> with_reducible rfl)
  try simp only [List.getElem_toArray, List.getElem_cons_zero, List.getElem_cons_succ, Act.put, List.setIfInBounds_toArray, List.set_cons_zero, List.set_cons_succ]
  refine wpAnyH_ready (rs := [10]) (by kernel_rfl) (by simp) ?_
  refine AllReadyH.cons rfl (fun K hK => ?_) AllReadyH.nil
  go_simp
  (go_at_call 41; (refine (contains_any P Q G a0 false hA hQ _ ?_).mono ?_); rotate_left; rintro e wA ⟨rfl, hbA⟩; rotate_left; (go_split_ands; exact HVS.out _ (by assumption)))
  refine hK.out _ _ ?_ (fun hHeld => ?_)
  · (go_split_ands; exact HS.out _ _ (by assumption) hbA)
  clear hK K
  try simp only [List.getElem_toArray, List.getElem_cons_zero, List.getElem_cons_succ, Act.put, List.setIfInBounds_toArray, List.set_cons_zero, List.set_cons_succ]
  refine wpAnyH_take (i := 11) (oi := _) (v := ?_) rfl (by kernel_rfl) (by kernel_rfl) (by kernel_rfl) (fun _ _ _ h => h) (Or.inl ⟨by rfl, ?_⟩) (by assumption) ?_
  rotate_left; (intro wS hSw; (try dsimp only at hSw); go_simp <;> with_reducible rfl)
  try simp only [List.getElem_toArray, List.getElem_cons_zero, List.getElem_cons_succ, Act.put, List.setIfInBounds_toArray, List.set_cons_zero, List.set_cons_succ]
  refine wpAnyH_take (i := 12) (oi := _) (v := ?_) rfl (by kernel_rfl) (by kernel_rfl) (by kernel_rfl) (fun _ _ _ h => h) (Or.inl ⟨by rfl, ?_⟩) (by assumption) ?_
  rotate_left; (intro wS hSw; (try dsimp only at hSw); go_simp <;> with_reducible rfl)
  try simp only [List.getElem_toArray, List.getElem_cons_zero, List.getElem_cons_succ, Act.put, List.setIfInBounds_toArray, List.set_cons_zero, List.set_cons_succ]
  refine wpAnyH_take (i := 13) (oi := _) (v := undef) rfl (by kernel_rfl) (by kernel_rfl) (by kernel_rfl) (fun _ _ _ h => h) (Or.inr ⟨by rfl, rfl⟩) (by assumption) ?_
  try simp only [List.getElem_toArray, List.getElem_cons_zero, List.getElem_cons_succ, Act.put, List.setIfInBounds_toArray, List.set_cons_zero, List.set_cons_succ]
  refine wpAnyH_take (i := 14) (oi := _) (v := undef) rfl (by kernel_rfl) (by kernel_rfl) (by kernel_rfl) (fun _ _ _ h => h) (Or.inr ⟨by rfl, rfl⟩) (by assumption) ?_
  try simp only [List.getElem_toArray, List.getElem_cons_zero, List.getElem_cons_succ, Act.put, List.setIfInBounds_toArray, List.set_cons_zero, List.set_cons_succ]
  refine wpAnyH_take (i := 15) (oi := _) (v := undef) rfl (by kernel_rfl) (by kernel_rfl) (by kernel_rfl) (fun _ _ _ h => h) (Or.inr ⟨by rfl, rfl⟩) (by assumption) ?_
  try simp only [List.getElem_toArray, List.getElem_cons_zero, List.getElem_cons_succ, Act.put, List.setIfInBounds_toArray, List.set_cons_zero, List.set_cons_succ]
  refine wpAnyH_take (i := 16) (oi := _) (v := undef) rfl (by kernel_rfl) (by kernel_rfl) (by kernel_rfl) (fun _ _ _ h => h) (Or.inr ⟨by rfl, rfl⟩) (by assumption) ?_
  try simp only [List.getElem_toArray, List.getElem_cons_zero, List.getElem_cons_succ, Act.put, List.setIfInBounds_toArray, List.set_cons_zero, List.set_cons_succ]
  refine wpAnyH_take (i := 17) (oi := _) (v := ?_) rfl (by kernel_rfl) (by kernel_rfl) (by kernel_rfl) (fun _ _ _ h => h) (Or.inl ⟨by rfl, ?_⟩) (by assumption) ?_
  rotate_left; (intro wS hSw; (try dsimp only at hSw); go_simp <;> with_reducible rfl)
  try simp only [List.getElem_toArray, List.getElem_cons_zero, List.getElem_cons_succ, Act.put, List.setIfInBounds_toArray, List.set_cons_zero, List.set_cons_succ]
  refine wpAnyH_take (i := 18) (oi := _) (v := ?_) rfl (by kernel_rfl) (by kernel_rfl) (by kernel_rfl) (fun _ _ _ h => h) (Or.inl ⟨by rfl, ?_⟩) (by assumption) ?_
  rotate_left; (intro wS hSw; (try dsimp only at hSw); go_simp <;> with_reducible rfl)
  try simp only [List.getElem_toArray, List.getElem_cons_zero, List.getElem_cons_succ, Act.put, List.setIfInBounds_toArray, List.set_cons_zero, List.set_cons_succ]
  refine wpAnyH_take (i := 19) (oi := _) (v := undef) rfl (by kernel_rfl) (by kernel_rfl) (by kernel_rfl) (fun _ _ _ h => h) (Or.inr ⟨by rfl, rfl⟩) (by assumption) ?_
  try simp only [List.getElem_toArray, List.getElem_cons_zero, List.getElem_cons_succ, Act.put, List.setIfInBounds_toArray, List.set_cons_zero, List.set_cons_succ]
  refine wpAnyH_take (i := 20) (oi := _) (v := undef) rfl (by kernel_rfl) (by kernel_rfl) (by kernel_rfl) (fun _ _ _ h => h) (Or.inr ⟨by rfl, rfl⟩) (by assumption) ?_
  try simp only [List.getElem_toArray, List.getElem_cons_zero, List.getElem_cons_succ, Act.put, List.setIfInBounds_toArray, List.set_cons_zero, List.set_cons_succ]
  refine wpAnyH_take (i := 21) (oi := _) (v := undef) rfl (by kernel_rfl) (by kernel_rfl) (by kernel_rfl) (fun _ _ _ h => h) (Or.inr ⟨by rfl, rfl⟩) (by assumption) ?_
  try simp only [List.getElem_toArray, List.getElem_cons_zero, List.getElem_cons_succ, Act.put, List.setIfInBounds_toArray, List.set_cons_zero, List.set_cons_succ]
  refine wpAnyH_take (i := 22) (oi := _) (v := undef) rfl (by kernel_rfl) (by kernel_rfl) (by kernel_rfl) (fun _ _ _ h => h) (Or.inr ⟨by rfl, rfl⟩) (by assumption) ?_
  try simp only [List.getElem_toArray, List.getElem_cons_zero, List.getElem_cons_succ, Act.put, List.setIfInBounds_toArray, List.set_cons_zero, List.set_cons_succ]
  refine wpAnyH_take (i := 23) (oi := _) (v := ?_) rfl (by kernel_rfl) (by kernel_rfl) (by kernel_rfl) (fun _ _ _ h => h) (Or.inl ⟨by rfl, ?_⟩) (by assumption) ?_
  rotate_left; (intro wS hSw; (try dsimp only at hSw); go_simp <;> with_reducible rfl)
  try simp only [List.getElem_toArray, List.getElem_cons_zero, List.getElem_cons_succ, Act.put, List.setIfInBounds_toArray, List.set_cons_zero, List.set_cons_succ]
  refine wpAnyH_take (i := 24) (oi := _) (v := ?_) rfl (by kernel_rfl) (by kernel_rfl) (by kernel_rfl) (fun _ _ _ h => h) (Or.inl ⟨by rfl, ?_⟩) (by assumption) ?_
  rotate_left; (intro wS hSw; (try dsimp only at hSw); go_simp <;> with_reducible rfl)
  try simp only [List.getElem_toArray, List.getElem_cons_zero, List.getElem_cons_succ, Act.put, List.setIfInBounds_toArray, List.set_cons_zero, List.set_cons_succ]
  refine wpAnyH_take (i := 25) (oi := _) (v := undef) rfl (by kernel_rfl) (by kernel_rfl) (by kernel_rfl) (fun _ _ _ h => h) (Or.inr ⟨by rfl, rfl⟩) (by assumption) ?_
  try simp only [List.getElem_toArray, List.getElem_cons_zero, List.getElem_cons_succ, Act.put, List.setIfInBounds_toArray, List.set_cons_zero, List.set_cons_succ]
  refine wpAnyH_take (i := 26) (oi := _) (v := undef) rfl (by kernel_rfl) (by kernel_rfl) (by kernel_rfl) (fun _ _ _ h => h) (Or.inr ⟨by rfl, rfl⟩) (by assumption) ?_
  try simp only [List.getElem_toArray, List.getElem_cons_zero, List.getElem_cons_succ, Act.put, List.setIfInBounds_toArray, List.set_cons_zero, List.set_cons_succ]
  refine wpAnyH_take (i := 27) (oi := _) (v := undef) rfl (by kernel_rfl) (by kernel_rfl) (by kernel_rfl) (fun _ _ _ h => h) (Or.inr ⟨by rfl, rfl⟩) (by assumption) ?_
  try simp only [List.getElem_toArray, List.getElem_cons_zero, List.getElem_cons_succ, Act.put, List.setIfInBounds_toArray, List.set_cons_zero, List.set_cons_succ]
  refine wpAnyH_take (i := 28) (oi := _) (v := undef) rfl (by kernel_rfl) (by kernel_rfl) (by kernel_rfl) (fun _ _ _ h => h) (Or.inr ⟨by rfl, rfl⟩) (by assumption) ?_
  try simp only [List.getElem_toArray, List.getElem_cons_zero, List.getElem_cons_succ, Act.put, List.setIfInBounds_toArray, List.set_cons_zero, List.set_cons_succ]
  refine wpAnyH_take (i := 29) (oi := _) (v := undef) rfl (by kernel_rfl) (by kernel_rfl) (by kernel_rfl) (fun _ _ _ h => h) (Or.inr ⟨by rfl, rfl⟩) (by assumption) ?_
  try simp only [List.getElem_toArray, List.getElem_cons_zero, List.getElem_cons_succ, Act.put, List.setIfInBounds_toArray, List.set_cons_zero, List.set_cons_succ]
  refine wpAnyH_take (i := 30) (oi := _) (v := undef) rfl (by kernel_rfl) (by kernel_rfl) (by kernel_rfl) (fun _ _ _ h => h) (Or.inr ⟨by rfl, rfl⟩) (by assumption) ?_
  try simp only [List.getElem_toArray, List.getElem_cons_zero, List.getElem_cons_succ, Act.put, List.setIfInBounds_toArray, List.set_cons_zero, List.set_cons_succ]
  refine wpAnyH_take (i := 31) (oi := _) (v := ?_) rfl (by kernel_rfl) (by kernel_rfl) (by kernel_rfl) (fun _ _ _ h => h) (Or.inl ⟨by rfl, ?_⟩) (by assumption) ?_
  rotate_left; (intro wS hSw; (try dsimp only at hSw); go_simp <;> with_reducible rfl)
  try simp only [List.getElem_toArray, List.getElem_cons_zero, List.getElem_cons_succ, Act.put, List.setIfInBounds_toArray, List.set_cons_zero, List.set_cons_succ]
  refine wpAnyH_take (i := 32) (oi := _) (v := ?_) rfl (by kernel_rfl) (by kernel_rfl) (by kernel_rfl) (fun _ _ _ h => h) (Or.inl ⟨by rfl, ?_⟩) (by assumption) ?_
  rotate_left; (intro wS hSw; (try dsimp only at hSw); go_simp <;> with_reducible rfl)
  try simp only [List.getElem_toArray, List.getElem_cons_zero, List.getElem_cons_succ, Act.put, List.setIfInBounds_toArray, List.set_cons_zero, List.set_cons_succ]
  refine wpAnyH_done (by kernel_rfl) ?_ _
  obtain ⟨e0, e1, e2, e3, e4, e5, e6, HBA⟩ := hHeld
  have hbf := below_ext HB.out HBA.out
  go_wp2
  go_ret
  exact ⟨rfl, hbf⟩

set_option maxHeartbeats 1600000 in
theorem formed_2 (P Q G : Int) (ba oa ca : Nat) (a0 C : Int) (pz : Option Addr) (nz cz : Nat) (z0 : Int) (hA : Hid (conG P Q G a0 = true)) (hC : Hid (expB Q C = false)) (hval : Hid (validG P Q G = true)) (hQ : Q < 9223372036854775808) (w : World) (hv : Hid (Vars w)) (ha : Hid (w.cell? ⟨ba, oa, none⟩ = some (.int .i64 a0))) :
    Calls Tryd.prog 92 #[gv P Q G, prv (some ⟨ba, oa, none⟩) 1 ca C pz nz cz] w fun e' w' => e' = .returned (.bool false) ∧ Below w.heap.size w w' := by
  obtain ⟨hp2, hp, hq3, hqp⟩ := validG_P hval.out
  obtain ⟨W, hW⟩ : ∃ W, (w.alloc (gObj P Q G)).alloc (prObj (some ⟨ba, oa, none⟩) 1 ca C pz nz cz) = W := ⟨_, rfl⟩
  have HB : Hid (Below w.heap.size w W) := Lib.hid (by rw [← hW]; exact below_two (Below.refl _ _))
  have HX : Hid (GBox W w.heap.size P Q G) := Lib.hid (by rw [← hW]; exact (gbox_alloc w P Q G).below (below_box0 _ _))
  have HP : Hid (PBox W (w.heap.size + 1) (.slice (some ⟨ba, oa, none⟩) 1 ca) (.int .i64 C) (.slice pz nz cz)) := Lib.hid (by rw [← hW]; exact pbox_alloc w _ _ _ _ _)
  have HA : Hid (W.cell? ⟨ba, oa, none⟩ = some (.int .i64 a0)) := Lib.hid (cell_below ha.out HB.out)
  have HS : Hid (∀ w1 w2 : World, Hid (Below W.heap.size W w1) → Below w1.heap.size w1 w2 → (w2.cell? ⟨w.heap.size, 0, none⟩ = some (.int .i64 P) ∧ w2.cell? ⟨w.heap.size, 1, none⟩ = some (.int .i64 Q) ∧ w2.cell? ⟨w.heap.size, 2, none⟩ = some (.int .i64 G) ∧ w2.cell? ⟨w.heap.size + 1, 0, none⟩ = some (.slice (some ⟨ba, oa, none⟩) 1 ca) ∧ w2.cell? ⟨w.heap.size + 1, 1, none⟩ = some (.int .i64 C) ∧ w2.cell? ⟨w.heap.size + 1, 2, none⟩ = some (.slice pz nz cz) ∧ w2.cell? ⟨ba, oa, none⟩ = some (.int .i64 a0) ∧ Hid (Below W.heap.size W w2))) :=
    Lib.hid (fun w1 w2 h1 h2 => have h3 := below_ext h1.out h2; ⟨(HX.out.below h3).1, (HX.out.below h3).2.1, (HX.out.below h3).2.2, (HP.out.below h3).1, (HP.out.below h3).2.1, (HP.out.below h3).2.2, cell_below HA.out h3, Lib.hid h3⟩)
  have HB0 : Hid (Below W.heap.size W W) := Lib.hid (Below.refl _ _)
  have HV : Hid (Vars W) := Lib.hid (hv.out.below HB.out)
  have HVS : Hid (∀ w1 : World, Hid (Below W.heap.size W w1) → Hid (Vars w1)) := Lib.hid (fun w1 h1 => Lib.hid (HV.out.below h1.out))
  have HW := Lib.hid hW
  clear hW
  go_enter Tryd.func92, Tryd.ntmps92
  go_wp2_with fail
  rw [HW.out]
  refine wp_region_held_drew (S := fun w' => w'.cell? ⟨w.heap.size, 0, none⟩ = some (.int .i64 P) ∧ w'.cell? ⟨w.heap.size, 1, none⟩ = some (.int .i64 Q) ∧ w'.cell? ⟨w.heap.size, 2, none⟩ = some (.int .i64 G) ∧ w'.cell? ⟨w.heap.size + 1, 0, none⟩ = some (.slice (some ⟨ba, oa, none⟩) 1 ca) ∧ w'.cell? ⟨w.heap.size + 1, 1, none⟩ = some (.int .i64 C) ∧ w'.cell? ⟨w.heap.size + 1, 2, none⟩ = some (.slice pz nz cz) ∧ w'.cell? ⟨ba, oa, none⟩ = some (.int .i64 a0) ∧ Hid (Below W.heap.size W w')) (by kernel_rfl) (HS.out _ _ HB0 ((Below.refl W.heap.size W).drew)) (fun hHeld => ?_)
  refine wpAnyH_take (i := 0) (oi := _) (v := ?_) rfl (by kernel_rfl) (by kernel_rfl) (by kernel_rfl) (fun _ _ _ h => h) (Or.inl ⟨by rfl, ?_⟩) (by assumption) ?_
  rotate_left; (intro wS hSw; (try dsimp only at hSw); go_simp <;> with_reducible rfl)
  try simp only [List.getElem_toArray, List.getElem_cons_zero, List.getElem_cons_succ, Act.put, List.setIfInBounds_toArray, List.set_cons_zero, List.set_cons_succ]
  refine wpAnyH_take (i := 1) (oi := _) (v := ?_) rfl (by kernel_rfl) (by kernel_rfl) (by kernel_rfl) (fun _ _ _ h => h) (Or.inl ⟨by rfl, ?_⟩) (by assumption) ?_
  rotate_left; (intro wS hSw; (try dsimp only at hSw); go_simp <;> with_reducible rfl)
  try simp only [List.getElem_toArray, List.getElem_cons_zero, List.getElem_cons_succ, Act.put, List.setIfInBounds_toArray, List.set_cons_zero, List.set_cons_succ]
  refine wpAnyH_take (i := 2) (oi := _) (v := ?_) rfl (by kernel_rfl) (by kernel_rfl) (by kernel_rfl) (fun _ _ _ h => h) (Or.inl ⟨by rfl, ?_⟩) (by assumption) ?_
  rotate_left; (intro wS hSw; (try dsimp only at hSw); go_simp <;> with_reducible rfl)
  try simp only [List.getElem_toArray, List.getElem_cons_zero, List.getElem_cons_succ, Act.put, List.setIfInBounds_toArray, List.set_cons_zero, List.set_cons_succ]
  refine wpAnyH_take (i := 3) (oi := _) (v := ?_) rfl (by kernel_rfl) (by kernel_rfl) (by kernel_rfl) (fun _ _ _ h => h) (Or.inl ⟨by rfl, ?_⟩) (by assumption) ?_
  rotate_left; (intro wS hSw; (try dsimp only at hSw); go_simp <;> with_reducible rfl)
  try simp only [List.getElem_toArray, List.getElem_cons_zero, List.getElem_cons_succ, Act.put, List.setIfInBounds_toArray, List.set_cons_zero, List.set_cons_succ]
  refine wpAnyH_take (i := 4) (oi := _) (v := ?_) rfl (by kernel_rfl) (by kernel_rfl) (by kernel_rfl) (fun _ _ _ h => h) (Or.inl ⟨by rfl, ?_⟩) (by assumption) ?_
  rotate_left; (intro wS hSw; (try dsimp only at hSw); go_simp <;> with_reducible rfl)
  try simp only [List.getElem_toArray, List.getElem_cons_zero, List.getElem_cons_succ, Act.put, List.setIfInBounds_toArray, List.set_cons_zero, List.set_cons_succ]
  refine wpAnyH_take (i := 5) (oi := _) (v := ?_) rfl (by kernel_rfl) (by kernel_rfl) (by kernel_rfl) (fun _ _ _ h => h) (Or.inl ⟨by rfl, ?_⟩) (by assumption) ?_
  rotate_left; (intro wS hSw; (try dsimp only at hSw); go_simp <;> with_reducible rfl)
  try simp only [List.getElem_toArray, List.getElem_cons_zero, List.getElem_cons_succ, Act.put, List.setIfInBounds_toArray, List.set_cons_zero, List.set_cons_succ]
  refine wpAnyH_take (i := 6) (oi := _) (v := ?_) rfl (by kernel_rfl) (by kernel_rfl) (by kernel_rfl) (fun _ _ _ h => h) (Or.inl ⟨by rfl, ?_⟩) (by assumption) ?_
  rotate_left; (intro wS hSw; (try dsimp only at hSw); go_simp <;> with_reducible rfl)
  try simp only [List.getElem_toArray, List.getElem_cons_zero, List.getElem_cons_succ, Act.put, List.setIfInBounds_toArray, List.set_cons_zero, List.set_cons_succ]
  refine wpAnyH_take (i := 7) (oi := _) (v := ?_) rfl (by kernel_rfl) (by kernel_rfl) (by kernel_rfl) (fun _ _ _ h => h) (Or.inl ⟨by rfl, ?_⟩) (by assumption) ?_
  rotate_left; (intro wS hSw; (try dsimp only at hSw); go_simp <;> with_reducible rfl)
  try simp only [List.getElem_toArray, List.getElem_cons_zero, List.getElem_cons_succ, Act.put, List.setIfInBounds_toArray, List.set_cons_zero, List.set_cons_succ]
  refine wpAnyH_take (i := 8) (oi := _) (v := ?_) rfl (by kernel_rfl) (by kernel_rfl) (by kernel_rfl) (fun _ _ _ h => h) (Or.inl ⟨by rfl, ?_⟩) (by assumption) ?_
  rotate_left; (intro wS hSw; (try dsimp only at hSw); go_simp <;> with_reducible rfl)
  try simp only [List.getElem_toArray, List.getElem_cons_zero, List.getElem_cons_succ, Act.put, List.setIfInBounds_toArray, List.set_cons_zero, List.set_cons_succ]
  refine wpAnyH_take (i := 9) (oi := _) (v := ?_) rfl (by kernel_rfl) (by kernel_rfl) (by kernel_rfl) (fun _ _ _ h => h) (Or.inl ⟨by rfl, ?_⟩) (by assumption) ?_
  rotate_left; (intro wS hSw; (try dsimp only at hSw); go_simp <;> with_reducible rfl)
  try simp only [List.getElem_toArray, List.getElem_cons_zero, List.getElem_cons_succ, Act.put, List.setIfInBounds_toArray, List.set_cons_zero, List.set_cons_succ]
  refine wpAnyH_ready (rs := [10]) (by kernel_rfl) (by simp) ?_
  refine AllReadyH.cons rfl (fun K hK => ?_) AllReadyH.nil
  go_simp
  (go_at_call 41; (refine (contains_any P Q G a0 true hA hQ _ ?_).mono ?_); rotate_left; rintro e wA ⟨rfl, hbA⟩; rotate_left; (go_split_ands; exact HVS.out _ (by assumption)))
  refine hK.out _ _ ?_ (fun hHeld => ?_)
  · (go_split_ands; exact HS.out _ _ (by assumption) hbA)
  clear hK K
  try simp only [List.getElem_toArray, List.getElem_cons_zero, List.getElem_cons_succ, Act.put, List.setIfInBounds_toArray, List.set_cons_zero, List.set_cons_succ]
  refine wpAnyH_take (i := 11) (oi := _) (v := ?_) rfl (by kernel_rfl) (by kernel_rfl) (by kernel_rfl) (fun _ _ _ h => h) (Or.inl ⟨by rfl, ?_⟩) (by assumption) ?_
  rotate_left; (intro wS hSw; (try dsimp only at hSw); go_simp <;> with_reducible rfl)
  try simp only [List.getElem_toArray, List.getElem_cons_zero, List.getElem_cons_succ, Act.put, List.setIfInBounds_toArray, List.set_cons_zero, List.set_cons_succ]
  refine wpAnyH_take (i := 12) (oi := _) (v := ?_) rfl (by kernel_rfl) (by kernel_rfl) (by kernel_rfl) (fun _ _ _ h => h) (Or.inl ⟨by rfl, ?_⟩) (by assumption) ?_
  rotate_left; (intro wS hSw; (try dsimp only at hSw); go_simp <;> with_reducible rfl)
  try simp only [List.getElem_toArray, List.getElem_cons_zero, List.getElem_cons_succ, Act.put, List.setIfInBounds_toArray, List.set_cons_zero, List.set_cons_succ]
  refine wpAnyH_take (i := 13) (oi := _) (v := ?_) rfl (by kernel_rfl) (by kernel_rfl) (by kernel_rfl) (fun _ _ _ h => h) (Or.inl ⟨by rfl, ?_⟩) (by assumption) ?_
  rotate_left; (intro wS hSw; (try dsimp only at hSw); go_simp <;> with_reducible rfl)
  try simp only [List.getElem_toArray, List.getElem_cons_zero, List.getElem_cons_succ, Act.put, List.setIfInBounds_toArray, List.set_cons_zero, List.set_cons_succ]
  refine wpAnyH_take (i := 14) (oi := _) (v := ?_) rfl (by kernel_rfl) (by kernel_rfl) (by kernel_rfl) (fun _ _ _ h => h) (Or.inl ⟨by rfl, ?_⟩) (by assumption) ?_
  rotate_left; (intro wS hSw; (try dsimp only at hSw); go_simp <;> with_reducible rfl)
  try simp only [List.getElem_toArray, List.getElem_cons_zero, List.getElem_cons_succ, Act.put, List.setIfInBounds_toArray, List.set_cons_zero, List.set_cons_succ]
  refine wpAnyH_take (i := 15) (oi := _) (v := ?_) rfl (by kernel_rfl) (by kernel_rfl) (by kernel_rfl) (fun _ _ _ h => h) (Or.inl ⟨by rfl, ?_⟩) (by assumption) ?_
  rotate_left; (intro wS hSw; (try dsimp only at hSw); go_simp <;> with_reducible rfl)
  try simp only [List.getElem_toArray, List.getElem_cons_zero, List.getElem_cons_succ, Act.put, List.setIfInBounds_toArray, List.set_cons_zero, List.set_cons_succ]
  refine wpAnyH_ready (rs := [16]) (by kernel_rfl) (by simp) ?_
  refine AllReadyH.cons rfl (fun K hK => ?_) AllReadyH.nil
  go_simp
  (go_at_call 90; (with_reducible refine (kexp_any P Q G C false hC _).mono ?_); rintro e wA ⟨rfl, hbA⟩)
  refine hK.out _ _ ?_ (fun hHeld => ?_)
  · (go_split_ands; exact HS.out _ _ (by assumption) hbA)
  clear hK K
  try simp only [List.getElem_toArray, List.getElem_cons_zero, List.getElem_cons_succ, Act.put, List.setIfInBounds_toArray, List.set_cons_zero, List.set_cons_succ]
  refine wpAnyH_take (i := 17) (oi := _) (v := ?_) rfl (by kernel_rfl) (by kernel_rfl) (by kernel_rfl) (fun _ _ _ h => h) (Or.inl ⟨by rfl, ?_⟩) (by assumption) ?_
  rotate_left; (intro wS hSw; (try dsimp only at hSw); go_simp <;> with_reducible rfl)
  try simp only [List.getElem_toArray, List.getElem_cons_zero, List.getElem_cons_succ, Act.put, List.setIfInBounds_toArray, List.set_cons_zero, List.set_cons_succ]
  refine wpAnyH_take (i := 18) (oi := _) (v := ?_) rfl (by kernel_rfl) (by kernel_rfl) (by kernel_rfl) (fun _ _ _ h => h) (Or.inl ⟨by rfl, ?_⟩) (by assumption) ?_
  rotate_left; (intro wS hSw; (try dsimp only at hSw); go_simp <;> with_reducible rfl)
  try simp only [List.getElem_toArray, List.getElem_cons_zero, List.getElem_cons_succ, Act.put, List.setIfInBounds_toArray, List.set_cons_zero, List.set_cons_succ]
  refine wpAnyH_take (i := 19) (oi := _) (v := undef) rfl (by kernel_rfl) (by kernel_rfl) (by kernel_rfl) (fun _ _ _ h => h) (Or.inr ⟨by rfl, rfl⟩) (by assumption) ?_
  try simp only [List.getElem_toArray, List.getElem_cons_zero, List.getElem_cons_succ, Act.put, List.setIfInBounds_toArray, List.set_cons_zero, List.set_cons_succ]
  refine wpAnyH_take (i := 20) (oi := _) (v := undef) rfl (by kernel_rfl) (by kernel_rfl) (by kernel_rfl) (fun _ _ _ h => h) (Or.inr ⟨by rfl, rfl⟩) (by assumption) ?_
  try simp only [List.getElem_toArray, List.getElem_cons_zero, List.getElem_cons_succ, Act.put, List.setIfInBounds_toArray, List.set_cons_zero, List.set_cons_succ]
  refine wpAnyH_take (i := 21) (oi := _) (v := undef) rfl (by kernel_rfl) (by kernel_rfl) (by kernel_rfl) (fun _ _ _ h => h) (Or.inr ⟨by rfl, rfl⟩) (by assumption) ?_
  try simp only [List.getElem_toArray, List.getElem_cons_zero, List.getElem_cons_succ, Act.put, List.setIfInBounds_toArray, List.set_cons_zero, List.set_cons_succ]
  refine wpAnyH_take (i := 22) (oi := _) (v := undef) rfl (by kernel_rfl) (by kernel_rfl) (by kernel_rfl) (fun _ _ _ h => h) (Or.inr ⟨by rfl, rfl⟩) (by assumption) ?_
  try simp only [List.getElem_toArray, List.getElem_cons_zero, List.getElem_cons_succ, Act.put, List.setIfInBounds_toArray, List.set_cons_zero, List.set_cons_succ]
  refine wpAnyH_take (i := 23) (oi := _) (v := ?_) rfl (by kernel_rfl) (by kernel_rfl) (by kernel_rfl) (fun _ _ _ h => h) (Or.inl ⟨by rfl, ?_⟩) (by assumption) ?_
  rotate_left; (intro wS hSw; (try dsimp only at hSw); go_simp <;> with_reducible rfl)
  try simp only [List.getElem_toArray, List.getElem_cons_zero, List.getElem_cons_succ, Act.put, List.setIfInBounds_toArray, List.set_cons_zero, List.set_cons_succ]
  refine wpAnyH_take (i := 24) (oi := _) (v := ?_) rfl (by kernel_rfl) (by kernel_rfl) (by kernel_rfl) (fun _ _ _ h => h) (Or.inl ⟨by rfl, ?_⟩) (by assumption) ?_
  rotate_left; (intro wS hSw; (try dsimp only at hSw); go_simp <;> with_reducible rfl)
  try simp only [List.getElem_toArray, List.getElem_cons_zero, List.getElem_cons_succ, Act.put, List.setIfInBounds_toArray, List.set_cons_zero, List.set_cons_succ]
  refine wpAnyH_take (i := 25) (oi := _) (v := undef) rfl (by kernel_rfl) (by kernel_rfl) (by kernel_rfl) (fun _ _ _ h => h) (Or.inr ⟨by rfl, rfl⟩) (by assumption) ?_
  try simp only [List.getElem_toArray, List.getElem_cons_zero, List.getElem_cons_succ, Act.put, List.setIfInBounds_toArray, List.set_cons_zero, List.set_cons_succ]
  refine wpAnyH_take (i := 26) (oi := _) (v := undef) rfl (by kernel_rfl) (by kernel_rfl) (by kernel_rfl) (fun _ _ _ h => h) (Or.inr ⟨by rfl, rfl⟩) (by assumption) ?_
  try simp only [List.getElem_toArray, List.getElem_cons_zero, List.getElem_cons_succ, Act.put, List.setIfInBounds_toArray, List.set_cons_zero, List.set_cons_succ]
  refine wpAnyH_take (i := 27) (oi := _) (v := undef) rfl (by kernel_rfl) (by kernel_rfl) (by kernel_rfl) (fun _ _ _ h => h) (Or.inr ⟨by rfl, rfl⟩) (by assumption) ?_
  try simp only [List.getElem_toArray, List.getElem_cons_zero, List.getElem_cons_succ, Act.put, List.setIfInBounds_toArray, List.set_cons_zero, List.set_cons_succ]
  refine wpAnyH_take (i := 28) (oi := _) (v := undef) rfl (by kernel_rfl) (by kernel_rfl) (by kernel_rfl) (fun _ _ _ h => h) (Or.inr ⟨by rfl, rfl⟩) (by assumption) ?_
  try simp only [List.getElem_toArray, List.getElem_cons_zero, List.getElem_cons_succ, Act.put, List.setIfInBounds_toArray, List.set_cons_zero, List.set_cons_succ]
  refine wpAnyH_take (i := 29) (oi := _) (v := undef) rfl (by kernel_rfl) (by kernel_rfl) (by kernel_rfl) (fun _ _ _ h => h) (Or.inr ⟨by rfl, rfl⟩) (by assumption) ?_
  try simp only [List.getElem_toArray, List.getElem_cons_zero, List.getElem_cons_succ, Act.put, List.setIfInBounds_toArray, List.set_cons_zero, List.set_cons_succ]
  refine wpAnyH_take (i := 30) (oi := _) (v := undef) rfl (by kernel_rfl) (by kernel_rfl) (by kernel_rfl) (fun _ _ _ h => h) (Or.inr ⟨by rfl, rfl⟩) (by assumption) ?_
  try simp only [List.getElem_toArray, List.getElem_cons_zero, List.getElem_cons_succ, Act.put, List.setIfInBounds_toArray, List.set_cons_zero, List.set_cons_succ]
  refine wpAnyH_take (i := 31) (oi := _) (v := ?_) rfl (by kernel_rfl) (by kernel_rfl) (by kernel_rfl) (fun _ _ _ h => h) (Or.inl ⟨by rfl, ?_⟩) (by assumption) ?_
  rotate_left; (intro wS hSw; (try dsimp only at hSw); go_simp <;> with_reducible rfl)
  try simp only [List.getElem_toArray, List.getElem_cons_zero, List.getElem_cons_succ, Act.put, List.setIfInBounds_toArray, List.set_cons_zero, List.set_cons_succ]
  refine wpAnyH_take (i := 32) (oi := _) (v := ?_) rfl (by kernel_rfl) (by kernel_rfl) (by kernel_rfl) (fun _ _ _ h => h) (Or.inl ⟨by rfl, ?_⟩) (by assumption) ?_
  rotate_left; (intro wS hSw; (try dsimp only at hSw); go_simp <;> with_reducible rfl)
  try simp only [List.getElem_toArray, List.getElem_cons_zero, List.getElem_cons_succ, Act.put, List.setIfInBounds_toArray, List.set_cons_zero, List.set_cons_succ]
  refine wpAnyH_done (by kernel_rfl) ?_ _
  obtain ⟨e0, e1, e2, e3, e4, e5, e6, HBA⟩ := hHeld
  have hbf := below_ext HB.out HBA.out
  go_wp2
  go_ret
  exact ⟨rfl, hbf⟩

set_option maxHeartbeats 1600000 in
theorem formed_3 (P Q G : Int) (ba oa ca : Nat) (a0 C : Int) (pz : Option Addr) (nz cz : Nat) (z0 : Int) (hnz : ((nz : Int) == 1) = false) (hA : Hid (conG P Q G a0 = true)) (hC : Hid (expB Q C = true)) (hval : Hid (validG P Q G = true)) (hQ : Q < 9223372036854775808) (w : World) (hv : Hid (Vars w)) (ha : Hid (w.cell? ⟨ba, oa, none⟩ = some (.int .i64 a0))) :
    Calls Tryd.prog 92 #[gv P Q G, prv (some ⟨ba, oa, none⟩) 1 ca C pz nz cz] w fun e' w' => e' = .returned (.bool false) ∧ Below w.heap.size w w' := by
  obtain ⟨hp2, hp, hq3, hqp⟩ := validG_P hval.out
  obtain ⟨W, hW⟩ : ∃ W, (w.alloc (gObj P Q G)).alloc (prObj (some ⟨ba, oa, none⟩) 1 ca C pz nz cz) = W := ⟨_, rfl⟩
  have HB : Hid (Below w.heap.size w W) := Lib.hid (by rw [← hW]; exact below_two (Below.refl _ _))
  have HX : Hid (GBox W w.heap.size P Q G) := Lib.hid (by rw [← hW]; exact (gbox_alloc w P Q G).below (below_box0 _ _))
  have HP : Hid (PBox W (w.heap.size + 1) (.slice (some ⟨ba, oa, none⟩) 1 ca) (.int .i64 C) (.slice pz nz cz)) := Lib.hid (by rw [← hW]; exact pbox_alloc w _ _ _ _ _)
  have HA : Hid (W.cell? ⟨ba, oa, none⟩ = some (.int .i64 a0)) := Lib.hid (cell_below ha.out HB.out)
  have HS : Hid (∀ w1 w2 : World, Hid (Below W.heap.size W w1) → Below w1.heap.size w1 w2 → (w2.cell? ⟨w.heap.size, 0, none⟩ = some (.int .i64 P) ∧ w2.cell? ⟨w.heap.size, 1, none⟩ = some (.int .i64 Q) ∧ w2.cell? ⟨w.heap.size, 2, none⟩ = some (.int .i64 G) ∧ w2.cell? ⟨w.heap.size + 1, 0, none⟩ = some (.slice (some ⟨ba, oa, none⟩) 1 ca) ∧ w2.cell? ⟨w.heap.size + 1, 1, none⟩ = some (.int .i64 C) ∧ w2.cell? ⟨w.heap.size + 1, 2, none⟩ = some (.slice pz nz cz) ∧ w2.cell? ⟨ba, oa, none⟩ = some (.int .i64 a0) ∧ Hid (Below W.heap.size W w2))) :=
    Lib.hid (fun w1 w2 h1 h2 => have h3 := below_ext h1.out h2; ⟨(HX.out.below h3).1, (HX.out.below h3).2.1, (HX.out.below h3).2.2, (HP.out.below h3).1, (HP.out.below h3).2.1, (HP.out.below h3).2.2, cell_below HA.out h3, Lib.hid h3⟩)
  have HB0 : Hid (Below W.heap.size W W) := Lib.hid (Below.refl _ _)
  have HV : Hid (Vars W) := Lib.hid (hv.out.below HB.out)
  have HVS : Hid (∀ w1 : World, Hid (Below W.heap.size W w1) → Hid (Vars w1)) := Lib.hid (fun w1 h1 => Lib.hid (HV.out.below h1.out))
  have HW := Lib.hid hW
  clear hW
  go_enter Tryd.func92, Tryd.ntmps92
  go_wp2_with fail
  rw [HW.out]
  refine wp_region_held_drew (S := fun w' => w'.cell? ⟨w.heap.size, 0, none⟩ = some (.int .i64 P) ∧ w'.cell? ⟨w.heap.size, 1, none⟩ = some (.int .i64 Q) ∧ w'.cell? ⟨w.heap.size, 2, none⟩ = some (.int .i64 G) ∧ w'.cell? ⟨w.heap.size + 1, 0, none⟩ = some (.slice (some ⟨ba, oa, none⟩) 1 ca) ∧ w'.cell? ⟨w.heap.size + 1, 1, none⟩ = some (.int .i64 C) ∧ w'.cell? ⟨w.heap.size + 1, 2, none⟩ = some (.slice pz nz cz) ∧ w'.cell? ⟨ba, oa, none⟩ = some (.int .i64 a0) ∧ Hid (Below W.heap.size W w')) (by kernel_rfl) (HS.out _ _ HB0 ((Below.refl W.heap.size W).drew)) (fun hHeld => ?_)
  refine wpAnyH_take (i := 0) (oi := _) (v := ?_) rfl (by kernel_rfl) (by kernel_rfl) (by kernel_rfl) (fun _ _ _ h => h) (Or.inl ⟨by rfl, ?_⟩) (by assumption) ?_
  rotate_left; (intro wS hSw; (try dsimp only at hSw); go_simp <;> with_reducible rfl)
  try simp only [List.getElem_toArray, List.getElem_cons_zero, List.getElem_cons_succ, Act.put, List.setIfInBounds_toArray, List.set_cons_zero, List.set_cons_succ]
  refine wpAnyH_take (i := 1) (oi := _) (v := ?_) rfl (by kernel_rfl) (by kernel_rfl) (by kernel_rfl) (fun _ _ _ h => h) (Or.inl ⟨by rfl, ?_⟩) (by assumption) ?_
  rotate_left; (intro wS hSw; (try dsimp only at hSw); go_simp <;> with_reducible rfl)
  try simp only [List.getElem_toArray, List.getElem_cons_zero, List.getElem_cons_succ, Act.put, List.setIfInBounds_toArray, List.set_cons_zero, List.set_cons_succ]
  refine wpAnyH_take (i := 2) (oi := _) (v := ?_) rfl (by kernel_rfl) (by kernel_rfl) (by kernel_rfl) (fun _ _ _ h => h) (Or.inl ⟨by rfl, ?_⟩) (by assumption) ?_
  rotate_left; (intro wS hSw; (try dsimp only at hSw); go_simp <;> with_reducible rfl)
  try simp only [List.getElem_toArray, List.getElem_cons_zero, List.getElem_cons_succ, Act.put, List.setIfInBounds_toArray, List.set_cons_zero, List.set_cons_succ]
  refine wpAnyH_take (i := 3) (oi := _) (v := ?_) rfl (by kernel_rfl) (by kernel_rfl) (by kernel_rfl) (fun _ _ _ h => h) (Or.inl ⟨by rfl, ?_⟩) (by assumption) ?_
  rotate_left; (intro wS hSw; (try dsimp only at hSw); go_simp <;> with_reducible rfl)
  try simp only [List.getElem_toArray, List.getElem_cons_zero, List.getElem_cons_succ, Act.put, List.setIfInBounds_toArray, List.set_cons_zero, List.set_cons_succ]
  refine wpAnyH_take (i := 4) (oi := _) (v := ?_) rfl (by kernel_rfl) (by kernel_rfl) (by kernel_rfl) (fun _ _ _ h => h) (Or.inl ⟨by rfl, ?_⟩) (by assumption) ?_
  rotate_left; (intro wS hSw; (try dsimp only at hSw); go_simp <;> with_reducible rfl)
  try simp only [List.getElem_toArray, List.getElem_cons_zero, List.getElem_cons_succ, Act.put, List.setIfInBounds_toArray, List.set_cons_zero, List.set_cons_succ]
  refine wpAnyH_take (i := 5) (oi := _) (v := ?_) rfl (by kernel_rfl) (by kernel_rfl) (by kernel_rfl) (fun _ _ _ h => h) (Or.inl ⟨by rfl, ?_⟩) (by assumption) ?_
  rotate_left; (intro wS hSw; (try dsimp only at hSw); go_simp <;> with_reducible rfl)
  try simp only [List.getElem_toArray, List.getElem_cons_zero, List.getElem_cons_succ, Act.put, List.setIfInBounds_toArray, List.set_cons_zero, List.set_cons_succ]
  refine wpAnyH_take (i := 6) (oi := _) (v := ?_) rfl (by kernel_rfl) (by kernel_rfl) (by kernel_rfl) (fun _ _ _ h => h) (Or.inl ⟨by rfl, ?_⟩) (by assumption) ?_
  rotate_left; (intro wS hSw; (try dsimp only at hSw); go_simp <;> with_reducible rfl)
  try simp only [List.getElem_toArray, List.getElem_cons_zero, List.getElem_cons_succ, Act.put, List.setIfInBounds_toArray, List.set_cons_zero, List.set_cons_succ]
  refine wpAnyH_take (i := 7) (oi := _) (v := ?_) rfl (by kernel_rfl) (by kernel_rfl) (by kernel_rfl) (fun _ _ _ h => h) (Or.inl ⟨by rfl, ?_⟩) (by assumption) ?_
  rotate_left; (intro wS hSw; (try dsimp only at hSw); go_simp <;> with_reducible rfl)
  try simp only [List.getElem_toArray, List.getElem_cons_zero, List.getElem_cons_succ, Act.put, List.setIfInBounds_toArray, List.set_cons_zero, List.set_cons_succ]
  refine wpAnyH_take (i := 8) (oi := _) (v := ?_) rfl (by kernel_rfl) (by kernel_rfl) (by kernel_rfl) (fun _ _ _ h => h) (Or.inl ⟨by rfl, ?_⟩) (by assumption) ?_
  rotate_left; (intro wS hSw; (try dsimp only at hSw); go_simp <;> with_reducible rfl)
  try simp only [List.getElem_toArray, List.getElem_cons_zero, List.getElem_cons_succ, Act.put, List.setIfInBounds_toArray, List.set_cons_zero, List.set_cons_succ]
  refine wpAnyH_take (i := 9) (oi := _) (v := ?_) rfl (by kernel_rfl) (by kernel_rfl) (by kernel_rfl) (fun _ _ _ h => h) (Or.inl ⟨by rfl, ?_⟩) (by assumption) ?_
  rotate_left; (intro wS hSw; (try dsimp only at hSw); go_simp <;> with_reducible rfl)
  try simp only [List.getElem_toArray, List.getElem_cons_zero, List.getElem_cons_succ, Act.put, List.setIfInBounds_toArray, List.set_cons_zero, List.set_cons_succ]
  refine wpAnyH_ready (rs := [10]) (by kernel_rfl) (by simp) ?_
  refine AllReadyH.cons rfl (fun K hK => ?_) AllReadyH.nil
  go_simp
  (go_at_call 41; (refine (contains_any P Q G a0 true hA hQ _ ?_).mono ?_); rotate_left; rintro e wA ⟨rfl, hbA⟩; rotate_left; (go_split_ands; exact HVS.out _ (by assumption)))
  refine hK.out _ _ ?_ (fun hHeld => ?_)
  · (go_split_ands; exact HS.out _ _ (by assumption) hbA)
  clear hK K
  try simp only [List.getElem_toArray, List.getElem_cons_zero, List.getElem_cons_succ, Act.put, List.setIfInBounds_toArray, List.set_cons_zero, List.set_cons_succ]
  refine wpAnyH_take (i := 11) (oi := _) (v := ?_) rfl (by kernel_rfl) (by kernel_rfl) (by kernel_rfl) (fun _ _ _ h => h) (Or.inl ⟨by rfl, ?_⟩) (by assumption) ?_
  rotate_left; (intro wS hSw; (try dsimp only at hSw); go_simp <;> with_reducible rfl)
  try simp only [List.getElem_toArray, List.getElem_cons_zero, List.getElem_cons_succ, Act.put, List.setIfInBounds_toArray, List.set_cons_zero, List.set_cons_succ]
  refine wpAnyH_take (i := 12) (oi := _) (v := ?_) rfl (by kernel_rfl) (by kernel_rfl) (by kernel_rfl) (fun _ _ _ h => h) (Or.inl ⟨by rfl, ?_⟩) (by assumption) ?_
  rotate_left; (intro wS hSw; (try dsimp only at hSw); go_simp <;> with_reducible rfl)
  try simp only [List.getElem_toArray, List.getElem_cons_zero, List.getElem_cons_succ, Act.put, List.setIfInBounds_toArray, List.set_cons_zero, List.set_cons_succ]
  refine wpAnyH_take (i := 13) (oi := _) (v := ?_) rfl (by kernel_rfl) (by kernel_rfl) (by kernel_rfl) (fun _ _ _ h => h) (Or.inl ⟨by rfl, ?_⟩) (by assumption) ?_
  rotate_left; (intro wS hSw; (try dsimp only at hSw); go_simp <;> with_reducible rfl)
  try simp only [List.getElem_toArray, List.getElem_cons_zero, List.getElem_cons_succ, Act.put, List.setIfInBounds_toArray, List.set_cons_zero, List.set_cons_succ]
  refine wpAnyH_take (i := 14) (oi := _) (v := ?_) rfl (by kernel_rfl) (by kernel_rfl) (by kernel_rfl) (fun _ _ _ h => h) (Or.inl ⟨by rfl, ?_⟩) (by assumption) ?_
  rotate_left; (intro wS hSw; (try dsimp only at hSw); go_simp <;> with_reducible rfl)
  try simp only [List.getElem_toArray, List.getElem_cons_zero, List.getElem_cons_succ, Act.put, List.setIfInBounds_toArray, List.set_cons_zero, List.set_cons_succ]
  refine wpAnyH_take (i := 15) (oi := _) (v := ?_) rfl (by kernel_rfl) (by kernel_rfl) (by kernel_rfl) (fun _ _ _ h => h) (Or.inl ⟨by rfl, ?_⟩) (by assumption) ?_
  rotate_left; (intro wS hSw; (try dsimp only at hSw); go_simp <;> with_reducible rfl)
  try simp only [List.getElem_toArray, List.getElem_cons_zero, List.getElem_cons_succ, Act.put, List.setIfInBounds_toArray, List.set_cons_zero, List.set_cons_succ]
  refine wpAnyH_ready (rs := [16]) (by kernel_rfl) (by simp) ?_
  refine AllReadyH.cons rfl (fun K hK => ?_) AllReadyH.nil
  go_simp
  (go_at_call 90; (with_reducible refine (kexp_any P Q G C true hC _).mono ?_); rintro e wA ⟨rfl, hbA⟩)
  refine hK.out _ _ ?_ (fun hHeld => ?_)
  · (go_split_ands; exact HS.out _ _ (by assumption) hbA)
  clear hK K
  try simp only [List.getElem_toArray, List.getElem_cons_zero, List.getElem_cons_succ, Act.put, List.setIfInBounds_toArray, List.set_cons_zero, List.set_cons_succ]
  refine wpAnyH_take (i := 17) (oi := _) (v := ?_) rfl (by kernel_rfl) (by kernel_rfl) (by kernel_rfl) (fun _ _ _ h => h) (Or.inl ⟨by rfl, ?_⟩) (by assumption) ?_
  rotate_left; (intro wS hSw; (try dsimp only at hSw); go_simp <;> with_reducible rfl)
  try simp only [List.getElem_toArray, List.getElem_cons_zero, List.getElem_cons_succ, Act.put, List.setIfInBounds_toArray, List.set_cons_zero, List.set_cons_succ]
  refine wpAnyH_take (i := 18) (oi := _) (v := ?_) rfl (by kernel_rfl) (by kernel_rfl) (by kernel_rfl) (fun _ _ _ h => h) (Or.inl ⟨by rfl, ?_⟩) (by assumption) ?_
  rotate_left; (intro wS hSw; (try dsimp only at hSw); go_simp <;> with_reducible rfl)
  try simp only [List.getElem_toArray, List.getElem_cons_zero, List.getElem_cons_succ, Act.put, List.setIfInBounds_toArray, List.set_cons_zero, List.set_cons_succ]
  refine wpAnyH_take (i := 19) (oi := _) (v := ?_) rfl (by kernel_rfl) (by kernel_rfl) (by kernel_rfl) (fun _ _ _ h => h) (Or.inl ⟨by rfl, ?_⟩) (by assumption) ?_
  rotate_left; (intro wS hSw; (try dsimp only at hSw); go_simp <;> with_reducible rfl)
  try simp only [List.getElem_toArray, List.getElem_cons_zero, List.getElem_cons_succ, Act.put, List.setIfInBounds_toArray, List.set_cons_zero, List.set_cons_succ]
  refine wpAnyH_take (i := 20) (oi := _) (v := ?_) rfl (by kernel_rfl) (by kernel_rfl) (by kernel_rfl) (fun _ _ _ h => h) (Or.inl ⟨by rfl, ?_⟩) (by assumption) ?_
  rotate_left; (intro wS hSw; (try dsimp only at hSw); go_simp <;> with_reducible rfl)
  try simp only [List.getElem_toArray, List.getElem_cons_zero, List.getElem_cons_succ, Act.put, List.setIfInBounds_toArray, List.set_cons_zero, List.set_cons_succ]
  refine wpAnyH_take (i := 21) (oi := _) (v := ?_) rfl (by kernel_rfl) (by kernel_rfl) (by kernel_rfl) (fun _ _ _ h => h) (Or.inl ⟨by rfl, ?_⟩) (by assumption) ?_
  rotate_left; (intro wS hSw; (try dsimp only at hSw); go_simp <;> with_reducible rfl)
  try simp only [List.getElem_toArray, List.getElem_cons_zero, List.getElem_cons_succ, Act.put, List.setIfInBounds_toArray, List.set_cons_zero, List.set_cons_succ]
  refine wpAnyH_take (i := 22) (oi := _) (v := ?_) rfl (by kernel_rfl) (by kernel_rfl) (by kernel_rfl) (fun _ _ _ h => h) (Or.inl ⟨by rfl, ?_⟩) (by assumption) ?_
  rotate_left; (intro wS hSw; (try dsimp only at hSw); go_simp <;> with_reducible rfl)
  try simp only [List.getElem_toArray, List.getElem_cons_zero, List.getElem_cons_succ, Act.put, List.setIfInBounds_toArray, List.set_cons_zero, List.set_cons_succ]
  refine wpAnyH_take (i := 23) (oi := _) (v := ?_) rfl (by kernel_rfl) (by kernel_rfl) (by kernel_rfl) (fun _ _ _ h => h) (Or.inl ⟨by rfl, ?_⟩) (by assumption) ?_
  rotate_left; (intro wS hSw; (try dsimp only at hSw); go_simp <;> with_reducible rfl)
  try simp only [List.getElem_toArray, List.getElem_cons_zero, List.getElem_cons_succ, Act.put, List.setIfInBounds_toArray, List.set_cons_zero, List.set_cons_succ]
  refine wpAnyH_take (i := 24) (oi := _) (v := ?_) rfl (by kernel_rfl) (by kernel_rfl) (by kernel_rfl) (fun _ _ _ h => h) (Or.inl ⟨by rfl, ?_⟩) (by assumption) ?_
  rotate_left; (intro wS hSw; (try dsimp only at hSw); go_simp <;> with_reducible rfl)
  try simp only [List.getElem_toArray, List.getElem_cons_zero, List.getElem_cons_succ, Act.put, List.setIfInBounds_toArray, List.set_cons_zero, List.set_cons_succ]
  refine wpAnyH_take (i := 25) (oi := _) (v := undef) rfl (by kernel_rfl) (by kernel_rfl) (by kernel_rfl) (fun _ _ _ h => h) (Or.inr ⟨by rfl, rfl⟩) (by assumption) ?_
  try simp only [List.getElem_toArray, List.getElem_cons_zero, List.getElem_cons_succ, Act.put, List.setIfInBounds_toArray, List.set_cons_zero, List.set_cons_succ]
  refine wpAnyH_take (i := 26) (oi := _) (v := undef) rfl (by kernel_rfl) (by kernel_rfl) (by kernel_rfl) (fun _ _ _ h => h) (Or.inr ⟨by rfl, rfl⟩) (by assumption) ?_
  try simp only [List.getElem_toArray, List.getElem_cons_zero, List.getElem_cons_succ, Act.put, List.setIfInBounds_toArray, List.set_cons_zero, List.set_cons_succ]
  refine wpAnyH_take (i := 27) (oi := _) (v := undef) rfl (by kernel_rfl) (by kernel_rfl) (by kernel_rfl) (fun _ _ _ h => h) (Or.inr ⟨by rfl, rfl⟩) (by assumption) ?_
  try simp only [List.getElem_toArray, List.getElem_cons_zero, List.getElem_cons_succ, Act.put, List.setIfInBounds_toArray, List.set_cons_zero, List.set_cons_succ]
  refine wpAnyH_take (i := 28) (oi := _) (v := undef) rfl (by kernel_rfl) (by kernel_rfl) (by kernel_rfl) (fun _ _ _ h => h) (Or.inr ⟨by rfl, rfl⟩) (by assumption) ?_
  try simp only [List.getElem_toArray, List.getElem_cons_zero, List.getElem_cons_succ, Act.put, List.setIfInBounds_toArray, List.set_cons_zero, List.set_cons_succ]
  refine wpAnyH_take (i := 29) (oi := _) (v := undef) rfl (by kernel_rfl) (by kernel_rfl) (by kernel_rfl) (fun _ _ _ h => h) (Or.inr ⟨by rfl, rfl⟩) (by assumption) ?_
  try simp only [List.getElem_toArray, List.getElem_cons_zero, List.getElem_cons_succ, Act.put, List.setIfInBounds_toArray, List.set_cons_zero, List.set_cons_succ]
  refine wpAnyH_take (i := 30) (oi := _) (v := undef) rfl (by kernel_rfl) (by kernel_rfl) (by kernel_rfl) (fun _ _ _ h => h) (Or.inr ⟨by rfl, rfl⟩) (by assumption) ?_
  try simp only [List.getElem_toArray, List.getElem_cons_zero, List.getElem_cons_succ, Act.put, List.setIfInBounds_toArray, List.set_cons_zero, List.set_cons_succ]
  refine wpAnyH_take (i := 31) (oi := _) (v := ?_) rfl (by kernel_rfl) (by kernel_rfl) (by kernel_rfl) (fun _ _ _ h => h) (Or.inl ⟨by rfl, ?_⟩) (by assumption) ?_
  rotate_left; (intro wS hSw; (try dsimp only at hSw); go_simp <;> with_reducible rfl)
  try simp only [List.getElem_toArray, List.getElem_cons_zero, List.getElem_cons_succ, Act.put, List.setIfInBounds_toArray, List.set_cons_zero, List.set_cons_succ]
  refine wpAnyH_take (i := 32) (oi := _) (v := ?_) rfl (by kernel_rfl) (by kernel_rfl) (by kernel_rfl) (fun _ _ _ h => h) (Or.inl ⟨by rfl, ?_⟩) (by assumption) ?_
  rotate_left; (intro wS hSw; (try dsimp only at hSw); go_simp <;> with_reducible rfl)
  try simp only [List.getElem_toArray, List.getElem_cons_zero, List.getElem_cons_succ, Act.put, List.setIfInBounds_toArray, List.set_cons_zero, List.set_cons_succ]
  refine wpAnyH_done (by kernel_rfl) ?_ _
  obtain ⟨e0, e1, e2, e3, e4, e5, e6, HBA⟩ := hHeld
  have hbf := below_ext HB.out HBA.out
  go_wp2
  go_ret
  exact ⟨rfl, hbf⟩

set_option maxHeartbeats 1600000 in
theorem formed_4 (P Q G : Int) (ba oa ca : Nat) (a0 C : Int) (bz oz cz : Nat) (z0 : Int) (hA : Hid (conG P Q G a0 = true)) (hC : Hid (expB Q C = true)) (hZ : Hid (expB Q z0 = false)) (hval : Hid (validG P Q G = true)) (hQ : Q < 9223372036854775808) (w : World) (hv : Hid (Vars w)) (ha : Hid (w.cell? ⟨ba, oa, none⟩ = some (.int .i64 a0))) (hz : Hid (w.cell? ⟨bz, oz, none⟩ = some (.int .i64 z0))) :
    Calls Tryd.prog 92 #[gv P Q G, prv (some ⟨ba, oa, none⟩) 1 ca C (some ⟨bz, oz, none⟩) 1 cz] w fun e' w' => e' = .returned (.bool false) ∧ Below w.heap.size w w' := by
  obtain ⟨hp2, hp, hq3, hqp⟩ := validG_P hval.out
  obtain ⟨W, hW⟩ : ∃ W, (w.alloc (gObj P Q G)).alloc (prObj (some ⟨ba, oa, none⟩) 1 ca C (some ⟨bz, oz, none⟩) 1 cz) = W := ⟨_, rfl⟩
  have HB : Hid (Below w.heap.size w W) := Lib.hid (by rw [← hW]; exact below_two (Below.refl _ _))
  have HX : Hid (GBox W w.heap.size P Q G) := Lib.hid (by rw [← hW]; exact (gbox_alloc w P Q G).below (below_box0 _ _))
  have HP : Hid (PBox W (w.heap.size + 1) (.slice (some ⟨ba, oa, none⟩) 1 ca) (.int .i64 C) (.slice (some ⟨bz, oz, none⟩) 1 cz)) := Lib.hid (by rw [← hW]; exact pbox_alloc w _ _ _ _ _)
  have HA : Hid (W.cell? ⟨ba, oa, none⟩ = some (.int .i64 a0)) := Lib.hid (cell_below ha.out HB.out)
  have HZ : Hid (W.cell? ⟨bz, oz, none⟩ = some (.int .i64 z0)) := Lib.hid (cell_below hz.out HB.out)
  have HS : Hid (∀ w1 w2 : World, Hid (Below W.heap.size W w1) → Below w1.heap.size w1 w2 → (w2.cell? ⟨w.heap.size, 0, none⟩ = some (.int .i64 P) ∧ w2.cell? ⟨w.heap.size, 1, none⟩ = some (.int .i64 Q) ∧ w2.cell? ⟨w.heap.size, 2, none⟩ = some (.int .i64 G) ∧ w2.cell? ⟨w.heap.size + 1, 0, none⟩ = some (.slice (some ⟨ba, oa, none⟩) 1 ca) ∧ w2.cell? ⟨w.heap.size + 1, 1, none⟩ = some (.int .i64 C) ∧ w2.cell? ⟨w.heap.size + 1, 2, none⟩ = some (.slice (some ⟨bz, oz, none⟩) 1 cz) ∧ w2.cell? ⟨ba, oa, none⟩ = some (.int .i64 a0) ∧ w2.cell? ⟨bz, oz, none⟩ = some (.int .i64 z0) ∧ Hid (Below W.heap.size W w2))) :=
    Lib.hid (fun w1 w2 h1 h2 => have h3 := below_ext h1.out h2; ⟨(HX.out.below h3).1, (HX.out.below h3).2.1, (HX.out.below h3).2.2, (HP.out.below h3).1, (HP.out.below h3).2.1, (HP.out.below h3).2.2, cell_below HA.out h3, cell_below HZ.out h3, Lib.hid h3⟩)
  have HB0 : Hid (Below W.heap.size W W) := Lib.hid (Below.refl _ _)
  have HV : Hid (Vars W) := Lib.hid (hv.out.below HB.out)
  have HVS : Hid (∀ w1 : World, Hid (Below W.heap.size W w1) → Hid (Vars w1)) := Lib.hid (fun w1 h1 => Lib.hid (HV.out.below h1.out))
  have HW := Lib.hid hW
  clear hW
  go_enter Tryd.func92, Tryd.ntmps92
  go_wp2_with fail
  rw [HW.out]
  go_region_held3 (fun w' => w'.cell? ⟨w.heap.size, 0, none⟩ = some (.int .i64 P) ∧ w'.cell? ⟨w.heap.size, 1, none⟩ = some (.int .i64 Q) ∧ w'.cell? ⟨w.heap.size, 2, none⟩ = some (.int .i64 G) ∧ w'.cell? ⟨w.heap.size + 1, 0, none⟩ = some (.slice (some ⟨ba, oa, none⟩) 1 ca) ∧ w'.cell? ⟨w.heap.size + 1, 1, none⟩ = some (.int .i64 C) ∧ w'.cell? ⟨w.heap.size + 1, 2, none⟩ = some (.slice (some ⟨bz, oz, none⟩) 1 cz) ∧ w'.cell? ⟨ba, oa, none⟩ = some (.int .i64 a0) ∧ w'.cell? ⟨bz, oz, none⟩ = some (.int .i64 z0) ∧ Hid (Below W.heap.size W w'))
    (first | exact HS.out _ _ HB0 ((Below.refl W.heap.size W).drew) | (go_split_ands; exact HS.out _ _ (by assumption) hbA) | go_keep)
    (first
      | (go_at_call 41; (refine (contains_any P Q G a0 true hA hQ _ ?_).mono ?_); rotate_left; rintro e wA ⟨rfl, hbA⟩; rotate_left; (go_split_ands; exact HVS.out _ (by assumption)))
      | (go_at_call 90; (with_reducible refine (kexp_any P Q G C true hC _).mono ?_); rintro e wA ⟨rfl, hbA⟩)
      | (go_at_call 90; (with_reducible refine (kexp_any P Q G z0 false hZ _).mono ?_); rintro e wA ⟨rfl, hbA⟩))
  rename_i hHeld
  obtain ⟨e0, e1, e2, e3, e4, e5, e6, e7, HBA⟩ := hHeld
  have hbf := below_ext HB.out HBA.out
  go_wp2
  go_ret
  exact ⟨rfl, hbf⟩

set_option maxHeartbeats 1600000 in
theorem formed_5 (P Q G : Int) (ba oa ca : Nat) (a0 C : Int) (bz oz cz : Nat) (z0 : Int) (hA : Hid (conG P Q G a0 = true)) (hC : Hid (expB Q C = true)) (hZ : Hid (expB Q z0 = true)) (hval : Hid (validG P Q G = true)) (hQ : Q < 9223372036854775808) (w : World) (hv : Hid (Vars w)) (ha : Hid (w.cell? ⟨ba, oa, none⟩ = some (.int .i64 a0))) (hz : Hid (w.cell? ⟨bz, oz, none⟩ = some (.int .i64 z0))) :
    Calls Tryd.prog 92 #[gv P Q G, prv (some ⟨ba, oa, none⟩) 1 ca C (some ⟨bz, oz, none⟩) 1 cz] w fun e' w' => e' = .returned (.bool true) ∧ Below w.heap.size w w' := by
  obtain ⟨hp2, hp, hq3, hqp⟩ := validG_P hval.out
  obtain ⟨W, hW⟩ : ∃ W, (w.alloc (gObj P Q G)).alloc (prObj (some ⟨ba, oa, none⟩) 1 ca C (some ⟨bz, oz, none⟩) 1 cz) = W := ⟨_, rfl⟩
  have HB : Hid (Below w.heap.size w W) := Lib.hid (by rw [← hW]; exact below_two (Below.refl _ _))
  have HX : Hid (GBox W w.heap.size P Q G) := Lib.hid (by rw [← hW]; exact (gbox_alloc w P Q G).below (below_box0 _ _))
  have HP : Hid (PBox W (w.heap.size + 1) (.slice (some ⟨ba, oa, none⟩) 1 ca) (.int .i64 C) (.slice (some ⟨bz, oz, none⟩) 1 cz)) := Lib.hid (by rw [← hW]; exact pbox_alloc w _ _ _ _ _)
  have HA : Hid (W.cell? ⟨ba, oa, none⟩ = some (.int .i64 a0)) := Lib.hid (cell_below ha.out HB.out)
  have HZ : Hid (W.cell? ⟨bz, oz, none⟩ = some (.int .i64 z0)) := Lib.hid (cell_below hz.out HB.out)
  have HS : Hid (∀ w1 w2 : World, Hid (Below W.heap.size W w1) → Below w1.heap.size w1 w2 → (w2.cell? ⟨w.heap.size, 0, none⟩ = some (.int .i64 P) ∧ w2.cell? ⟨w.heap.size, 1, none⟩ = some (.int .i64 Q) ∧ w2.cell? ⟨w.heap.size, 2, none⟩ = some (.int .i64 G) ∧ w2.cell? ⟨w.heap.size + 1, 0, none⟩ = some (.slice (some ⟨ba, oa, none⟩) 1 ca) ∧ w2.cell? ⟨w.heap.size + 1, 1, none⟩ = some (.int .i64 C) ∧ w2.cell? ⟨w.heap.size + 1, 2, none⟩ = some (.slice (some ⟨bz, oz, none⟩) 1 cz) ∧ w2.cell? ⟨ba, oa, none⟩ = some (.int .i64 a0) ∧ w2.cell? ⟨bz, oz, none⟩ = some (.int .i64 z0) ∧ Hid (Below W.heap.size W w2))) :=
    Lib.hid (fun w1 w2 h1 h2 => have h3 := below_ext h1.out h2; ⟨(HX.out.below h3).1, (HX.out.below h3).2.1, (HX.out.below h3).2.2, (HP.out.below h3).1, (HP.out.below h3).2.1, (HP.out.below h3).2.2, cell_below HA.out h3, cell_below HZ.out h3, Lib.hid h3⟩)
  have HB0 : Hid (Below W.heap.size W W) := Lib.hid (Below.refl _ _)
  have HV : Hid (Vars W) := Lib.hid (hv.out.below HB.out)
  have HVS : Hid (∀ w1 : World, Hid (Below W.heap.size W w1) → Hid (Vars w1)) := Lib.hid (fun w1 h1 => Lib.hid (HV.out.below h1.out))
  have HW := Lib.hid hW
  clear hW
  go_enter Tryd.func92, Tryd.ntmps92
  go_wp2_with fail
  rw [HW.out]
  go_region_held3 (fun w' => w'.cell? ⟨w.heap.size, 0, none⟩ = some (.int .i64 P) ∧ w'.cell? ⟨w.heap.size, 1, none⟩ = some (.int .i64 Q) ∧ w'.cell? ⟨w.heap.size, 2, none⟩ = some (.int .i64 G) ∧ w'.cell? ⟨w.heap.size + 1, 0, none⟩ = some (.slice (some ⟨ba, oa, none⟩) 1 ca) ∧ w'.cell? ⟨w.heap.size + 1, 1, none⟩ = some (.int .i64 C) ∧ w'.cell? ⟨w.heap.size + 1, 2, none⟩ = some (.slice (some ⟨bz, oz, none⟩) 1 cz) ∧ w'.cell? ⟨ba, oa, none⟩ = some (.int .i64 a0) ∧ w'.cell? ⟨bz, oz, none⟩ = some (.int .i64 z0) ∧ Hid (Below W.heap.size W w'))
    (first | exact HS.out _ _ HB0 ((Below.refl W.heap.size W).drew) | (go_split_ands; exact HS.out _ _ (by assumption) hbA) | go_keep)
    (first
      | (go_at_call 41; (refine (contains_any P Q G a0 true hA hQ _ ?_).mono ?_); rotate_left; rintro e wA ⟨rfl, hbA⟩; rotate_left; (go_split_ands; exact HVS.out _ (by assumption)))
      | (go_at_call 90; (with_reducible refine (kexp_any P Q G C true hC _).mono ?_); rintro e wA ⟨rfl, hbA⟩)
      | (go_at_call 90; (with_reducible refine (kexp_any P Q G z0 true hZ _).mono ?_); rintro e wA ⟨rfl, hbA⟩))
  rename_i hHeld
  obtain ⟨e0, e1, e2, e3, e4, e5, e6, e7, HBA⟩ := hHeld
  have hbf := below_ext HB.out HBA.out
  go_wp2
  go_ret
  exact ⟨rfl, hbf⟩

set_option maxHeartbeats 1600000 in
theorem rformed_0 (P Q G : Int) (pa : Option Addr) (na ca : Nat) (a0 C : Int) (pz : Option Addr) (nz cz : Nat) (z0 : Int) (hna : ((na : Int) == 1) = false) (hval : Hid (validG P Q G = true)) (hQ : Q < 9223372036854775808) (w : World) :
    Calls Tryd.prog 95 #[gv P Q G, prv pa na ca C pz nz cz] w fun e' w' => e' = .returned (.bool false) ∧ Below w.heap.size w w' := by
  have HP : Hid (PBox ((w.alloc (gObj P Q G)).alloc (prObj pa na ca C pz nz cz)) (w.heap.size + 1) (.slice pa na ca) (.int .i64 C) (.slice pz nz cz)) := Lib.hid (pbox_alloc w _ _ _ _ _)
  go_enter Tryd.func95, Tryd.ntmps95
  go_wp2_with fail
  go_quiet (fail)
  go_wp2
  go_ret
  exact ⟨rfl, below_drawN (below_two (Below.refl _ _)) _⟩

set_option maxHeartbeats 1600000 in
theorem rformed_1 (P Q G : Int) (ba oa ca : Nat) (a0 C : Int) (pz : Option Addr) (nz cz : Nat) (z0 : Int) (hnz : ((nz : Int) == 1) = false) (hval : Hid (validG P Q G = true)) (hQ : Q < 9223372036854775808) (w : World) (ha : Hid (w.cell? ⟨ba, oa, none⟩ = some (.int .i64 a0))) :
    Calls Tryd.prog 95 #[gv P Q G, prv (some ⟨ba, oa, none⟩) 1 ca C pz nz cz] w fun e' w' => e' = .returned (.bool false) ∧ Below w.heap.size w w' := by
  obtain ⟨W, hW⟩ : ∃ W, (w.alloc (gObj P Q G)).alloc (prObj (some ⟨ba, oa, none⟩) 1 ca C pz nz cz) = W := ⟨_, rfl⟩
  have HB : Hid (Below w.heap.size w W) := Lib.hid (by rw [← hW]; exact below_two (Below.refl _ _))
  have HX : Hid (GBox W w.heap.size P Q G) := Lib.hid (by rw [← hW]; exact (gbox_alloc w P Q G).below (below_box0 _ _))
  have HP : Hid (PBox W (w.heap.size + 1) (.slice (some ⟨ba, oa, none⟩) 1 ca) (.int .i64 C) (.slice pz nz cz)) := Lib.hid (by rw [← hW]; exact pbox_alloc w _ _ _ _ _)
  have HW := Lib.hid hW
  clear hW
  go_enter Tryd.func95, Tryd.ntmps95
  go_wp2_with fail
  rw [HW.out]
  obtain ⟨e0, e1, e2⟩ := HX.out
  obtain ⟨e3, e4, e5⟩ := HP.out
  go_quiet (fail)
  go_wp2
  go_ret
  exact ⟨rfl, below_drawN HB.out _⟩

set_option maxHeartbeats 1600000 in
theorem rformed_2 (P Q G : Int) (ba oa ca : Nat) (a0 C : Int) (bz oz cz : Nat) (z0 : Int) (hA : Hid (memG P Q a0 = false)) (hval : Hid (validG P Q G = true)) (hQ : Q < 9223372036854775808) (w : World) (ha : Hid (w.cell? ⟨ba, oa, none⟩ = some (.int .i64 a0))) (hz : Hid (w.cell? ⟨bz, oz, none⟩ = some (.int .i64 z0))) :
    Calls Tryd.prog 95 #[gv P Q G, prv (some ⟨ba, oa, none⟩) 1 ca C (some ⟨bz, oz, none⟩) 1 cz] w fun e' w' => e' = .returned (.bool false) ∧ Below w.heap.size w w' := by
  obtain ⟨hp2, hp, hq3, hqp⟩ := validG_P hval.out
  obtain ⟨W, hW⟩ : ∃ W, (w.alloc (gObj P Q G)).alloc (prObj (some ⟨ba, oa, none⟩) 1 ca C (some ⟨bz, oz, none⟩) 1 cz) = W := ⟨_, rfl⟩
  have HB : Hid (Below w.heap.size w W) := Lib.hid (by rw [← hW]; exact below_two (Below.refl _ _))
  have HX : Hid (GBox W w.heap.size P Q G) := Lib.hid (by rw [← hW]; exact (gbox_alloc w P Q G).below (below_box0 _ _))
  have HP : Hid (PBox W (w.heap.size + 1) (.slice (some ⟨ba, oa, none⟩) 1 ca) (.int .i64 C) (.slice (some ⟨bz, oz, none⟩) 1 cz)) := Lib.hid (by rw [← hW]; exact pbox_alloc w _ _ _ _ _)
  have HA : Hid (W.cell? ⟨ba, oa, none⟩ = some (.int .i64 a0)) := Lib.hid (cell_below ha.out HB.out)
  have HZ : Hid (W.cell? ⟨bz, oz, none⟩ = some (.int .i64 z0)) := Lib.hid (cell_below hz.out HB.out)
  have HS : Hid (∀ w1 w2 : World, Hid (Below W.heap.size W w1) → Below w1.heap.size w1 w2 → (w2.cell? ⟨w.heap.size, 0, none⟩ = some (.int .i64 P) ∧ w2.cell? ⟨w.heap.size, 1, none⟩ = some (.int .i64 Q) ∧ w2.cell? ⟨w.heap.size, 2, none⟩ = some (.int .i64 G) ∧ w2.cell? ⟨w.heap.size + 1, 0, none⟩ = some (.slice (some ⟨ba, oa, none⟩) 1 ca) ∧ w2.cell? ⟨w.heap.size + 1, 1, none⟩ = some (.int .i64 C) ∧ w2.cell? ⟨w.heap.size + 1, 2, none⟩ = some (.slice (some ⟨bz, oz, none⟩) 1 cz) ∧ w2.cell? ⟨ba, oa, none⟩ = some (.int .i64 a0) ∧ w2.cell? ⟨bz, oz, none⟩ = some (.int .i64 z0) ∧ Hid (Below W.heap.size W w2))) :=
    Lib.hid (fun w1 w2 h1 h2 => have h3 := below_ext h1.out h2; ⟨(HX.out.below h3).1, (HX.out.below h3).2.1, (HX.out.below h3).2.2, (HP.out.below h3).1, (HP.out.below h3).2.1, (HP.out.below h3).2.2, cell_below HA.out h3, cell_below HZ.out h3, Lib.hid h3⟩)
  have HB0 : Hid (Below W.heap.size W W) := Lib.hid (Below.refl _ _)
  have HW := Lib.hid hW
  clear hW
  go_enter Tryd.func95, Tryd.ntmps95
  go_wp2_with fail
  rw [HW.out]
  refine wp_region_held_drew (S := fun w' => w'.cell? ⟨w.heap.size, 0, none⟩ = some (.int .i64 P) ∧ w'.cell? ⟨w.heap.size, 1, none⟩ = some (.int .i64 Q) ∧ w'.cell? ⟨w.heap.size, 2, none⟩ = some (.int .i64 G) ∧ w'.cell? ⟨w.heap.size + 1, 0, none⟩ = some (.slice (some ⟨ba, oa, none⟩) 1 ca) ∧ w'.cell? ⟨w.heap.size + 1, 1, none⟩ = some (.int .i64 C) ∧ w'.cell? ⟨w.heap.size + 1, 2, none⟩ = some (.slice (some ⟨bz, oz, none⟩) 1 cz) ∧ w'.cell? ⟨ba, oa, none⟩ = some (.int .i64 a0) ∧ w'.cell? ⟨bz, oz, none⟩ = some (.int .i64 z0) ∧ Hid (Below W.heap.size W w')) (by kernel_rfl) (HS.out _ _ HB0 ((Below.refl W.heap.size W).drew)) (fun hHeld => ?_)
  refine wpAnyH_take (i := 0) (oi := _) (v := ?_) rfl (by kernel_rfl) (by kernel_rfl) (by kernel_rfl) (fun _ _ _ h => h) (Or.inl ⟨by rfl, ?_⟩) (by assumption) ?_
  rotate_left; (intro wS hSw; (try dsimp only at hSw); go_simp <;> with_reducible rfl)
  try simp only [List.getElem_toArray, List.getElem_cons_zero, List.getElem_cons_succ, Act.put, List.setIfInBounds_toArray, List.set_cons_zero, List.set_cons_succ]
  refine wpAnyH_take (i := 1) (oi := _) (v := ?_) rfl (by kernel_rfl) (by kernel_rfl) (by kernel_rfl) (fun _ _ _ h => h) (Or.inl ⟨by rfl, ?_⟩) (by assumption) ?_
  rotate_left; (intro wS hSw; (try dsimp only at hSw); go_simp <;> with_reducible rfl)
  try simp only [List.getElem_toArray, List.getElem_cons_zero, List.getElem_cons_succ, Act.put, List.setIfInBounds_toArray, List.set_cons_zero, List.set_cons_succ]
  refine wpAnyH_take (i := 2) (oi := _) (v := ?_) rfl (by kernel_rfl) (by kernel_rfl) (by kernel_rfl) (fun _ _ _ h => h) (Or.inl ⟨by rfl, ?_⟩) (by assumption) ?_
  rotate_left; (intro wS hSw; (try dsimp only at hSw); go_simp <;> with_reducible rfl)
  try simp only [List.getElem_toArray, List.getElem_cons_zero, List.getElem_cons_succ, Act.put, List.setIfInBounds_toArray, List.set_cons_zero, List.set_cons_succ]
  refine wpAnyH_take (i := 3) (oi := _) (v := ?_) rfl (by kernel_rfl) (by kernel_rfl) (by kernel_rfl) (fun _ _ _ h => h) (Or.inl ⟨by rfl, ?_⟩) (by assumption) ?_
  rotate_left; (intro wS hSw; (try dsimp only at hSw); go_simp <;> with_reducible rfl)
  try simp only [List.getElem_toArray, List.getElem_cons_zero, List.getElem_cons_succ, Act.put, List.setIfInBounds_toArray, List.set_cons_zero, List.set_cons_succ]
  refine wpAnyH_take (i := 4) (oi := _) (v := ?_) rfl (by kernel_rfl) (by kernel_rfl) (by kernel_rfl) (fun _ _ _ h => h) (Or.inl ⟨by rfl, ?_⟩) (by assumption) ?_
  rotate_left; (intro wS hSw; (try dsimp only at hSw); go_simp <;> with_reducible rfl)
  try simp only [List.getElem_toArray, List.getElem_cons_zero, List.getElem_cons_succ, Act.put, List.setIfInBounds_toArray, List.set_cons_zero, List.set_cons_succ]
  refine wpAnyH_take (i := 5) (oi := _) (v := ?_) rfl (by kernel_rfl) (by kernel_rfl) (by kernel_rfl) (fun _ _ _ h => h) (Or.inl ⟨by rfl, ?_⟩) (by assumption) ?_
  rotate_left; (intro wS hSw; (try dsimp only at hSw); go_simp <;> with_reducible rfl)
  try simp only [List.getElem_toArray, List.getElem_cons_zero, List.getElem_cons_succ, Act.put, List.setIfInBounds_toArray, List.set_cons_zero, List.set_cons_succ]
  refine wpAnyH_take (i := 6) (oi := _) (v := ?_) rfl (by kernel_rfl) (by kernel_rfl) (by kernel_rfl) (fun _ _ _ h => h) (Or.inl ⟨by rfl, ?_⟩) (by assumption) ?_
  rotate_left; (intro wS hSw; (try dsimp only at hSw); go_simp <;> with_reducible rfl)
  try simp only [List.getElem_toArray, List.getElem_cons_zero, List.getElem_cons_succ, Act.put, List.setIfInBounds_toArray, List.set_cons_zero, List.set_cons_succ]
  refine wpAnyH_take (i := 7) (oi := _) (v := ?_) rfl (by kernel_rfl) (by kernel_rfl) (by kernel_rfl) (fun _ _ _ h => h) (Or.inl ⟨by rfl, ?_⟩) (by assumption) ?_
  rotate_left; (intro wS hSw; (try dsimp only at hSw); go_simp <;> with_reducible rfl)
  try simp only [List.getElem_toArray, List.getElem_cons_zero, List.getElem_cons_succ, Act.put, List.setIfInBounds_toArray, List.set_cons_zero, List.set_cons_succ]
  refine wpAnyH_take (i := 8) (oi := _) (v := ?_) rfl (by kernel_rfl) (by kernel_rfl) (by kernel_rfl) (fun _ _ _ h => h) (Or.inl ⟨by rfl, ?_⟩) (by assumption) ?_
  rotate_left; (intro wS hSw; (try dsimp only at hSw); go_simp <;> with_reducible rfl)
  try simp only [List.getElem_toArray, List.getElem_cons_zero, List.getElem_cons_succ, Act.put, List.setIfInBounds_toArray, List.set_cons_zero, List.set_cons_succ]
  refine wpAnyH_take (i := 9) (oi := _) (v := ?_) rfl (by kernel_rfl) (by kernel_rfl) (by kernel_rfl) (fun _ _ _ h => h) (Or.inl ⟨by rfl, ?_⟩) (by assumption) ?_
  rotate_left; (intro wS hSw; (try dsimp only at hSw); go_simp <;> with_reducible rfl)
  try simp only [List.getElem_toArray, List.getElem_cons_zero, List.getElem_cons_succ, Act.put, List.setIfInBounds_toArray, List.set_cons_zero, List.set_cons_succ]
  refine wpAnyH_take (i := 10) (oi := _) (v := ?_) rfl (by kernel_rfl) (by kernel_rfl) (by kernel_rfl) (fun _ _ _ h => h) (Or.inl ⟨by rfl, ?_⟩) (by assumption) ?_
  rotate_left; (intro wS hSw; (try dsimp only at hSw); go_simp <;> with_reducible rfl)
  try simp only [List.getElem_toArray, List.getElem_cons_zero, List.getElem_cons_succ, Act.put, List.setIfInBounds_toArray, List.set_cons_zero, List.set_cons_succ]
  refine wpAnyH_take (i := 11) (oi := _) (v := ?_) rfl (by kernel_rfl) (by kernel_rfl) (by kernel_rfl) (fun _ _ _ h => h) (Or.inl ⟨by rfl, ?_⟩) (by assumption) ?_
  rotate_left; (intro wS hSw; (try dsimp only at hSw); go_simp <;> with_reducible rfl)
  try simp only [List.getElem_toArray, List.getElem_cons_zero, List.getElem_cons_succ, Act.put, List.setIfInBounds_toArray, List.set_cons_zero, List.set_cons_succ]
  refine wpAnyH_take (i := 12) (oi := _) (v := ?_) rfl (by kernel_rfl) (by kernel_rfl) (by kernel_rfl) (fun _ _ _ h => h) (Or.inl ⟨by rfl, ?_⟩) (by assumption) ?_
  rotate_left; (intro wS hSw; (try dsimp only at hSw); go_simp <;> with_reducible rfl)
  try simp only [List.getElem_toArray, List.getElem_cons_zero, List.getElem_cons_succ, Act.put, List.setIfInBounds_toArray, List.set_cons_zero, List.set_cons_succ]
  refine wpAnyH_take (i := 13) (oi := _) (v := ?_) rfl (by kernel_rfl) (by kernel_rfl) (by kernel_rfl) (fun _ _ _ h => h) (Or.inl ⟨by rfl, ?_⟩) (by assumption) ?_
  rotate_left; (intro wS hSw; (try dsimp only at hSw); go_simp <;> with_reducible rfl)
  try simp only [List.getElem_toArray, List.getElem_cons_zero, List.getElem_cons_succ, Act.put, List.setIfInBounds_toArray, List.set_cons_zero, List.set_cons_succ]
  refine wpAnyH_take (i := 14) (oi := _) (v := ?_) rfl (by kernel_rfl) (by kernel_rfl) (by kernel_rfl) (fun _ _ _ h => h) (Or.inl ⟨by rfl, ?_⟩) (by assumption) ?_
  rotate_left; (intro wS hSw; (try dsimp only at hSw); go_simp <;> with_reducible rfl)
  try simp only [List.getElem_toArray, List.getElem_cons_zero, List.getElem_cons_succ, Act.put, List.setIfInBounds_toArray, List.set_cons_zero, List.set_cons_succ]
  refine wpAnyH_take (i := 15) (oi := _) (v := ?_) rfl (by kernel_rfl) (by kernel_rfl) (by kernel_rfl) (fun _ _ _ h => h) (Or.inl ⟨by rfl, ?_⟩) (by assumption) ?_
  rotate_left; (intro wS hSw; (try dsimp only at hSw); go_simp <;> with_reducible rfl)
  try simp only [List.getElem_toArray, List.getElem_cons_zero, List.getElem_cons_succ, Act.put, List.setIfInBounds_toArray, List.set_cons_zero, List.set_cons_succ]
  refine wpAnyH_ready (rs := [16]) (by kernel_rfl) (by simp) ?_
  refine AllReadyH.cons rfl (fun K hK => ?_) AllReadyH.nil
  go_simp
  (go_at_call 45; (with_reducible refine (rmember_any P Q G a0 false hA hp (by omega) hQ _).mono ?_); rintro e wA ⟨rfl, hbA⟩)
  refine hK.out _ _ ?_ (fun hHeld => ?_)
  · (go_split_ands; exact HS.out _ _ (by assumption) hbA)
  clear hK K
  try simp only [List.getElem_toArray, List.getElem_cons_zero, List.getElem_cons_succ, Act.put, List.setIfInBounds_toArray, List.set_cons_zero, List.set_cons_succ]
  refine wpAnyH_take (i := 17) (oi := _) (v := ?_) rfl (by kernel_rfl) (by kernel_rfl) (by kernel_rfl) (fun _ _ _ h => h) (Or.inl ⟨by rfl, ?_⟩) (by assumption) ?_
  rotate_left; (intro wS hSw; (try dsimp only at hSw); go_simp <;> with_reducible rfl)
  try simp only [List.getElem_toArray, List.getElem_cons_zero, List.getElem_cons_succ, Act.put, List.setIfInBounds_toArray, List.set_cons_zero, List.set_cons_succ]
  refine wpAnyH_take (i := 18) (oi := _) (v := ?_) rfl (by kernel_rfl) (by kernel_rfl) (by kernel_rfl) (fun _ _ _ h => h) (Or.inl ⟨by rfl, ?_⟩) (by assumption) ?_
  rotate_left; (intro wS hSw; (try dsimp only at hSw); go_simp <;> with_reducible rfl)
  try simp only [List.getElem_toArray, List.getElem_cons_zero, List.getElem_cons_succ, Act.put, List.setIfInBounds_toArray, List.set_cons_zero, List.set_cons_succ]
  refine wpAnyH_take (i := 19) (oi := _) (v := undef) rfl (by kernel_rfl) (by kernel_rfl) (by kernel_rfl) (fun _ _ _ h => h) (Or.inr ⟨by rfl, rfl⟩) (by assumption) ?_
  try simp only [List.getElem_toArray, List.getElem_cons_zero, List.getElem_cons_succ, Act.put, List.setIfInBounds_toArray, List.set_cons_zero, List.set_cons_succ]
  refine wpAnyH_take (i := 20) (oi := _) (v := undef) rfl (by kernel_rfl) (by kernel_rfl) (by kernel_rfl) (fun _ _ _ h => h) (Or.inr ⟨by rfl, rfl⟩) (by assumption) ?_
  try simp only [List.getElem_toArray, List.getElem_cons_zero, List.getElem_cons_succ, Act.put, List.setIfInBounds_toArray, List.set_cons_zero, List.set_cons_succ]
  refine wpAnyH_take (i := 21) (oi := _) (v := undef) rfl (by kernel_rfl) (by kernel_rfl) (by kernel_rfl) (fun _ _ _ h => h) (Or.inr ⟨by rfl, rfl⟩) (by assumption) ?_
  try simp only [List.getElem_toArray, List.getElem_cons_zero, List.getElem_cons_succ, Act.put, List.setIfInBounds_toArray, List.set_cons_zero, List.set_cons_succ]
  refine wpAnyH_take (i := 22) (oi := _) (v := undef) rfl (by kernel_rfl) (by kernel_rfl) (by kernel_rfl) (fun _ _ _ h => h) (Or.inr ⟨by rfl, rfl⟩) (by assumption) ?_
  try simp only [List.getElem_toArray, List.getElem_cons_zero, List.getElem_cons_succ, Act.put, List.setIfInBounds_toArray, List.set_cons_zero, List.set_cons_succ]
  refine wpAnyH_take (i := 23) (oi := _) (v := ?_) rfl (by kernel_rfl) (by kernel_rfl) (by kernel_rfl) (fun _ _ _ h => h) (Or.inl ⟨by rfl, ?_⟩) (by assumption) ?_
  rotate_left; (intro wS hSw; (try dsimp only at hSw); go_simp <;> with_reducible rfl)
  try simp only [List.getElem_toArray, List.getElem_cons_zero, List.getElem_cons_succ, Act.put, List.setIfInBounds_toArray, List.set_cons_zero, List.set_cons_succ]
  refine wpAnyH_take (i := 24) (oi := _) (v := ?_) rfl (by kernel_rfl) (by kernel_rfl) (by kernel_rfl) (fun _ _ _ h => h) (Or.inl ⟨by rfl, ?_⟩) (by assumption) ?_
  rotate_left; (intro wS hSw; (try dsimp only at hSw); go_simp <;> with_reducible rfl)
  try simp only [List.getElem_toArray, List.getElem_cons_zero, List.getElem_cons_succ, Act.put, List.setIfInBounds_toArray, List.set_cons_zero, List.set_cons_succ]
  refine wpAnyH_take (i := 25) (oi := _) (v := undef) rfl (by kernel_rfl) (by kernel_rfl) (by kernel_rfl) (fun _ _ _ h => h) (Or.inr ⟨by rfl, rfl⟩) (by assumption) ?_
  try simp only [List.getElem_toArray, List.getElem_cons_zero, List.getElem_cons_succ, Act.put, List.setIfInBounds_toArray, List.set_cons_zero, List.set_cons_succ]
  refine wpAnyH_take (i := 26) (oi := _) (v := undef) rfl (by kernel_rfl) (by kernel_rfl) (by kernel_rfl) (fun _ _ _ h => h) (Or.inr ⟨by rfl, rfl⟩) (by assumption) ?_
  try simp only [List.getElem_toArray, List.getElem_cons_zero, List.getElem_cons_succ, Act.put, List.setIfInBounds_toArray, List.set_cons_zero, List.set_cons_succ]
  refine wpAnyH_take (i := 27) (oi := _) (v := undef) rfl (by kernel_rfl) (by kernel_rfl) (by kernel_rfl) (fun _ _ _ h => h) (Or.inr ⟨by rfl, rfl⟩) (by assumption) ?_
  try simp only [List.getElem_toArray, List.getElem_cons_zero, List.getElem_cons_succ, Act.put, List.setIfInBounds_toArray, List.set_cons_zero, List.set_cons_succ]
  refine wpAnyH_take (i := 28) (oi := _) (v := undef) rfl (by kernel_rfl) (by kernel_rfl) (by kernel_rfl) (fun _ _ _ h => h) (Or.inr ⟨by rfl, rfl⟩) (by assumption) ?_
  try simp only [List.getElem_toArray, List.getElem_cons_zero, List.getElem_cons_succ, Act.put, List.setIfInBounds_toArray, List.set_cons_zero, List.set_cons_succ]
  refine wpAnyH_take (i := 29) (oi := _) (v := undef) rfl (by kernel_rfl) (by kernel_rfl) (by kernel_rfl) (fun _ _ _ h => h) (Or.inr ⟨by rfl, rfl⟩) (by assumption) ?_
  try simp only [List.getElem_toArray, List.getElem_cons_zero, List.getElem_cons_succ, Act.put, List.setIfInBounds_toArray, List.set_cons_zero, List.set_cons_succ]
  refine wpAnyH_take (i := 30) (oi := _) (v := undef) rfl (by kernel_rfl) (by kernel_rfl) (by kernel_rfl) (fun _ _ _ h => h) (Or.inr ⟨by rfl, rfl⟩) (by assumption) ?_
  try simp only [List.getElem_toArray, List.getElem_cons_zero, List.getElem_cons_succ, Act.put, List.setIfInBounds_toArray, List.set_cons_zero, List.set_cons_succ]
  refine wpAnyH_take (i := 31) (oi := _) (v := ?_) rfl (by kernel_rfl) (by kernel_rfl) (by kernel_rfl) (fun _ _ _ h => h) (Or.inl ⟨by rfl, ?_⟩) (by assumption) ?_
  rotate_left; (intro wS hSw; (try dsimp only at hSw); go_simp <;> with_reducible rfl)
  try simp only [List.getElem_toArray, List.getElem_cons_zero, List.getElem_cons_succ, Act.put, List.setIfInBounds_toArray, List.set_cons_zero, List.set_cons_succ]
  refine wpAnyH_take (i := 32) (oi := _) (v := ?_) rfl (by kernel_rfl) (by kernel_rfl) (by kernel_rfl) (fun _ _ _ h => h) (Or.inl ⟨by rfl, ?_⟩) (by assumption) ?_
  rotate_left; (intro wS hSw; (try dsimp only at hSw); go_simp <;> with_reducible rfl)
  try simp only [List.getElem_toArray, List.getElem_cons_zero, List.getElem_cons_succ, Act.put, List.setIfInBounds_toArray, List.set_cons_zero, List.set_cons_succ]
  refine wpAnyH_done (by kernel_rfl) ?_ _
  obtain ⟨e0, e1, e2, e3, e4, e5, e6, e7, HBA⟩ := hHeld
  have hbf := below_ext HB.out HBA.out
  go_wp2
  go_ret
  exact ⟨rfl, hbf⟩

set_option maxHeartbeats 1600000 in
theorem rformed_3 (P Q G : Int) (ba oa ca : Nat) (a0 C : Int) (bz oz cz : Nat) (z0 : Int) (hA : Hid (memG P Q a0 = true)) (hC : Hid (expB Q C = false)) (hval : Hid (validG P Q G = true)) (hQ : Q < 9223372036854775808) (w : World) (ha : Hid (w.cell? ⟨ba, oa, none⟩ = some (.int .i64 a0))) (hz : Hid (w.cell? ⟨bz, oz, none⟩ = some (.int .i64 z0))) :
    Calls Tryd.prog 95 #[gv P Q G, prv (some ⟨ba, oa, none⟩) 1 ca C (some ⟨bz, oz, none⟩) 1 cz] w fun e' w' => e' = .returned (.bool false) ∧ Below w.heap.size w w' := by
  obtain ⟨hp2, hp, hq3, hqp⟩ := validG_P hval.out
  obtain ⟨W, hW⟩ : ∃ W, (w.alloc (gObj P Q G)).alloc (prObj (some ⟨ba, oa, none⟩) 1 ca C (some ⟨bz, oz, none⟩) 1 cz) = W := ⟨_, rfl⟩
  have HB : Hid (Below w.heap.size w W) := Lib.hid (by rw [← hW]; exact below_two (Below.refl _ _))
  have HX : Hid (GBox W w.heap.size P Q G) := Lib.hid (by rw [← hW]; exact (gbox_alloc w P Q G).below (below_box0 _ _))
  have HP : Hid (PBox W (w.heap.size + 1) (.slice (some ⟨ba, oa, none⟩) 1 ca) (.int .i64 C) (.slice (some ⟨bz, oz, none⟩) 1 cz)) := Lib.hid (by rw [← hW]; exact pbox_alloc w _ _ _ _ _)
  have HA : Hid (W.cell? ⟨ba, oa, none⟩ = some (.int .i64 a0)) := Lib.hid (cell_below ha.out HB.out)
  have HZ : Hid (W.cell? ⟨bz, oz, none⟩ = some (.int .i64 z0)) := Lib.hid (cell_below hz.out HB.out)
  have HS : Hid (∀ w1 w2 : World, Hid (Below W.heap.size W w1) → Below w1.heap.size w1 w2 → (w2.cell? ⟨w.heap.size, 0, none⟩ = some (.int .i64 P) ∧ w2.cell? ⟨w.heap.size, 1, none⟩ = some (.int .i64 Q) ∧ w2.cell? ⟨w.heap.size, 2, none⟩ = some (.int .i64 G) ∧ w2.cell? ⟨w.heap.size + 1, 0, none⟩ = some (.slice (some ⟨ba, oa, none⟩) 1 ca) ∧ w2.cell? ⟨w.heap.size + 1, 1, none⟩ = some (.int .i64 C) ∧ w2.cell? ⟨w.heap.size + 1, 2, none⟩ = some (.slice (some ⟨bz, oz, none⟩) 1 cz) ∧ w2.cell? ⟨ba, oa, none⟩ = some (.int .i64 a0) ∧ w2.cell? ⟨bz, oz, none⟩ = some (.int .i64 z0) ∧ Hid (Below W.heap.size W w2))) :=
    Lib.hid (fun w1 w2 h1 h2 => have h3 := below_ext h1.out h2; ⟨(HX.out.below h3).1, (HX.out.below h3).2.1, (HX.out.below h3).2.2, (HP.out.below h3).1, (HP.out.below h3).2.1, (HP.out.below h3).2.2, cell_below HA.out h3, cell_below HZ.out h3, Lib.hid h3⟩)
  have HB0 : Hid (Below W.heap.size W W) := Lib.hid (Below.refl _ _)
  have HW := Lib.hid hW
  clear hW
  go_enter Tryd.func95, Tryd.ntmps95
  go_wp2_with fail
  rw [HW.out]
  refine wp_region_held_drew (S := fun w' => w'.cell? ⟨w.heap.size, 0, none⟩ = some (.int .i64 P) ∧ w'.cell? ⟨w.heap.size, 1, none⟩ = some (.int .i64 Q) ∧ w'.cell? ⟨w.heap.size, 2, none⟩ = some (.int .i64 G) ∧ w'.cell? ⟨w.heap.size + 1, 0, none⟩ = some (.slice (some ⟨ba, oa, none⟩) 1 ca) ∧ w'.cell? ⟨w.heap.size + 1, 1, none⟩ = some (.int .i64 C) ∧ w'.cell? ⟨w.heap.size + 1, 2, none⟩ = some (.slice (some ⟨bz, oz, none⟩) 1 cz) ∧ w'.cell? ⟨ba, oa, none⟩ = some (.int .i64 a0) ∧ w'.cell? ⟨bz, oz, none⟩ = some (.int .i64 z0) ∧ Hid (Below W.heap.size W w')) (by kernel_rfl) (HS.out _ _ HB0 ((Below.refl W.heap.size W).drew)) (fun hHeld => ?_)
  refine wpAnyH_take (i := 0) (oi := _) (v := ?_) rfl (by kernel_rfl) (by kernel_rfl) (by kernel_rfl) (fun _ _ _ h => h) (Or.inl ⟨by rfl, ?_⟩) (by assumption) ?_
  rotate_left; (intro wS hSw; (try dsimp only at hSw); go_simp <;> with_reducible rfl)
  try simp only [List.getElem_toArray, List.getElem_cons_zero, List.getElem_cons_succ, Act.put, List.setIfInBounds_toArray, List.set_cons_zero, List.set_cons_succ]
  refine wpAnyH_take (i := 1) (oi := _) (v := ?_) rfl (by kernel_rfl) (by kernel_rfl) (by kernel_rfl) (fun _ _ _ h => h) (Or.inl ⟨by rfl, ?_⟩) (by assumption) ?_
  rotate_left; (intro wS hSw; (try dsimp only at hSw); go_simp <;> with_reducible rfl)
  try simp only [List.getElem_toArray, List.getElem_cons_zero, List.getElem_cons_succ, Act.put, List.setIfInBounds_toArray, List.set_cons_zero, List.set_cons_succ]
  refine wpAnyH_take (i := 2) (oi := _) (v := ?_) rfl (by kernel_rfl) (by kernel_rfl) (by kernel_rfl) (fun _ _ _ h => h) (Or.inl ⟨by rfl, ?_⟩) (by assumption) ?_
  rotate_left; (intro wS hSw; (try dsimp only at hSw); go_simp <;> with_reducible rfl)
  try simp only [List.getElem_toArray, List.getElem_cons_zero, List.getElem_cons_succ, Act.put, List.setIfInBounds_toArray, List.set_cons_zero, List.set_cons_succ]
  refine wpAnyH_take (i := 3) (oi := _) (v := ?_) rfl (by kernel_rfl) (by kernel_rfl) (by kernel_rfl) (fun _ _ _ h => h) (Or.inl ⟨by rfl, ?_⟩) (by assumption) ?_
  rotate_left; (intro wS hSw; (try dsimp only at hSw); go_simp <;> with_reducible rfl)
  try simp only [List.getElem_toArray, List.getElem_cons_zero, List.getElem_cons_succ, Act.put, List.setIfInBounds_toArray, List.set_cons_zero, List.set_cons_succ]
  refine wpAnyH_take (i := 4) (oi := _) (v := ?_) rfl (by kernel_rfl) (by kernel_rfl) (by kernel_rfl) (fun _ _ _ h => h) (Or.inl ⟨by rfl, ?_⟩) (by assumption) ?_
  rotate_left; (intro wS hSw; (try dsimp only at hSw); go_simp <;> with_reducible rfl)
  try simp only [List.getElem_toArray, List.getElem_cons_zero, List.getElem_cons_succ, Act.put, List.setIfInBounds_toArray, List.set_cons_zero, List.set_cons_succ]
  refine wpAnyH_take (i := 5) (oi := _) (v := ?_) rfl (by kernel_rfl) (by kernel_rfl) (by kernel_rfl) (fun _ _ _ h => h) (Or.inl ⟨by rfl, ?_⟩) (by assumption) ?_
  rotate_left; (intro wS hSw; (try dsimp only at hSw); go_simp <;> with_reducible rfl)
  try simp only [List.getElem_toArray, List.getElem_cons_zero, List.getElem_cons_succ, Act.put, List.setIfInBounds_toArray, List.set_cons_zero, List.set_cons_succ]
  refine wpAnyH_take (i := 6) (oi := _) (v := ?_) rfl (by kernel_rfl) (by kernel_rfl) (by kernel_rfl) (fun _ _ _ h => h) (Or.inl ⟨by rfl, ?_⟩) (by assumption) ?_
  rotate_left; (intro wS hSw; (try dsimp only at hSw); go_simp <;> with_reducible rfl)
  try simp only [List.getElem_toArray, List.getElem_cons_zero, List.getElem_cons_succ, Act.put, List.setIfInBounds_toArray, List.set_cons_zero, List.set_cons_succ]
  refine wpAnyH_take (i := 7) (oi := _) (v := ?_) rfl (by kernel_rfl) (by kernel_rfl) (by kernel_rfl) (fun _ _ _ h => h) (Or.inl ⟨by rfl, ?_⟩) (by assumption) ?_
  rotate_left; (intro wS hSw; (try dsimp only at hSw); go_simp <;> with_reducible rfl)
  try simp only [List.getElem_toArray, List.getElem_cons_zero, List.getElem_cons_succ, Act.put, List.setIfInBounds_toArray, List.set_cons_zero, List.set_cons_succ]
  refine wpAnyH_take (i := 8) (oi := _) (v := ?_) rfl (by kernel_rfl) (by kernel_rfl) (by kernel_rfl) (fun _ _ _ h => h) (Or.inl ⟨by rfl, ?_⟩) (by assumption) ?_
  rotate_left; (intro wS hSw; (try dsimp only at hSw); go_simp <;> with_reducible rfl)
  try simp only [List.getElem_toArray, List.getElem_cons_zero, List.getElem_cons_succ, Act.put, List.setIfInBounds_toArray, List.set_cons_zero, List.set_cons_succ]
  refine wpAnyH_take (i := 9) (oi := _) (v := ?_) rfl (by kernel_rfl) (by kernel_rfl) (by kernel_rfl) (fun _ _ _ h => h) (Or.inl ⟨by rfl, ?_⟩) (by assumption) ?_
  rotate_left; (intro wS hSw; (try dsimp only at hSw); go_simp <;> with_reducible rfl)
  try simp only [List.getElem_toArray, List.getElem_cons_zero, List.getElem_cons_succ, Act.put, List.setIfInBounds_toArray, List.set_cons_zero, List.set_cons_succ]
  refine wpAnyH_take (i := 10) (oi := _) (v := ?_) rfl (by kernel_rfl) (by kernel_rfl) (by kernel_rfl) (fun _ _ _ h => h) (Or.inl ⟨by rfl, ?_⟩) (by assumption) ?_
  rotate_left; (intro wS hSw; (try dsimp only at hSw); go_simp <;> with_reducible rfl)
  try simp only [List.getElem_toArray, List.getElem_cons_zero, List.getElem_cons_succ, Act.put, List.setIfInBounds_toArray, List.set_cons_zero, List.set_cons_succ]
  refine wpAnyH_take (i := 11) (oi := _) (v := ?_) rfl (by kernel_rfl) (by kernel_rfl) (by kernel_rfl) (fun _ _ _ h => h) (Or.inl ⟨by rfl, ?_⟩) (by assumption) ?_
  rotate_left; (intro wS hSw; (try dsimp only at hSw); go_simp <;> with_reducible rfl)
  try simp only [List.getElem_toArray, List.getElem_cons_zero, List.getElem_cons_succ, Act.put, List.setIfInBounds_toArray, List.set_cons_zero, List.set_cons_succ]
  refine wpAnyH_take (i := 12) (oi := _) (v := ?_) rfl (by kernel_rfl) (by kernel_rfl) (by kernel_rfl) (fun _ _ _ h => h) (Or.inl ⟨by rfl, ?_⟩) (by assumption) ?_
  rotate_left; (intro wS hSw; (try dsimp only at hSw); go_simp <;> with_reducible rfl)
  try simp only [List.getElem_toArray, List.getElem_cons_zero, List.getElem_cons_succ, Act.put, List.setIfInBounds_toArray, List.set_cons_zero, List.set_cons_succ]
  refine wpAnyH_take (i := 13) (oi := _) (v := ?_) rfl (by kernel_rfl) (by kernel_rfl) (by kernel_rfl) (fun _ _ _ h => h) (Or.inl ⟨by rfl, ?_⟩) (by assumption) ?_
  rotate_left; (intro wS hSw; (try dsimp only at hSw); go_simp <;> with_reducible rfl)
  try simp only [List.getElem_toArray, List.getElem_cons_zero, List.getElem_cons_succ, Act.put, List.setIfInBounds_toArray, List.set_cons_zero, List.set_cons_succ]
  refine wpAnyH_take (i := 14) (oi := _) (v := ?_) rfl (by kernel_rfl) (by kernel_rfl) (by kernel_rfl) (fun _ _ _ h => h) (Or.inl ⟨by rfl, ?_⟩) (by assumption) ?_
  rotate_left; (intro wS hSw; (try dsimp only at hSw); go_simp <;> with_reducible rfl)
  try simp only [List.getElem_toArray, List.getElem_cons_zero, List.getElem_cons_succ, Act.put, List.setIfInBounds_toArray, List.set_cons_zero, List.set_cons_succ]
  refine wpAnyH_take (i := 15) (oi := _) (v := ?_) rfl (by kernel_rfl) (by kernel_rfl) (by kernel_rfl) (fun _ _ _ h => h) (Or.inl ⟨by rfl, ?_⟩) (by assumption) ?_
  rotate_left; (intro wS hSw; (try dsimp only at hSw); go_simp <;> with_reducible rfl)
  try simp only [List.getElem_toArray, List.getElem_cons_zero, List.getElem_cons_succ, Act.put, List.setIfInBounds_toArray, List.set_cons_zero, List.set_cons_succ]
  refine wpAnyH_ready (rs := [16]) (by kernel_rfl) (by simp) ?_
  refine AllReadyH.cons rfl (fun K hK => ?_) AllReadyH.nil
  go_simp
  (go_at_call 45; (with_reducible refine (rmember_any P Q G a0 true hA hp (by omega) hQ _).mono ?_); rintro e wA ⟨rfl, hbA⟩)
  refine hK.out _ _ ?_ (fun hHeld => ?_)
  · (go_split_ands; exact HS.out _ _ (by assumption) hbA)
  clear hK K
  try simp only [List.getElem_toArray, List.getElem_cons_zero, List.getElem_cons_succ, Act.put, List.setIfInBounds_toArray, List.set_cons_zero, List.set_cons_succ]
  refine wpAnyH_take (i := 17) (oi := _) (v := ?_) rfl (by kernel_rfl) (by kernel_rfl) (by kernel_rfl) (fun _ _ _ h => h) (Or.inl ⟨by rfl, ?_⟩) (by assumption) ?_
  rotate_left; (intro wS hSw; (try dsimp only at hSw); go_simp <;> with_reducible rfl)
  try simp only [List.getElem_toArray, List.getElem_cons_zero, List.getElem_cons_succ, Act.put, List.setIfInBounds_toArray, List.set_cons_zero, List.set_cons_succ]
  refine wpAnyH_take (i := 18) (oi := _) (v := ?_) rfl (by kernel_rfl) (by kernel_rfl) (by kernel_rfl) (fun _ _ _ h => h) (Or.inl ⟨by rfl, ?_⟩) (by assumption) ?_
  rotate_left; (intro wS hSw; (try dsimp only at hSw); go_simp <;> with_reducible rfl)
  try simp only [List.getElem_toArray, List.getElem_cons_zero, List.getElem_cons_succ, Act.put, List.setIfInBounds_toArray, List.set_cons_zero, List.set_cons_succ]
  refine wpAnyH_take (i := 19) (oi := _) (v := ?_) rfl (by kernel_rfl) (by kernel_rfl) (by kernel_rfl) (fun _ _ _ h => h) (Or.inl ⟨by rfl, ?_⟩) (by assumption) ?_
  rotate_left; (intro wS hSw; (try dsimp only at hSw); go_simp <;> with_reducible rfl)
  try simp only [List.getElem_toArray, List.getElem_cons_zero, List.getElem_cons_succ, Act.put, List.setIfInBounds_toArray, List.set_cons_zero, List.set_cons_succ]
  refine wpAnyH_take (i := 20) (oi := _) (v := ?_) rfl (by kernel_rfl) (by kernel_rfl) (by kernel_rfl) (fun _ _ _ h => h) (Or.inl ⟨by rfl, ?_⟩) (by assumption) ?_
  rotate_left; (intro wS hSw; (try dsimp only at hSw); go_simp <;> with_reducible rfl)
  try simp only [List.getElem_toArray, List.getElem_cons_zero, List.getElem_cons_succ, Act.put, List.setIfInBounds_toArray, List.set_cons_zero, List.set_cons_succ]
  refine wpAnyH_take (i := 21) (oi := _) (v := ?_) rfl (by kernel_rfl) (by kernel_rfl) (by kernel_rfl) (fun _ _ _ h => h) (Or.inl ⟨by rfl, ?_⟩) (by assumption) ?_
  rotate_left; (intro wS hSw; (try dsimp only at hSw); go_simp <;> with_reducible rfl)
  try simp only [List.getElem_toArray, List.getElem_cons_zero, List.getElem_cons_succ, Act.put, List.setIfInBounds_toArray, List.set_cons_zero, List.set_cons_succ]
  refine wpAnyH_ready (rs := [22]) (by kernel_rfl) (by simp) ?_
  refine AllReadyH.cons rfl (fun K hK => ?_) AllReadyH.nil
  go_simp
  (go_at_call 105; (with_reducible refine (rexp_any P Q G C false hC _).mono ?_); rintro e wA ⟨rfl, hbA⟩)
  refine hK.out _ _ ?_ (fun hHeld => ?_)
  · (go_split_ands; exact HS.out _ _ (by assumption) hbA)
  clear hK K
  try simp only [List.getElem_toArray, List.getElem_cons_zero, List.getElem_cons_succ, Act.put, List.setIfInBounds_toArray, List.set_cons_zero, List.set_cons_succ]
  refine wpAnyH_take (i := 23) (oi := _) (v := ?_) rfl (by kernel_rfl) (by kernel_rfl) (by kernel_rfl) (fun _ _ _ h => h) (Or.inl ⟨by rfl, ?_⟩) (by assumption) ?_
  rotate_left; (intro wS hSw; (try dsimp only at hSw); go_simp <;> with_reducible rfl)
  try simp only [List.getElem_toArray, List.getElem_cons_zero, List.getElem_cons_succ, Act.put, List.setIfInBounds_toArray, List.set_cons_zero, List.set_cons_succ]
  refine wpAnyH_take (i := 24) (oi := _) (v := ?_) rfl (by kernel_rfl) (by kernel_rfl) (by kernel_rfl) (fun _ _ _ h => h) (Or.inl ⟨by rfl, ?_⟩) (by assumption) ?_
  rotate_left; (intro wS hSw; (try dsimp only at hSw); go_simp <;> with_reducible rfl)
  try simp only [List.getElem_toArray, List.getElem_cons_zero, List.getElem_cons_succ, Act.put, List.setIfInBounds_toArray, List.set_cons_zero, List.set_cons_succ]
  refine wpAnyH_take (i := 25) (oi := _) (v := undef) rfl (by kernel_rfl) (by kernel_rfl) (by kernel_rfl) (fun _ _ _ h => h) (Or.inr ⟨by rfl, rfl⟩) (by assumption) ?_
  try simp only [List.getElem_toArray, List.getElem_cons_zero, List.getElem_cons_succ, Act.put, List.setIfInBounds_toArray, List.set_cons_zero, List.set_cons_succ]
  refine wpAnyH_take (i := 26) (oi := _) (v := undef) rfl (by kernel_rfl) (by kernel_rfl) (by kernel_rfl) (fun _ _ _ h => h) (Or.inr ⟨by rfl, rfl⟩) (by assumption) ?_
  try simp only [List.getElem_toArray, List.getElem_cons_zero, List.getElem_cons_succ, Act.put, List.setIfInBounds_toArray, List.set_cons_zero, List.set_cons_succ]
  refine wpAnyH_take (i := 27) (oi := _) (v := undef) rfl (by kernel_rfl) (by kernel_rfl) (by kernel_rfl) (fun _ _ _ h => h) (Or.inr ⟨by rfl, rfl⟩) (by assumption) ?_
  try simp only [List.getElem_toArray, List.getElem_cons_zero, List.getElem_cons_succ, Act.put, List.setIfInBounds_toArray, List.set_cons_zero, List.set_cons_succ]
  refine wpAnyH_take (i := 28) (oi := _) (v := undef) rfl (by kernel_rfl) (by kernel_rfl) (by kernel_rfl) (fun _ _ _ h => h) (Or.inr ⟨by rfl, rfl⟩) (by assumption) ?_
  try simp only [List.getElem_toArray, List.getElem_cons_zero, List.getElem_cons_succ, Act.put, List.setIfInBounds_toArray, List.set_cons_zero, List.set_cons_succ]
  refine wpAnyH_take (i := 29) (oi := _) (v := undef) rfl (by kernel_rfl) (by kernel_rfl) (by kernel_rfl) (fun _ _ _ h => h) (Or.inr ⟨by rfl, rfl⟩) (by assumption) ?_
  try simp only [List.getElem_toArray, List.getElem_cons_zero, List.getElem_cons_succ, Act.put, List.setIfInBounds_toArray, List.set_cons_zero, List.set_cons_succ]
  refine wpAnyH_take (i := 30) (oi := _) (v := undef) rfl (by kernel_rfl) (by kernel_rfl) (by kernel_rfl) (fun _ _ _ h => h) (Or.inr ⟨by rfl, rfl⟩) (by assumption) ?_
  try simp only [List.getElem_toArray, List.getElem_cons_zero, List.getElem_cons_succ, Act.put, List.setIfInBounds_toArray, List.set_cons_zero, List.set_cons_succ]
  refine wpAnyH_take (i := 31) (oi := _) (v := ?_) rfl (by kernel_rfl) (by kernel_rfl) (by kernel_rfl) (fun _ _ _ h => h) (Or.inl ⟨by rfl, ?_⟩) (by assumption) ?_
  rotate_left; (intro wS hSw; (try dsimp only at hSw); go_simp <;> with_reducible rfl)
  try simp only [List.getElem_toArray, List.getElem_cons_zero, List.getElem_cons_succ, Act.put, List.setIfInBounds_toArray, List.set_cons_zero, List.set_cons_succ]
  refine wpAnyH_take (i := 32) (oi := _) (v := ?_) rfl (by kernel_rfl) (by kernel_rfl) (by kernel_rfl) (fun _ _ _ h => h) (Or.inl ⟨by rfl, ?_⟩) (by assumption) ?_
  rotate_left; (intro wS hSw; (try dsimp only at hSw); go_simp <;> with_reducible rfl)
  try simp only [List.getElem_toArray, List.getElem_cons_zero, List.getElem_cons_succ, Act.put, List.setIfInBounds_toArray, List.set_cons_zero, List.set_cons_succ]
  refine wpAnyH_done (by kernel_rfl) ?_ _
  obtain ⟨e0, e1, e2, e3, e4, e5, e6, e7, HBA⟩ := hHeld
  have hbf := below_ext HB.out HBA.out
  go_wp2
  go_ret
  exact ⟨rfl, hbf⟩

set_option maxHeartbeats 1600000 in
theorem rformed_4 (P Q G : Int) (ba oa ca : Nat) (a0 C : Int) (bz oz cz : Nat) (z0 : Int) (hA : Hid (memG P Q a0 = true)) (hC : Hid (expB Q C = true)) (hZ : Hid (expB Q z0 = false)) (hval : Hid (validG P Q G = true)) (hQ : Q < 9223372036854775808) (w : World) (ha : Hid (w.cell? ⟨ba, oa, none⟩ = some (.int .i64 a0))) (hz : Hid (w.cell? ⟨bz, oz, none⟩ = some (.int .i64 z0))) :
    Calls Tryd.prog 95 #[gv P Q G, prv (some ⟨ba, oa, none⟩) 1 ca C (some ⟨bz, oz, none⟩) 1 cz] w fun e' w' => e' = .returned (.bool false) ∧ Below w.heap.size w w' := by
  obtain ⟨hp2, hp, hq3, hqp⟩ := validG_P hval.out
  obtain ⟨W, hW⟩ : ∃ W, (w.alloc (gObj P Q G)).alloc (prObj (some ⟨ba, oa, none⟩) 1 ca C (some ⟨bz, oz, none⟩) 1 cz) = W := ⟨_, rfl⟩
  have HB : Hid (Below w.heap.size w W) := Lib.hid (by rw [← hW]; exact below_two (Below.refl _ _))
  have HX : Hid (GBox W w.heap.size P Q G) := Lib.hid (by rw [← hW]; exact (gbox_alloc w P Q G).below (below_box0 _ _))
  have HP : Hid (PBox W (w.heap.size + 1) (.slice (some ⟨ba, oa, none⟩) 1 ca) (.int .i64 C) (.slice (some ⟨bz, oz, none⟩) 1 cz)) := Lib.hid (by rw [← hW]; exact pbox_alloc w _ _ _ _ _)
  have HA : Hid (W.cell? ⟨ba, oa, none⟩ = some (.int .i64 a0)) := Lib.hid (cell_below ha.out HB.out)
  have HZ : Hid (W.cell? ⟨bz, oz, none⟩ = some (.int .i64 z0)) := Lib.hid (cell_below hz.out HB.out)
  have HS : Hid (∀ w1 w2 : World, Hid (Below W.heap.size W w1) → Below w1.heap.size w1 w2 → (w2.cell? ⟨w.heap.size, 0, none⟩ = some (.int .i64 P) ∧ w2.cell? ⟨w.heap.size, 1, none⟩ = some (.int .i64 Q) ∧ w2.cell? ⟨w.heap.size, 2, none⟩ = some (.int .i64 G) ∧ w2.cell? ⟨w.heap.size + 1, 0, none⟩ = some (.slice (some ⟨ba, oa, none⟩) 1 ca) ∧ w2.cell? ⟨w.heap.size + 1, 1, none⟩ = some (.int .i64 C) ∧ w2.cell? ⟨w.heap.size + 1, 2, none⟩ = some (.slice (some ⟨bz, oz, none⟩) 1 cz) ∧ w2.cell? ⟨ba, oa, none⟩ = some (.int .i64 a0) ∧ w2.cell? ⟨bz, oz, none⟩ = some (.int .i64 z0) ∧ Hid (Below W.heap.size W w2))) :=
    Lib.hid (fun w1 w2 h1 h2 => have h3 := below_ext h1.out h2; ⟨(HX.out.below h3).1, (HX.out.below h3).2.1, (HX.out.below h3).2.2, (HP.out.below h3).1, (HP.out.below h3).2.1, (HP.out.below h3).2.2, cell_below HA.out h3, cell_below HZ.out h3, Lib.hid h3⟩)
  have HB0 : Hid (Below W.heap.size W W) := Lib.hid (Below.refl _ _)
  have HW := Lib.hid hW
  clear hW
  go_enter Tryd.func95, Tryd.ntmps95
  go_wp2_with fail
  rw [HW.out]
  go_region_held3 (fun w' => w'.cell? ⟨w.heap.size, 0, none⟩ = some (.int .i64 P) ∧ w'.cell? ⟨w.heap.size, 1, none⟩ = some (.int .i64 Q) ∧ w'.cell? ⟨w.heap.size, 2, none⟩ = some (.int .i64 G) ∧ w'.cell? ⟨w.heap.size + 1, 0, none⟩ = some (.slice (some ⟨ba, oa, none⟩) 1 ca) ∧ w'.cell? ⟨w.heap.size + 1, 1, none⟩ = some (.int .i64 C) ∧ w'.cell? ⟨w.heap.size + 1, 2, none⟩ = some (.slice (some ⟨bz, oz, none⟩) 1 cz) ∧ w'.cell? ⟨ba, oa, none⟩ = some (.int .i64 a0) ∧ w'.cell? ⟨bz, oz, none⟩ = some (.int .i64 z0) ∧ Hid (Below W.heap.size W w'))
    (first | exact HS.out _ _ HB0 ((Below.refl W.heap.size W).drew) | (go_split_ands; exact HS.out _ _ (by assumption) hbA) | go_keep)
    (first
      | (go_at_call 45; (with_reducible refine (rmember_any P Q G a0 true hA hp (by omega) hQ _).mono ?_); rintro e wA ⟨rfl, hbA⟩)
      | (go_at_call 105; (with_reducible refine (rexp_any P Q G C true hC _).mono ?_); rintro e wA ⟨rfl, hbA⟩)
      | (go_at_call 105; (with_reducible refine (rexp_any P Q G z0 false hZ _).mono ?_); rintro e wA ⟨rfl, hbA⟩))
  rename_i hHeld
  obtain ⟨e0, e1, e2, e3, e4, e5, e6, e7, HBA⟩ := hHeld
  have hbf := below_ext HB.out HBA.out
  go_wp2
  go_ret
  exact ⟨rfl, hbf⟩

set_option maxHeartbeats 1600000 in
theorem rformed_5 (P Q G : Int) (ba oa ca : Nat) (a0 C : Int) (bz oz cz : Nat) (z0 : Int) (hA : Hid (memG P Q a0 = true)) (hC : Hid (expB Q C = true)) (hZ : Hid (expB Q z0 = true)) (hval : Hid (validG P Q G = true)) (hQ : Q < 9223372036854775808) (w : World) (ha : Hid (w.cell? ⟨ba, oa, none⟩ = some (.int .i64 a0))) (hz : Hid (w.cell? ⟨bz, oz, none⟩ = some (.int .i64 z0))) :
    Calls Tryd.prog 95 #[gv P Q G, prv (some ⟨ba, oa, none⟩) 1 ca C (some ⟨bz, oz, none⟩) 1 cz] w fun e' w' => e' = .returned (.bool true) ∧ Below w.heap.size w w' := by
  obtain ⟨hp2, hp, hq3, hqp⟩ := validG_P hval.out
  obtain ⟨W, hW⟩ : ∃ W, (w.alloc (gObj P Q G)).alloc (prObj (some ⟨ba, oa, none⟩) 1 ca C (some ⟨bz, oz, none⟩) 1 cz) = W := ⟨_, rfl⟩
  have HB : Hid (Below w.heap.size w W) := Lib.hid (by rw [← hW]; exact below_two (Below.refl _ _))
  have HX : Hid (GBox W w.heap.size P Q G) := Lib.hid (by rw [← hW]; exact (gbox_alloc w P Q G).below (below_box0 _ _))
  have HP : Hid (PBox W (w.heap.size + 1) (.slice (some ⟨ba, oa, none⟩) 1 ca) (.int .i64 C) (.slice (some ⟨bz, oz, none⟩) 1 cz)) := Lib.hid (by rw [← hW]; exact pbox_alloc w _ _ _ _ _)
  have HA : Hid (W.cell? ⟨ba, oa, none⟩ = some (.int .i64 a0)) := Lib.hid (cell_below ha.out HB.out)
  have HZ : Hid (W.cell? ⟨bz, oz, none⟩ = some (.int .i64 z0)) := Lib.hid (cell_below hz.out HB.out)
  have HS : Hid (∀ w1 w2 : World, Hid (Below W.heap.size W w1) → Below w1.heap.size w1 w2 → (w2.cell? ⟨w.heap.size, 0, none⟩ = some (.int .i64 P) ∧ w2.cell? ⟨w.heap.size, 1, none⟩ = some (.int .i64 Q) ∧ w2.cell? ⟨w.heap.size, 2, none⟩ = some (.int .i64 G) ∧ w2.cell? ⟨w.heap.size + 1, 0, none⟩ = some (.slice (some ⟨ba, oa, none⟩) 1 ca) ∧ w2.cell? ⟨w.heap.size + 1, 1, none⟩ = some (.int .i64 C) ∧ w2.cell? ⟨w.heap.size + 1, 2, none⟩ = some (.slice (some ⟨bz, oz, none⟩) 1 cz) ∧ w2.cell? ⟨ba, oa, none⟩ = some (.int .i64 a0) ∧ w2.cell? ⟨bz, oz, none⟩ = some (.int .i64 z0) ∧ Hid (Below W.heap.size W w2))) :=
    Lib.hid (fun w1 w2 h1 h2 => have h3 := below_ext h1.out h2; ⟨(HX.out.below h3).1, (HX.out.below h3).2.1, (HX.out.below h3).2.2, (HP.out.below h3).1, (HP.out.below h3).2.1, (HP.out.below h3).2.2, cell_below HA.out h3, cell_below HZ.out h3, Lib.hid h3⟩)
  have HB0 : Hid (Below W.heap.size W W) := Lib.hid (Below.refl _ _)
  have HW := Lib.hid hW
  clear hW
  go_enter Tryd.func95, Tryd.ntmps95
  go_wp2_with fail
  rw [HW.out]
  go_region_held3 (fun w' => w'.cell? ⟨w.heap.size, 0, none⟩ = some (.int .i64 P) ∧ w'.cell? ⟨w.heap.size, 1, none⟩ = some (.int .i64 Q) ∧ w'.cell? ⟨w.heap.size, 2, none⟩ = some (.int .i64 G) ∧ w'.cell? ⟨w.heap.size + 1, 0, none⟩ = some (.slice (some ⟨ba, oa, none⟩) 1 ca) ∧ w'.cell? ⟨w.heap.size + 1, 1, none⟩ = some (.int .i64 C) ∧ w'.cell? ⟨w.heap.size + 1, 2, none⟩ = some (.slice (some ⟨bz, oz, none⟩) 1 cz) ∧ w'.cell? ⟨ba, oa, none⟩ = some (.int .i64 a0) ∧ w'.cell? ⟨bz, oz, none⟩ = some (.int .i64 z0) ∧ Hid (Below W.heap.size W w'))
    (first | exact HS.out _ _ HB0 ((Below.refl W.heap.size W).drew) | (go_split_ands; exact HS.out _ _ (by assumption) hbA) | go_keep)
    (first
      | (go_at_call 45; (with_reducible refine (rmember_any P Q G a0 true hA hp (by omega) hQ _).mono ?_); rintro e wA ⟨rfl, hbA⟩)
      | (go_at_call 105; (with_reducible refine (rexp_any P Q G C true hC _).mono ?_); rintro e wA ⟨rfl, hbA⟩)
      | (go_at_call 105; (with_reducible refine (rexp_any P Q G z0 true hZ _).mono ?_); rintro e wA ⟨rfl, hbA⟩))
  rename_i hHeld
  obtain ⟨e0, e1, e2, e3, e4, e5, e6, e7, HBA⟩ := hHeld
  have hbf := below_ext HB.out HBA.out
  go_wp2
  go_ret
  exact ⟨rfl, hbf⟩

/-- THE CONTRACT. -/
theorem formed_any (P Q G : Int) (pa : Option Addr) (na ca : Nat) (a0 C : Int) (pz : Option Addr) (nz cz : Nat) (z0 : Int) (b : Bool) (hb : Hid (formB P Q na a0 C nz z0 = b)) (hval : Hid (validG P Q G = true)) (hQ : Q < 9223372036854775808) (w : World) (hv : Hid (Vars w))
    (hA : Hid (One w pa na a0)) (hZ : Hid (One w pz nz z0)) :
    Calls Tryd.prog 92 #[gv P Q G, prv pa na ca C pz nz cz] w fun e' w' => e' = .returned (.bool b) ∧ Below w.heap.size w w' := by
  have hb' := hb.out
  by_cases h1 : na = 1
  · obtain ⟨ba, oa, rfl, ha⟩ := hA.out h1
    subst h1
    cases h2 : memG P Q a0 with
    | false =>
      obtain rfl : b = false := by rw [← hb', formB, h2]; simp
      exact formed_1 P Q G ba oa ca a0 C pz nz cz z0 (Lib.hid (by rw [conG, hval.out, h2]; rfl)) hval hQ w hv (Lib.hid ha)
    | true =>
      have HA : Hid (conG P Q G a0 = true) := Lib.hid (by rw [conG, hval.out, h2]; rfl)
      cases h3 : expB Q C with
      | false =>
        obtain rfl : b = false := by rw [← hb', formB, h3]; simp
        exact formed_2 P Q G ba oa ca a0 C pz nz cz z0 HA (Lib.hid h3) hval hQ w hv (Lib.hid ha)
      | true =>
        by_cases h4 : nz = 1
        · obtain ⟨bz, oz, rfl, hz⟩ := hZ.out h4
          subst h4
          cases h5 : expB Q z0 with
          | false =>
            obtain rfl : b = false := by rw [← hb', formB, h5]; simp
            exact formed_4 P Q G ba oa ca a0 C bz oz cz z0 HA (Lib.hid h3) (Lib.hid h5) hval hQ w hv (Lib.hid ha) (Lib.hid hz)
          | true =>
            obtain rfl : b = true := by rw [← hb', formB, h2, h3, h5]; rfl
            exact formed_5 P Q G ba oa ca a0 C bz oz cz z0 HA (Lib.hid h3) (Lib.hid h5) hval hQ w hv (Lib.hid ha) (Lib.hid hz)
        · obtain rfl : b = false := by rw [← hb', formB]; simp [h4]
          exact formed_3 P Q G ba oa ca a0 C pz nz cz z0 (by simp; omega) HA (Lib.hid h3) hval hQ w hv (Lib.hid ha)
  · obtain rfl : b = false := by rw [← hb', formB]; simp [h1]
    exact formed_0 P Q G pa na ca a0 C pz nz cz z0 (by simp; omega) hval hQ w hv

/-- THE CONTRACT. -/
theorem rformed_any (P Q G : Int) (pa : Option Addr) (na ca : Nat) (a0 C : Int) (pz : Option Addr) (nz cz : Nat) (z0 : Int) (b : Bool) (hb : Hid (formB P Q na a0 C nz z0 = b)) (hval : Hid (validG P Q G = true)) (hQ : Q < 9223372036854775808) (w : World)
    (hA : Hid (One w pa na a0)) (hZ : Hid (One w pz nz z0)) :
    Calls Tryd.prog 95 #[gv P Q G, prv pa na ca C pz nz cz] w fun e' w' => e' = .returned (.bool b) ∧ Below w.heap.size w w' := by
  have hb' := hb.out
  by_cases h1 : na = 1
  · obtain ⟨ba, oa, rfl, ha⟩ := hA.out h1
    subst h1
    by_cases h4 : nz = 1
    · obtain ⟨bz, oz, rfl, hz⟩ := hZ.out h4
      subst h4
      cases h2 : memG P Q a0 with
      | false =>
        obtain rfl : b = false := by rw [← hb', formB, h2]; simp
        exact rformed_2 P Q G ba oa ca a0 C bz oz cz z0 (Lib.hid h2) hval hQ w (Lib.hid ha) (Lib.hid hz)
      | true =>
        cases h3 : expB Q C with
        | false =>
          obtain rfl : b = false := by rw [← hb', formB, h3]; simp
          exact rformed_3 P Q G ba oa ca a0 C bz oz cz z0 (Lib.hid h2) (Lib.hid h3) hval hQ w (Lib.hid ha) (Lib.hid hz)
        | true =>
          cases h5 : expB Q z0 with
          | false =>
            obtain rfl : b = false := by rw [← hb', formB, h5]; simp
            exact rformed_4 P Q G ba oa ca a0 C bz oz cz z0 (Lib.hid h2) (Lib.hid h3) (Lib.hid h5) hval hQ w (Lib.hid ha) (Lib.hid hz)
          | true =>
            obtain rfl : b = true := by rw [← hb', formB, h2, h3, h5]; rfl
            exact rformed_5 P Q G ba oa ca a0 C bz oz cz z0 (Lib.hid h2) (Lib.hid h3) (Lib.hid h5) hval hQ w (Lib.hid ha) (Lib.hid hz)
    · obtain rfl : b = false := by rw [← hb', formB]; simp [h4]
      exact rformed_1 P Q G ba oa ca a0 C pz nz cz z0 (by simp; omega) hval hQ w (Lib.hid ha)
  · obtain rfl : b = false := by rw [← hb', formB]; simp [h1]
    exact rformed_0 P Q G pa na ca a0 C pz nz cz z0 (by simp; omega) hval hQ w

end Go.Proofs.YtohjfnhgibedpaaDoor
