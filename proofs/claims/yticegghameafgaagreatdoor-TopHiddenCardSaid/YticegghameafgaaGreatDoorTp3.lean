/- Contracts and lemmas: KnF, KnG, DrB, DrC, DrD, LinD, LinF, DrE, Dnz, Nwt, RInv, PolA. -/
import Derived.Deep.MidRow
import Derived.Test.YticegghameafgaaGreatDoorTpS
import Derived.Deep.RegionHeld3
import Derived.Deep.AppendLies
import Derived.Test.YticegghameafgaaGreatDoorTp2
set_option linter.unusedVariables false
set_option linter.unusedSimpArgs false
set_option maxRecDepth 100000
set_option maxHeartbeats 25600000
namespace Go.Proofs.YticegghameafgaaGreatDoor
open Go.RowKit jq
abbrev Gp (pa : Option Addr) (na ca : Nat) (C : Int) (pz : Option Addr) (nz cz : Nat) : Value := .agg #[.slice pa na ca, .int .i64 C, .slice pz nz cz]
abbrev iL (pa : Option Addr) (na ca : Nat) (C : Int) (pz : Option Addr) (nz cz : Nat) : Obj := .cells #[.slice pa na ca, .int .i64 C, .slice pz nz cz] 50
def lY (w : World) (a : Nat) (x y z : Value) : Prop := w.cell? ⟨a, 0, none⟩ = some x ∧ w.cell? ⟨a, 1, none⟩ = some y ∧ w.cell? ⟨a, 2, none⟩ = some z
theorem lY.below {w w' : World} {a : Nat} {x y z : Value} (h : lY w a x y z) (hb : Below w.heap.size w w') : lY w' a x y z :=
 ⟨(hb.cell (World.block_lt_of_cell? _ _ h.1)).trans h.1, (hb.cell (World.block_lt_of_cell? _ _ h.2.1)).trans h.2.1, (hb.cell (World.block_lt_of_cell? _ _ h.2.2)).trans h.2.2⟩
theorem dM (w : World) (o : Obj) (T : TypeId) (x y z : Value) : lY ((w.alloc o).alloc (.cells #[x, y, z] T)) (w.heap.size + 1) x y z := by
 have e : (w.alloc o).heap.size = w.heap.size + 1 := by simp
 rw [← e]
 exact ⟨World.cell?_alloc_at _ _ _ _ rfl, World.cell?_alloc_at _ _ _ _ rfl, World.cell?_alloc_at _ _ _ _ rfl⟩
theorem ak {w w' : World} {p : Addr} {v : Value} (h : w.cell? p = some v) (hb : Below w.heap.size w w') : w'.cell? p = some v := (hb.cell (World.block_lt_of_cell? _ _ h)).trans h
def One (w : World) (p : Option Addr) (n : Nat) (x : Int) : Prop := n = 1 → ∃ b o, p = some ⟨b, o, none⟩ ∧ w.cell? ⟨b, o, none⟩ = some (.int .i64 x)
theorem One.below {w w' : World} {p : Option Addr} {n : Nat} {x : Int} (h : One w p n x) (hb : Below w.heap.size w w') : One w' p n x := fun e => by
 obtain ⟨b, o, h1, h2⟩ := h e
 exact ⟨b, o, h1, ak h2 hb⟩
def gH (P Q : Int) (na : Nat) (a0 C : Int) (nz : Nat) (z0 : Int) : Bool := na == 1 && (nz == 1 && (aG P Q a0 && (gI Q C && gI Q z0)))
theorem CP (P Q G : Int) (pa : Option Addr) (na ca : Nat) (a0 C : Int) (pz : Option Addr) (nz cz : Nat) (z0 : Int) (hna : ((na : Int) == 1) = false) (hval : Hid (ah P Q G = true)) (hQ : Q < 9223372036854775808) (w : World) (hv : Hid (Vars w)) :
  Calls Tryz.prog 55 #[gv P Q G, Gp pa na ca C pz nz cz] w fun e' w' => e' = .returned (.bool false) ∧ Below w.heap.size w w' := by
 have HP : Hid (lY ((w.alloc (aC P Q G)).alloc (iL pa na ca C pz nz cz)) (w.heap.size + 1) (.slice pa na ca) (.int .i64 C) (.slice pz nz cz)) := aa (dM w _ _ _ _ _)
 go_in
 go_wp2_with fail
 go_quiet (fail)
 go_wp2
 go_ret
 exact ⟨rfl, ay (aI (Below.refl _ _)) _⟩
theorem CO (P Q G : Int) (ba oa ca : Nat) (a0 C : Int) (pz : Option Addr) (nz cz : Nat) (z0 : Int) (hA : Hid (gK P Q G a0 = false)) (hval : Hid (ah P Q G = true)) (hQ : Q < 9223372036854775808) (w : World) (hv : Hid (Vars w)) (ha : Hid (w.cell? ⟨ba, oa, none⟩ = some (.int .i64 a0))) :
  Calls Tryz.prog 55 #[gv P Q G, Gp (some ⟨ba, oa, none⟩) 1 ca C pz nz cz] w fun e' w' => e' = .returned (.bool false) ∧ Below w.heap.size w w' := by
 obtain ⟨hp2, hp, hq3, vU⟩ := az hval.out
 obtain ⟨W, hW⟩ : ∃ W, (w.alloc (aC P Q G)).alloc (iL (some ⟨ba, oa, none⟩) 1 ca C pz nz cz) = W := ⟨_, rfl⟩
 have HB : Hid (Below w.heap.size w W) := aa (by rw [← hW]; exact aI (Below.refl _ _))
 have HX : Hid (l5 W w.heap.size P Q G) := aa (by rw [← hW]; exact (aM w P Q G).below (af _ _))
 have HP : Hid (lY W (w.heap.size + 1) (.slice (some ⟨ba, oa, none⟩) 1 ca) (.int .i64 C) (.slice pz nz cz)) := aa (by rw [← hW]; exact dM w _ _ _ _ _)
 have HA : Hid (W.cell? ⟨ba, oa, none⟩ = some (.int .i64 a0)) := aa (ak ha.out HB.out)
 have HS : Hid (∀ w1 w2 : World, Hid (Below W.heap.size W w1) → Below w1.heap.size w1 w2 → (w2.cell? ⟨w.heap.size, 0, none⟩ = some (.int .i64 P) ∧ w2.cell? ⟨w.heap.size, 1, none⟩ = some (.int .i64 Q) ∧ w2.cell? ⟨w.heap.size, 2, none⟩ = some (.int .i64 G) ∧ w2.cell? ⟨w.heap.size + 1, 0, none⟩ = some (.slice (some ⟨ba, oa, none⟩) 1 ca) ∧ w2.cell? ⟨w.heap.size + 1, 1, none⟩ = some (.int .i64 C) ∧ w2.cell? ⟨w.heap.size + 1, 2, none⟩ = some (.slice pz nz cz) ∧ w2.cell? ⟨ba, oa, none⟩ = some (.int .i64 a0) ∧ Hid (Below W.heap.size W w2))) :=
  aa (fun w1 w2 h1 h2 => have h3 := ag h1.out h2; ⟨(HX.out.below h3).1, (HX.out.below h3).2.1, (HX.out.below h3).2.2, (HP.out.below h3).1, (HP.out.below h3).2.1, (HP.out.below h3).2.2, ak HA.out h3, aa h3⟩)
 have HB0 : Hid (Below W.heap.size W W) := aa (Below.refl _ _)
 have HV : Hid (Vars W) := aa (hv.out.below HB.out)
 have FY : Hid (∀ w1 : World, Hid (Below W.heap.size W w1) → Hid (Vars w1)) := aa (fun w1 h1 => aa (HV.out.below h1.out))
 have HW := aa hW
 clear hW
 go_in
 go_wp2_with fail
 rw [HW.out]
 refine wp_region_held_drew (S := fun w' => w'.cell? ⟨w.heap.size, 0, none⟩ = some (.int .i64 P) ∧ w'.cell? ⟨w.heap.size, 1, none⟩ = some (.int .i64 Q) ∧ w'.cell? ⟨w.heap.size, 2, none⟩ = some (.int .i64 G) ∧ w'.cell? ⟨w.heap.size + 1, 0, none⟩ = some (.slice (some ⟨ba, oa, none⟩) 1 ca) ∧ w'.cell? ⟨w.heap.size + 1, 1, none⟩ = some (.int .i64 C) ∧ w'.cell? ⟨w.heap.size + 1, 2, none⟩ = some (.slice pz nz cz) ∧ w'.cell? ⟨ba, oa, none⟩ = some (.int .i64 a0) ∧ Hid (Below W.heap.size W w')) (by kernel_rfl) (HS.out _ _ HB0 ((Below.refl W.heap.size W).drew)) (fun hHeld => ?_)
 refine wpAnyH_take (i := 0) (oi := _) (v := ?_) rfl (by kernel_rfl) (by kernel_rfl) (by kernel_rfl) (fun _ _ _ h => h) (Or.inl ⟨by rfl, ?_⟩) (by assumption) ?_
 rotate_left; (intro wS hSw; (try dsimp only at hSw); go_simp <;> with_reducible rfl)
 try simp only [a_, aZ, aY, Act.put, aX, aW, aV]
 refine wpAnyH_take (i := 1) (oi := _) (v := ?_) rfl (by kernel_rfl) (by kernel_rfl) (by kernel_rfl) (fun _ _ _ h => h) (Or.inl ⟨by rfl, ?_⟩) (by assumption) ?_
 rotate_left; (intro wS hSw; (try dsimp only at hSw); go_simp <;> with_reducible rfl)
 try simp only [a_, aZ, aY, Act.put, aX, aW, aV]
 refine wpAnyH_take (i := 2) (oi := _) (v := ?_) rfl (by kernel_rfl) (by kernel_rfl) (by kernel_rfl) (fun _ _ _ h => h) (Or.inl ⟨by rfl, ?_⟩) (by assumption) ?_
 rotate_left; (intro wS hSw; (try dsimp only at hSw); go_simp <;> with_reducible rfl)
 try simp only [a_, aZ, aY, Act.put, aX, aW, aV]
 refine wpAnyH_take (i := 3) (oi := _) (v := ?_) rfl (by kernel_rfl) (by kernel_rfl) (by kernel_rfl) (fun _ _ _ h => h) (Or.inl ⟨by rfl, ?_⟩) (by assumption) ?_
 rotate_left; (intro wS hSw; (try dsimp only at hSw); go_simp <;> with_reducible rfl)
 try simp only [a_, aZ, aY, Act.put, aX, aW, aV]
 refine wpAnyH_take (i := 4) (oi := _) (v := ?_) rfl (by kernel_rfl) (by kernel_rfl) (by kernel_rfl) (fun _ _ _ h => h) (Or.inl ⟨by rfl, ?_⟩) (by assumption) ?_
 rotate_left; (intro wS hSw; (try dsimp only at hSw); go_simp <;> with_reducible rfl)
 try simp only [a_, aZ, aY, Act.put, aX, aW, aV]
 refine wpAnyH_take (i := 5) (oi := _) (v := ?_) rfl (by kernel_rfl) (by kernel_rfl) (by kernel_rfl) (fun _ _ _ h => h) (Or.inl ⟨by rfl, ?_⟩) (by assumption) ?_
 rotate_left; (intro wS hSw; (try dsimp only at hSw); go_simp <;> with_reducible rfl)
 try simp only [a_, aZ, aY, Act.put, aX, aW, aV]
 refine wpAnyH_take (i := 6) (oi := _) (v := ?_) rfl (by kernel_rfl) (by kernel_rfl) (by kernel_rfl) (fun _ _ _ h => h) (Or.inl ⟨by rfl, ?_⟩) (by assumption) ?_
 rotate_left; (intro wS hSw; (try dsimp only at hSw); go_simp <;> with_reducible rfl)
 try simp only [a_, aZ, aY, Act.put, aX, aW, aV]
 refine wpAnyH_take (i := 7) (oi := _) (v := ?_) rfl (by kernel_rfl) (by kernel_rfl) (by kernel_rfl) (fun _ _ _ h => h) (Or.inl ⟨by rfl, ?_⟩) (by assumption) ?_
 rotate_left; (intro wS hSw; (try dsimp only at hSw); go_simp <;> with_reducible rfl)
 try simp only [a_, aZ, aY, Act.put, aX, aW, aV]
 refine wpAnyH_take (i := 8) (oi := _) (v := ?_) rfl (by kernel_rfl) (by kernel_rfl) (by kernel_rfl) (fun _ _ _ h => h) (Or.inl ⟨by rfl, ?_⟩) (by assumption) ?_
 rotate_left; (intro wS hSw; (try dsimp only at hSw); go_simp <;> with_reducible rfl)
 try simp only [a_, aZ, aY, Act.put, aX, aW, aV]
 refine wpAnyH_take (i := 9) (oi := _) (v := ?_) rfl (by kernel_rfl) (by kernel_rfl) (by kernel_rfl) (fun _ _ _ h => h) (Or.inl ⟨by rfl, ?_⟩) (by assumption) ?_
 rotate_left; (intro wS hSw; (try dsimp only at hSw); go_simp <;> with_reducible rfl)
 try simp only [a_, aZ, aY, Act.put, aX, aW, aV]
 refine wpAnyH_ready (rs := [10]) (by kernel_rfl) (by simp) ?_
 refine AllReadyH.cons rfl (fun K hK => ?_) AllReadyH.nil
 go_simp
 (go_at_call 54; (refine (aO P Q G a0 false hA hQ _ ?_).mono ?_); rotate_left; rintro e wA ⟨rfl, gL⟩; rotate_left; (go_split_ands; exact FY.out _ (by assumption)))
 refine hK.out _ _ ?_ (fun hHeld => ?_)
 · (go_split_ands; exact HS.out _ _ (by assumption) gL)
 clear hK K
 try simp only [a_, aZ, aY, Act.put, aX, aW, aV]
 refine wpAnyH_take (i := 11) (oi := _) (v := ?_) rfl (by kernel_rfl) (by kernel_rfl) (by kernel_rfl) (fun _ _ _ h => h) (Or.inl ⟨by rfl, ?_⟩) (by assumption) ?_
 rotate_left; (intro wS hSw; (try dsimp only at hSw); go_simp <;> with_reducible rfl)
 try simp only [a_, aZ, aY, Act.put, aX, aW, aV]
 refine wpAnyH_take (i := 12) (oi := _) (v := ?_) rfl (by kernel_rfl) (by kernel_rfl) (by kernel_rfl) (fun _ _ _ h => h) (Or.inl ⟨by rfl, ?_⟩) (by assumption) ?_
 rotate_left; (intro wS hSw; (try dsimp only at hSw); go_simp <;> with_reducible rfl)
 try simp only [a_, aZ, aY, Act.put, aX, aW, aV]
 refine wpAnyH_take (i := 13) (oi := _) (v := undef) rfl (by kernel_rfl) (by kernel_rfl) (by kernel_rfl) (fun _ _ _ h => h) (Or.inr ⟨by rfl, rfl⟩) (by assumption) ?_
 try simp only [a_, aZ, aY, Act.put, aX, aW, aV]
 refine wpAnyH_take (i := 14) (oi := _) (v := undef) rfl (by kernel_rfl) (by kernel_rfl) (by kernel_rfl) (fun _ _ _ h => h) (Or.inr ⟨by rfl, rfl⟩) (by assumption) ?_
 try simp only [a_, aZ, aY, Act.put, aX, aW, aV]
 refine wpAnyH_take (i := 15) (oi := _) (v := undef) rfl (by kernel_rfl) (by kernel_rfl) (by kernel_rfl) (fun _ _ _ h => h) (Or.inr ⟨by rfl, rfl⟩) (by assumption) ?_
 try simp only [a_, aZ, aY, Act.put, aX, aW, aV]
 refine wpAnyH_take (i := 16) (oi := _) (v := undef) rfl (by kernel_rfl) (by kernel_rfl) (by kernel_rfl) (fun _ _ _ h => h) (Or.inr ⟨by rfl, rfl⟩) (by assumption) ?_
 try simp only [a_, aZ, aY, Act.put, aX, aW, aV]
 refine wpAnyH_take (i := 17) (oi := _) (v := ?_) rfl (by kernel_rfl) (by kernel_rfl) (by kernel_rfl) (fun _ _ _ h => h) (Or.inl ⟨by rfl, ?_⟩) (by assumption) ?_
 rotate_left; (intro wS hSw; (try dsimp only at hSw); go_simp <;> with_reducible rfl)
 try simp only [a_, aZ, aY, Act.put, aX, aW, aV]
 refine wpAnyH_take (i := 18) (oi := _) (v := ?_) rfl (by kernel_rfl) (by kernel_rfl) (by kernel_rfl) (fun _ _ _ h => h) (Or.inl ⟨by rfl, ?_⟩) (by assumption) ?_
 rotate_left; (intro wS hSw; (try dsimp only at hSw); go_simp <;> with_reducible rfl)
 try simp only [a_, aZ, aY, Act.put, aX, aW, aV]
 refine wpAnyH_take (i := 19) (oi := _) (v := undef) rfl (by kernel_rfl) (by kernel_rfl) (by kernel_rfl) (fun _ _ _ h => h) (Or.inr ⟨by rfl, rfl⟩) (by assumption) ?_
 try simp only [a_, aZ, aY, Act.put, aX, aW, aV]
 refine wpAnyH_take (i := 20) (oi := _) (v := undef) rfl (by kernel_rfl) (by kernel_rfl) (by kernel_rfl) (fun _ _ _ h => h) (Or.inr ⟨by rfl, rfl⟩) (by assumption) ?_
 try simp only [a_, aZ, aY, Act.put, aX, aW, aV]
 refine wpAnyH_take (i := 21) (oi := _) (v := undef) rfl (by kernel_rfl) (by kernel_rfl) (by kernel_rfl) (fun _ _ _ h => h) (Or.inr ⟨by rfl, rfl⟩) (by assumption) ?_
 try simp only [a_, aZ, aY, Act.put, aX, aW, aV]
 refine wpAnyH_take (i := 22) (oi := _) (v := undef) rfl (by kernel_rfl) (by kernel_rfl) (by kernel_rfl) (fun _ _ _ h => h) (Or.inr ⟨by rfl, rfl⟩) (by assumption) ?_
 try simp only [a_, aZ, aY, Act.put, aX, aW, aV]
 refine wpAnyH_take (i := 23) (oi := _) (v := ?_) rfl (by kernel_rfl) (by kernel_rfl) (by kernel_rfl) (fun _ _ _ h => h) (Or.inl ⟨by rfl, ?_⟩) (by assumption) ?_
 rotate_left; (intro wS hSw; (try dsimp only at hSw); go_simp <;> with_reducible rfl)
 try simp only [a_, aZ, aY, Act.put, aX, aW, aV]
 refine wpAnyH_take (i := 24) (oi := _) (v := ?_) rfl (by kernel_rfl) (by kernel_rfl) (by kernel_rfl) (fun _ _ _ h => h) (Or.inl ⟨by rfl, ?_⟩) (by assumption) ?_
 rotate_left; (intro wS hSw; (try dsimp only at hSw); go_simp <;> with_reducible rfl)
 try simp only [a_, aZ, aY, Act.put, aX, aW, aV]
 refine wpAnyH_take (i := 25) (oi := _) (v := undef) rfl (by kernel_rfl) (by kernel_rfl) (by kernel_rfl) (fun _ _ _ h => h) (Or.inr ⟨by rfl, rfl⟩) (by assumption) ?_
 try simp only [a_, aZ, aY, Act.put, aX, aW, aV]
 refine wpAnyH_take (i := 26) (oi := _) (v := undef) rfl (by kernel_rfl) (by kernel_rfl) (by kernel_rfl) (fun _ _ _ h => h) (Or.inr ⟨by rfl, rfl⟩) (by assumption) ?_
 try simp only [a_, aZ, aY, Act.put, aX, aW, aV]
 refine wpAnyH_take (i := 27) (oi := _) (v := undef) rfl (by kernel_rfl) (by kernel_rfl) (by kernel_rfl) (fun _ _ _ h => h) (Or.inr ⟨by rfl, rfl⟩) (by assumption) ?_
 try simp only [a_, aZ, aY, Act.put, aX, aW, aV]
 refine wpAnyH_take (i := 28) (oi := _) (v := undef) rfl (by kernel_rfl) (by kernel_rfl) (by kernel_rfl) (fun _ _ _ h => h) (Or.inr ⟨by rfl, rfl⟩) (by assumption) ?_
 try simp only [a_, aZ, aY, Act.put, aX, aW, aV]
 refine wpAnyH_take (i := 29) (oi := _) (v := undef) rfl (by kernel_rfl) (by kernel_rfl) (by kernel_rfl) (fun _ _ _ h => h) (Or.inr ⟨by rfl, rfl⟩) (by assumption) ?_
 try simp only [a_, aZ, aY, Act.put, aX, aW, aV]
 refine wpAnyH_take (i := 30) (oi := _) (v := undef) rfl (by kernel_rfl) (by kernel_rfl) (by kernel_rfl) (fun _ _ _ h => h) (Or.inr ⟨by rfl, rfl⟩) (by assumption) ?_
 try simp only [a_, aZ, aY, Act.put, aX, aW, aV]
 refine wpAnyH_take (i := 31) (oi := _) (v := ?_) rfl (by kernel_rfl) (by kernel_rfl) (by kernel_rfl) (fun _ _ _ h => h) (Or.inl ⟨by rfl, ?_⟩) (by assumption) ?_
 rotate_left; (intro wS hSw; (try dsimp only at hSw); go_simp <;> with_reducible rfl)
 try simp only [a_, aZ, aY, Act.put, aX, aW, aV]
 refine wpAnyH_take (i := 32) (oi := _) (v := ?_) rfl (by kernel_rfl) (by kernel_rfl) (by kernel_rfl) (fun _ _ _ h => h) (Or.inl ⟨by rfl, ?_⟩) (by assumption) ?_
 rotate_left; (intro wS hSw; (try dsimp only at hSw); go_simp <;> with_reducible rfl)
 try simp only [a_, aZ, aY, Act.put, aX, aW, aV]
 refine wpAnyH_done (by kernel_rfl) ?_ _
 obtain ⟨e0, e1, e2, e3, e4, e5, e6, Gi⟩ := hHeld
 have hbf := ag HB.out Gi.out
 go_wp2
 go_ret
 exact ⟨rfl, hbf⟩
theorem CL (P Q G : Int) (ba oa ca : Nat) (a0 C : Int) (pz : Option Addr) (nz cz : Nat) (z0 : Int) (hA : Hid (gK P Q G a0 = true)) (hC : Hid (gI Q C = false)) (hval : Hid (ah P Q G = true)) (hQ : Q < 9223372036854775808) (w : World) (hv : Hid (Vars w)) (ha : Hid (w.cell? ⟨ba, oa, none⟩ = some (.int .i64 a0))) :
  Calls Tryz.prog 55 #[gv P Q G, Gp (some ⟨ba, oa, none⟩) 1 ca C pz nz cz] w fun e' w' => e' = .returned (.bool false) ∧ Below w.heap.size w w' := by
 obtain ⟨hp2, hp, hq3, vU⟩ := az hval.out
 obtain ⟨W, hW⟩ : ∃ W, (w.alloc (aC P Q G)).alloc (iL (some ⟨ba, oa, none⟩) 1 ca C pz nz cz) = W := ⟨_, rfl⟩
 have HB : Hid (Below w.heap.size w W) := aa (by rw [← hW]; exact aI (Below.refl _ _))
 have HX : Hid (l5 W w.heap.size P Q G) := aa (by rw [← hW]; exact (aM w P Q G).below (af _ _))
 have HP : Hid (lY W (w.heap.size + 1) (.slice (some ⟨ba, oa, none⟩) 1 ca) (.int .i64 C) (.slice pz nz cz)) := aa (by rw [← hW]; exact dM w _ _ _ _ _)
 have HA : Hid (W.cell? ⟨ba, oa, none⟩ = some (.int .i64 a0)) := aa (ak ha.out HB.out)
 have HS : Hid (∀ w1 w2 : World, Hid (Below W.heap.size W w1) → Below w1.heap.size w1 w2 → (w2.cell? ⟨w.heap.size, 0, none⟩ = some (.int .i64 P) ∧ w2.cell? ⟨w.heap.size, 1, none⟩ = some (.int .i64 Q) ∧ w2.cell? ⟨w.heap.size, 2, none⟩ = some (.int .i64 G) ∧ w2.cell? ⟨w.heap.size + 1, 0, none⟩ = some (.slice (some ⟨ba, oa, none⟩) 1 ca) ∧ w2.cell? ⟨w.heap.size + 1, 1, none⟩ = some (.int .i64 C) ∧ w2.cell? ⟨w.heap.size + 1, 2, none⟩ = some (.slice pz nz cz) ∧ w2.cell? ⟨ba, oa, none⟩ = some (.int .i64 a0) ∧ Hid (Below W.heap.size W w2))) :=
  aa (fun w1 w2 h1 h2 => have h3 := ag h1.out h2; ⟨(HX.out.below h3).1, (HX.out.below h3).2.1, (HX.out.below h3).2.2, (HP.out.below h3).1, (HP.out.below h3).2.1, (HP.out.below h3).2.2, ak HA.out h3, aa h3⟩)
 have HB0 : Hid (Below W.heap.size W W) := aa (Below.refl _ _)
 have HV : Hid (Vars W) := aa (hv.out.below HB.out)
 have FY : Hid (∀ w1 : World, Hid (Below W.heap.size W w1) → Hid (Vars w1)) := aa (fun w1 h1 => aa (HV.out.below h1.out))
 have HW := aa hW
 clear hW
 go_in
 go_wp2_with fail
 rw [HW.out]
 refine wp_region_held_drew (S := fun w' => w'.cell? ⟨w.heap.size, 0, none⟩ = some (.int .i64 P) ∧ w'.cell? ⟨w.heap.size, 1, none⟩ = some (.int .i64 Q) ∧ w'.cell? ⟨w.heap.size, 2, none⟩ = some (.int .i64 G) ∧ w'.cell? ⟨w.heap.size + 1, 0, none⟩ = some (.slice (some ⟨ba, oa, none⟩) 1 ca) ∧ w'.cell? ⟨w.heap.size + 1, 1, none⟩ = some (.int .i64 C) ∧ w'.cell? ⟨w.heap.size + 1, 2, none⟩ = some (.slice pz nz cz) ∧ w'.cell? ⟨ba, oa, none⟩ = some (.int .i64 a0) ∧ Hid (Below W.heap.size W w')) (by kernel_rfl) (HS.out _ _ HB0 ((Below.refl W.heap.size W).drew)) (fun hHeld => ?_)
 refine wpAnyH_take (i := 0) (oi := _) (v := ?_) rfl (by kernel_rfl) (by kernel_rfl) (by kernel_rfl) (fun _ _ _ h => h) (Or.inl ⟨by rfl, ?_⟩) (by assumption) ?_
 rotate_left; (intro wS hSw; (try dsimp only at hSw); go_simp <;> with_reducible rfl)
 try simp only [a_, aZ, aY, Act.put, aX, aW, aV]
 refine wpAnyH_take (i := 1) (oi := _) (v := ?_) rfl (by kernel_rfl) (by kernel_rfl) (by kernel_rfl) (fun _ _ _ h => h) (Or.inl ⟨by rfl, ?_⟩) (by assumption) ?_
 rotate_left; (intro wS hSw; (try dsimp only at hSw); go_simp <;> with_reducible rfl)
 try simp only [a_, aZ, aY, Act.put, aX, aW, aV]
 refine wpAnyH_take (i := 2) (oi := _) (v := ?_) rfl (by kernel_rfl) (by kernel_rfl) (by kernel_rfl) (fun _ _ _ h => h) (Or.inl ⟨by rfl, ?_⟩) (by assumption) ?_
 rotate_left; (intro wS hSw; (try dsimp only at hSw); go_simp <;> with_reducible rfl)
 try simp only [a_, aZ, aY, Act.put, aX, aW, aV]
 refine wpAnyH_take (i := 3) (oi := _) (v := ?_) rfl (by kernel_rfl) (by kernel_rfl) (by kernel_rfl) (fun _ _ _ h => h) (Or.inl ⟨by rfl, ?_⟩) (by assumption) ?_
 rotate_left; (intro wS hSw; (try dsimp only at hSw); go_simp <;> with_reducible rfl)
 try simp only [a_, aZ, aY, Act.put, aX, aW, aV]
 refine wpAnyH_take (i := 4) (oi := _) (v := ?_) rfl (by kernel_rfl) (by kernel_rfl) (by kernel_rfl) (fun _ _ _ h => h) (Or.inl ⟨by rfl, ?_⟩) (by assumption) ?_
 rotate_left; (intro wS hSw; (try dsimp only at hSw); go_simp <;> with_reducible rfl)
 try simp only [a_, aZ, aY, Act.put, aX, aW, aV]
 refine wpAnyH_take (i := 5) (oi := _) (v := ?_) rfl (by kernel_rfl) (by kernel_rfl) (by kernel_rfl) (fun _ _ _ h => h) (Or.inl ⟨by rfl, ?_⟩) (by assumption) ?_
 rotate_left; (intro wS hSw; (try dsimp only at hSw); go_simp <;> with_reducible rfl)
 try simp only [a_, aZ, aY, Act.put, aX, aW, aV]
 refine wpAnyH_take (i := 6) (oi := _) (v := ?_) rfl (by kernel_rfl) (by kernel_rfl) (by kernel_rfl) (fun _ _ _ h => h) (Or.inl ⟨by rfl, ?_⟩) (by assumption) ?_
 rotate_left; (intro wS hSw; (try dsimp only at hSw); go_simp <;> with_reducible rfl)
 try simp only [a_, aZ, aY, Act.put, aX, aW, aV]
 refine wpAnyH_take (i := 7) (oi := _) (v := ?_) rfl (by kernel_rfl) (by kernel_rfl) (by kernel_rfl) (fun _ _ _ h => h) (Or.inl ⟨by rfl, ?_⟩) (by assumption) ?_
 rotate_left; (intro wS hSw; (try dsimp only at hSw); go_simp <;> with_reducible rfl)
 try simp only [a_, aZ, aY, Act.put, aX, aW, aV]
 refine wpAnyH_take (i := 8) (oi := _) (v := ?_) rfl (by kernel_rfl) (by kernel_rfl) (by kernel_rfl) (fun _ _ _ h => h) (Or.inl ⟨by rfl, ?_⟩) (by assumption) ?_
 rotate_left; (intro wS hSw; (try dsimp only at hSw); go_simp <;> with_reducible rfl)
 try simp only [a_, aZ, aY, Act.put, aX, aW, aV]
 refine wpAnyH_take (i := 9) (oi := _) (v := ?_) rfl (by kernel_rfl) (by kernel_rfl) (by kernel_rfl) (fun _ _ _ h => h) (Or.inl ⟨by rfl, ?_⟩) (by assumption) ?_
 rotate_left; (intro wS hSw; (try dsimp only at hSw); go_simp <;> with_reducible rfl)
 try simp only [a_, aZ, aY, Act.put, aX, aW, aV]
 refine wpAnyH_ready (rs := [10]) (by kernel_rfl) (by simp) ?_
 refine AllReadyH.cons rfl (fun K hK => ?_) AllReadyH.nil
 go_simp
 (go_at_call 54; (refine (aO P Q G a0 true hA hQ _ ?_).mono ?_); rotate_left; rintro e wA ⟨rfl, gL⟩; rotate_left; (go_split_ands; exact FY.out _ (by assumption)))
 refine hK.out _ _ ?_ (fun hHeld => ?_)
 · (go_split_ands; exact HS.out _ _ (by assumption) gL)
 clear hK K
 try simp only [a_, aZ, aY, Act.put, aX, aW, aV]
 refine wpAnyH_take (i := 11) (oi := _) (v := ?_) rfl (by kernel_rfl) (by kernel_rfl) (by kernel_rfl) (fun _ _ _ h => h) (Or.inl ⟨by rfl, ?_⟩) (by assumption) ?_
 rotate_left; (intro wS hSw; (try dsimp only at hSw); go_simp <;> with_reducible rfl)
 try simp only [a_, aZ, aY, Act.put, aX, aW, aV]
 refine wpAnyH_take (i := 12) (oi := _) (v := ?_) rfl (by kernel_rfl) (by kernel_rfl) (by kernel_rfl) (fun _ _ _ h => h) (Or.inl ⟨by rfl, ?_⟩) (by assumption) ?_
 rotate_left; (intro wS hSw; (try dsimp only at hSw); go_simp <;> with_reducible rfl)
 try simp only [a_, aZ, aY, Act.put, aX, aW, aV]
 refine wpAnyH_take (i := 13) (oi := _) (v := ?_) rfl (by kernel_rfl) (by kernel_rfl) (by kernel_rfl) (fun _ _ _ h => h) (Or.inl ⟨by rfl, ?_⟩) (by assumption) ?_
 rotate_left; (intro wS hSw; (try dsimp only at hSw); go_simp <;> with_reducible rfl)
 try simp only [a_, aZ, aY, Act.put, aX, aW, aV]
 refine wpAnyH_take (i := 14) (oi := _) (v := ?_) rfl (by kernel_rfl) (by kernel_rfl) (by kernel_rfl) (fun _ _ _ h => h) (Or.inl ⟨by rfl, ?_⟩) (by assumption) ?_
 rotate_left; (intro wS hSw; (try dsimp only at hSw); go_simp <;> with_reducible rfl)
 try simp only [a_, aZ, aY, Act.put, aX, aW, aV]
 refine wpAnyH_take (i := 15) (oi := _) (v := ?_) rfl (by kernel_rfl) (by kernel_rfl) (by kernel_rfl) (fun _ _ _ h => h) (Or.inl ⟨by rfl, ?_⟩) (by assumption) ?_
 rotate_left; (intro wS hSw; (try dsimp only at hSw); go_simp <;> with_reducible rfl)
 try simp only [a_, aZ, aY, Act.put, aX, aW, aV]
 refine wpAnyH_ready (rs := [16]) (by kernel_rfl) (by simp) ?_
 refine AllReadyH.cons rfl (fun K hK => ?_) AllReadyH.nil
 go_simp
 (go_at_call 79; (with_reducible refine (gG P Q G C false hC _).mono ?_); rintro e wA ⟨rfl, gL⟩)
 refine hK.out _ _ ?_ (fun hHeld => ?_)
 · (go_split_ands; exact HS.out _ _ (by assumption) gL)
 clear hK K
 try simp only [a_, aZ, aY, Act.put, aX, aW, aV]
 refine wpAnyH_take (i := 17) (oi := _) (v := ?_) rfl (by kernel_rfl) (by kernel_rfl) (by kernel_rfl) (fun _ _ _ h => h) (Or.inl ⟨by rfl, ?_⟩) (by assumption) ?_
 rotate_left; (intro wS hSw; (try dsimp only at hSw); go_simp <;> with_reducible rfl)
 try simp only [a_, aZ, aY, Act.put, aX, aW, aV]
 refine wpAnyH_take (i := 18) (oi := _) (v := ?_) rfl (by kernel_rfl) (by kernel_rfl) (by kernel_rfl) (fun _ _ _ h => h) (Or.inl ⟨by rfl, ?_⟩) (by assumption) ?_
 rotate_left; (intro wS hSw; (try dsimp only at hSw); go_simp <;> with_reducible rfl)
 try simp only [a_, aZ, aY, Act.put, aX, aW, aV]
 refine wpAnyH_take (i := 19) (oi := _) (v := undef) rfl (by kernel_rfl) (by kernel_rfl) (by kernel_rfl) (fun _ _ _ h => h) (Or.inr ⟨by rfl, rfl⟩) (by assumption) ?_
 try simp only [a_, aZ, aY, Act.put, aX, aW, aV]
 refine wpAnyH_take (i := 20) (oi := _) (v := undef) rfl (by kernel_rfl) (by kernel_rfl) (by kernel_rfl) (fun _ _ _ h => h) (Or.inr ⟨by rfl, rfl⟩) (by assumption) ?_
 try simp only [a_, aZ, aY, Act.put, aX, aW, aV]
 refine wpAnyH_take (i := 21) (oi := _) (v := undef) rfl (by kernel_rfl) (by kernel_rfl) (by kernel_rfl) (fun _ _ _ h => h) (Or.inr ⟨by rfl, rfl⟩) (by assumption) ?_
 try simp only [a_, aZ, aY, Act.put, aX, aW, aV]
 refine wpAnyH_take (i := 22) (oi := _) (v := undef) rfl (by kernel_rfl) (by kernel_rfl) (by kernel_rfl) (fun _ _ _ h => h) (Or.inr ⟨by rfl, rfl⟩) (by assumption) ?_
 try simp only [a_, aZ, aY, Act.put, aX, aW, aV]
 refine wpAnyH_take (i := 23) (oi := _) (v := ?_) rfl (by kernel_rfl) (by kernel_rfl) (by kernel_rfl) (fun _ _ _ h => h) (Or.inl ⟨by rfl, ?_⟩) (by assumption) ?_
 rotate_left; (intro wS hSw; (try dsimp only at hSw); go_simp <;> with_reducible rfl)
 try simp only [a_, aZ, aY, Act.put, aX, aW, aV]
 refine wpAnyH_take (i := 24) (oi := _) (v := ?_) rfl (by kernel_rfl) (by kernel_rfl) (by kernel_rfl) (fun _ _ _ h => h) (Or.inl ⟨by rfl, ?_⟩) (by assumption) ?_
 rotate_left; (intro wS hSw; (try dsimp only at hSw); go_simp <;> with_reducible rfl)
 try simp only [a_, aZ, aY, Act.put, aX, aW, aV]
 refine wpAnyH_take (i := 25) (oi := _) (v := undef) rfl (by kernel_rfl) (by kernel_rfl) (by kernel_rfl) (fun _ _ _ h => h) (Or.inr ⟨by rfl, rfl⟩) (by assumption) ?_
 try simp only [a_, aZ, aY, Act.put, aX, aW, aV]
 refine wpAnyH_take (i := 26) (oi := _) (v := undef) rfl (by kernel_rfl) (by kernel_rfl) (by kernel_rfl) (fun _ _ _ h => h) (Or.inr ⟨by rfl, rfl⟩) (by assumption) ?_
 try simp only [a_, aZ, aY, Act.put, aX, aW, aV]
 refine wpAnyH_take (i := 27) (oi := _) (v := undef) rfl (by kernel_rfl) (by kernel_rfl) (by kernel_rfl) (fun _ _ _ h => h) (Or.inr ⟨by rfl, rfl⟩) (by assumption) ?_
 try simp only [a_, aZ, aY, Act.put, aX, aW, aV]
 refine wpAnyH_take (i := 28) (oi := _) (v := undef) rfl (by kernel_rfl) (by kernel_rfl) (by kernel_rfl) (fun _ _ _ h => h) (Or.inr ⟨by rfl, rfl⟩) (by assumption) ?_
 try simp only [a_, aZ, aY, Act.put, aX, aW, aV]
 refine wpAnyH_take (i := 29) (oi := _) (v := undef) rfl (by kernel_rfl) (by kernel_rfl) (by kernel_rfl) (fun _ _ _ h => h) (Or.inr ⟨by rfl, rfl⟩) (by assumption) ?_
 try simp only [a_, aZ, aY, Act.put, aX, aW, aV]
 refine wpAnyH_take (i := 30) (oi := _) (v := undef) rfl (by kernel_rfl) (by kernel_rfl) (by kernel_rfl) (fun _ _ _ h => h) (Or.inr ⟨by rfl, rfl⟩) (by assumption) ?_
 try simp only [a_, aZ, aY, Act.put, aX, aW, aV]
 refine wpAnyH_take (i := 31) (oi := _) (v := ?_) rfl (by kernel_rfl) (by kernel_rfl) (by kernel_rfl) (fun _ _ _ h => h) (Or.inl ⟨by rfl, ?_⟩) (by assumption) ?_
 rotate_left; (intro wS hSw; (try dsimp only at hSw); go_simp <;> with_reducible rfl)
 try simp only [a_, aZ, aY, Act.put, aX, aW, aV]
 refine wpAnyH_take (i := 32) (oi := _) (v := ?_) rfl (by kernel_rfl) (by kernel_rfl) (by kernel_rfl) (fun _ _ _ h => h) (Or.inl ⟨by rfl, ?_⟩) (by assumption) ?_
 rotate_left; (intro wS hSw; (try dsimp only at hSw); go_simp <;> with_reducible rfl)
 try simp only [a_, aZ, aY, Act.put, aX, aW, aV]
 refine wpAnyH_done (by kernel_rfl) ?_ _
 obtain ⟨e0, e1, e2, e3, e4, e5, e6, Gi⟩ := hHeld
 have hbf := ag HB.out Gi.out
 go_wp2
 go_ret
 exact ⟨rfl, hbf⟩
theorem CK (P Q G : Int) (ba oa ca : Nat) (a0 C : Int) (pz : Option Addr) (nz cz : Nat) (z0 : Int) (hnz : ((nz : Int) == 1) = false) (hA : Hid (gK P Q G a0 = true)) (hC : Hid (gI Q C = true)) (hval : Hid (ah P Q G = true)) (hQ : Q < 9223372036854775808) (w : World) (hv : Hid (Vars w)) (ha : Hid (w.cell? ⟨ba, oa, none⟩ = some (.int .i64 a0))) :
  Calls Tryz.prog 55 #[gv P Q G, Gp (some ⟨ba, oa, none⟩) 1 ca C pz nz cz] w fun e' w' => e' = .returned (.bool false) ∧ Below w.heap.size w w' := by
 obtain ⟨hp2, hp, hq3, vU⟩ := az hval.out
 obtain ⟨W, hW⟩ : ∃ W, (w.alloc (aC P Q G)).alloc (iL (some ⟨ba, oa, none⟩) 1 ca C pz nz cz) = W := ⟨_, rfl⟩
 have HB : Hid (Below w.heap.size w W) := aa (by rw [← hW]; exact aI (Below.refl _ _))
 have HX : Hid (l5 W w.heap.size P Q G) := aa (by rw [← hW]; exact (aM w P Q G).below (af _ _))
 have HP : Hid (lY W (w.heap.size + 1) (.slice (some ⟨ba, oa, none⟩) 1 ca) (.int .i64 C) (.slice pz nz cz)) := aa (by rw [← hW]; exact dM w _ _ _ _ _)
 have HA : Hid (W.cell? ⟨ba, oa, none⟩ = some (.int .i64 a0)) := aa (ak ha.out HB.out)
 have HS : Hid (∀ w1 w2 : World, Hid (Below W.heap.size W w1) → Below w1.heap.size w1 w2 → (w2.cell? ⟨w.heap.size, 0, none⟩ = some (.int .i64 P) ∧ w2.cell? ⟨w.heap.size, 1, none⟩ = some (.int .i64 Q) ∧ w2.cell? ⟨w.heap.size, 2, none⟩ = some (.int .i64 G) ∧ w2.cell? ⟨w.heap.size + 1, 0, none⟩ = some (.slice (some ⟨ba, oa, none⟩) 1 ca) ∧ w2.cell? ⟨w.heap.size + 1, 1, none⟩ = some (.int .i64 C) ∧ w2.cell? ⟨w.heap.size + 1, 2, none⟩ = some (.slice pz nz cz) ∧ w2.cell? ⟨ba, oa, none⟩ = some (.int .i64 a0) ∧ Hid (Below W.heap.size W w2))) :=
  aa (fun w1 w2 h1 h2 => have h3 := ag h1.out h2; ⟨(HX.out.below h3).1, (HX.out.below h3).2.1, (HX.out.below h3).2.2, (HP.out.below h3).1, (HP.out.below h3).2.1, (HP.out.below h3).2.2, ak HA.out h3, aa h3⟩)
 have HB0 : Hid (Below W.heap.size W W) := aa (Below.refl _ _)
 have HV : Hid (Vars W) := aa (hv.out.below HB.out)
 have FY : Hid (∀ w1 : World, Hid (Below W.heap.size W w1) → Hid (Vars w1)) := aa (fun w1 h1 => aa (HV.out.below h1.out))
 have HW := aa hW
 clear hW
 go_in
 go_wp2_with fail
 rw [HW.out]
 refine wp_region_held_drew (S := fun w' => w'.cell? ⟨w.heap.size, 0, none⟩ = some (.int .i64 P) ∧ w'.cell? ⟨w.heap.size, 1, none⟩ = some (.int .i64 Q) ∧ w'.cell? ⟨w.heap.size, 2, none⟩ = some (.int .i64 G) ∧ w'.cell? ⟨w.heap.size + 1, 0, none⟩ = some (.slice (some ⟨ba, oa, none⟩) 1 ca) ∧ w'.cell? ⟨w.heap.size + 1, 1, none⟩ = some (.int .i64 C) ∧ w'.cell? ⟨w.heap.size + 1, 2, none⟩ = some (.slice pz nz cz) ∧ w'.cell? ⟨ba, oa, none⟩ = some (.int .i64 a0) ∧ Hid (Below W.heap.size W w')) (by kernel_rfl) (HS.out _ _ HB0 ((Below.refl W.heap.size W).drew)) (fun hHeld => ?_)
 refine wpAnyH_take (i := 0) (oi := _) (v := ?_) rfl (by kernel_rfl) (by kernel_rfl) (by kernel_rfl) (fun _ _ _ h => h) (Or.inl ⟨by rfl, ?_⟩) (by assumption) ?_
 rotate_left; (intro wS hSw; (try dsimp only at hSw); go_simp <;> with_reducible rfl)
 try simp only [a_, aZ, aY, Act.put, aX, aW, aV]
 refine wpAnyH_take (i := 1) (oi := _) (v := ?_) rfl (by kernel_rfl) (by kernel_rfl) (by kernel_rfl) (fun _ _ _ h => h) (Or.inl ⟨by rfl, ?_⟩) (by assumption) ?_
 rotate_left; (intro wS hSw; (try dsimp only at hSw); go_simp <;> with_reducible rfl)
 try simp only [a_, aZ, aY, Act.put, aX, aW, aV]
 refine wpAnyH_take (i := 2) (oi := _) (v := ?_) rfl (by kernel_rfl) (by kernel_rfl) (by kernel_rfl) (fun _ _ _ h => h) (Or.inl ⟨by rfl, ?_⟩) (by assumption) ?_
 rotate_left; (intro wS hSw; (try dsimp only at hSw); go_simp <;> with_reducible rfl)
 try simp only [a_, aZ, aY, Act.put, aX, aW, aV]
 refine wpAnyH_take (i := 3) (oi := _) (v := ?_) rfl (by kernel_rfl) (by kernel_rfl) (by kernel_rfl) (fun _ _ _ h => h) (Or.inl ⟨by rfl, ?_⟩) (by assumption) ?_
 rotate_left; (intro wS hSw; (try dsimp only at hSw); go_simp <;> with_reducible rfl)
 try simp only [a_, aZ, aY, Act.put, aX, aW, aV]
 refine wpAnyH_take (i := 4) (oi := _) (v := ?_) rfl (by kernel_rfl) (by kernel_rfl) (by kernel_rfl) (fun _ _ _ h => h) (Or.inl ⟨by rfl, ?_⟩) (by assumption) ?_
 rotate_left; (intro wS hSw; (try dsimp only at hSw); go_simp <;> with_reducible rfl)
 try simp only [a_, aZ, aY, Act.put, aX, aW, aV]
 refine wpAnyH_take (i := 5) (oi := _) (v := ?_) rfl (by kernel_rfl) (by kernel_rfl) (by kernel_rfl) (fun _ _ _ h => h) (Or.inl ⟨by rfl, ?_⟩) (by assumption) ?_
 rotate_left; (intro wS hSw; (try dsimp only at hSw); go_simp <;> with_reducible rfl)
 try simp only [a_, aZ, aY, Act.put, aX, aW, aV]
 refine wpAnyH_take (i := 6) (oi := _) (v := ?_) rfl (by kernel_rfl) (by kernel_rfl) (by kernel_rfl) (fun _ _ _ h => h) (Or.inl ⟨by rfl, ?_⟩) (by assumption) ?_
 rotate_left; (intro wS hSw; (try dsimp only at hSw); go_simp <;> with_reducible rfl)
 try simp only [a_, aZ, aY, Act.put, aX, aW, aV]
 refine wpAnyH_take (i := 7) (oi := _) (v := ?_) rfl (by kernel_rfl) (by kernel_rfl) (by kernel_rfl) (fun _ _ _ h => h) (Or.inl ⟨by rfl, ?_⟩) (by assumption) ?_
 rotate_left; (intro wS hSw; (try dsimp only at hSw); go_simp <;> with_reducible rfl)
 try simp only [a_, aZ, aY, Act.put, aX, aW, aV]
 refine wpAnyH_take (i := 8) (oi := _) (v := ?_) rfl (by kernel_rfl) (by kernel_rfl) (by kernel_rfl) (fun _ _ _ h => h) (Or.inl ⟨by rfl, ?_⟩) (by assumption) ?_
 rotate_left; (intro wS hSw; (try dsimp only at hSw); go_simp <;> with_reducible rfl)
 try simp only [a_, aZ, aY, Act.put, aX, aW, aV]
 refine wpAnyH_take (i := 9) (oi := _) (v := ?_) rfl (by kernel_rfl) (by kernel_rfl) (by kernel_rfl) (fun _ _ _ h => h) (Or.inl ⟨by rfl, ?_⟩) (by assumption) ?_
 rotate_left; (intro wS hSw; (try dsimp only at hSw); go_simp <;> with_reducible rfl)
 try simp only [a_, aZ, aY, Act.put, aX, aW, aV]
 refine wpAnyH_ready (rs := [10]) (by kernel_rfl) (by simp) ?_
 refine AllReadyH.cons rfl (fun K hK => ?_) AllReadyH.nil
 go_simp
 (go_at_call 54; (refine (aO P Q G a0 true hA hQ _ ?_).mono ?_); rotate_left; rintro e wA ⟨rfl, gL⟩; rotate_left; (go_split_ands; exact FY.out _ (by assumption)))
 refine hK.out _ _ ?_ (fun hHeld => ?_)
 · (go_split_ands; exact HS.out _ _ (by assumption) gL)
 clear hK K
 try simp only [a_, aZ, aY, Act.put, aX, aW, aV]
 refine wpAnyH_take (i := 11) (oi := _) (v := ?_) rfl (by kernel_rfl) (by kernel_rfl) (by kernel_rfl) (fun _ _ _ h => h) (Or.inl ⟨by rfl, ?_⟩) (by assumption) ?_
 rotate_left; (intro wS hSw; (try dsimp only at hSw); go_simp <;> with_reducible rfl)
 try simp only [a_, aZ, aY, Act.put, aX, aW, aV]
 refine wpAnyH_take (i := 12) (oi := _) (v := ?_) rfl (by kernel_rfl) (by kernel_rfl) (by kernel_rfl) (fun _ _ _ h => h) (Or.inl ⟨by rfl, ?_⟩) (by assumption) ?_
 rotate_left; (intro wS hSw; (try dsimp only at hSw); go_simp <;> with_reducible rfl)
 try simp only [a_, aZ, aY, Act.put, aX, aW, aV]
 refine wpAnyH_take (i := 13) (oi := _) (v := ?_) rfl (by kernel_rfl) (by kernel_rfl) (by kernel_rfl) (fun _ _ _ h => h) (Or.inl ⟨by rfl, ?_⟩) (by assumption) ?_
 rotate_left; (intro wS hSw; (try dsimp only at hSw); go_simp <;> with_reducible rfl)
 try simp only [a_, aZ, aY, Act.put, aX, aW, aV]
 refine wpAnyH_take (i := 14) (oi := _) (v := ?_) rfl (by kernel_rfl) (by kernel_rfl) (by kernel_rfl) (fun _ _ _ h => h) (Or.inl ⟨by rfl, ?_⟩) (by assumption) ?_
 rotate_left; (intro wS hSw; (try dsimp only at hSw); go_simp <;> with_reducible rfl)
 try simp only [a_, aZ, aY, Act.put, aX, aW, aV]
 refine wpAnyH_take (i := 15) (oi := _) (v := ?_) rfl (by kernel_rfl) (by kernel_rfl) (by kernel_rfl) (fun _ _ _ h => h) (Or.inl ⟨by rfl, ?_⟩) (by assumption) ?_
 rotate_left; (intro wS hSw; (try dsimp only at hSw); go_simp <;> with_reducible rfl)
 try simp only [a_, aZ, aY, Act.put, aX, aW, aV]
 refine wpAnyH_ready (rs := [16]) (by kernel_rfl) (by simp) ?_
 refine AllReadyH.cons rfl (fun K hK => ?_) AllReadyH.nil
 go_simp
 (go_at_call 79; (with_reducible refine (gG P Q G C true hC _).mono ?_); rintro e wA ⟨rfl, gL⟩)
 refine hK.out _ _ ?_ (fun hHeld => ?_)
 · (go_split_ands; exact HS.out _ _ (by assumption) gL)
 clear hK K
 try simp only [a_, aZ, aY, Act.put, aX, aW, aV]
 refine wpAnyH_take (i := 17) (oi := _) (v := ?_) rfl (by kernel_rfl) (by kernel_rfl) (by kernel_rfl) (fun _ _ _ h => h) (Or.inl ⟨by rfl, ?_⟩) (by assumption) ?_
 rotate_left; (intro wS hSw; (try dsimp only at hSw); go_simp <;> with_reducible rfl)
 try simp only [a_, aZ, aY, Act.put, aX, aW, aV]
 refine wpAnyH_take (i := 18) (oi := _) (v := ?_) rfl (by kernel_rfl) (by kernel_rfl) (by kernel_rfl) (fun _ _ _ h => h) (Or.inl ⟨by rfl, ?_⟩) (by assumption) ?_
 rotate_left; (intro wS hSw; (try dsimp only at hSw); go_simp <;> with_reducible rfl)
 try simp only [a_, aZ, aY, Act.put, aX, aW, aV]
 refine wpAnyH_take (i := 19) (oi := _) (v := ?_) rfl (by kernel_rfl) (by kernel_rfl) (by kernel_rfl) (fun _ _ _ h => h) (Or.inl ⟨by rfl, ?_⟩) (by assumption) ?_
 rotate_left; (intro wS hSw; (try dsimp only at hSw); go_simp <;> with_reducible rfl)
 try simp only [a_, aZ, aY, Act.put, aX, aW, aV]
 refine wpAnyH_take (i := 20) (oi := _) (v := ?_) rfl (by kernel_rfl) (by kernel_rfl) (by kernel_rfl) (fun _ _ _ h => h) (Or.inl ⟨by rfl, ?_⟩) (by assumption) ?_
 rotate_left; (intro wS hSw; (try dsimp only at hSw); go_simp <;> with_reducible rfl)
 try simp only [a_, aZ, aY, Act.put, aX, aW, aV]
 refine wpAnyH_take (i := 21) (oi := _) (v := ?_) rfl (by kernel_rfl) (by kernel_rfl) (by kernel_rfl) (fun _ _ _ h => h) (Or.inl ⟨by rfl, ?_⟩) (by assumption) ?_
 rotate_left; (intro wS hSw; (try dsimp only at hSw); go_simp <;> with_reducible rfl)
 try simp only [a_, aZ, aY, Act.put, aX, aW, aV]
 refine wpAnyH_take (i := 22) (oi := _) (v := ?_) rfl (by kernel_rfl) (by kernel_rfl) (by kernel_rfl) (fun _ _ _ h => h) (Or.inl ⟨by rfl, ?_⟩) (by assumption) ?_
 rotate_left; (intro wS hSw; (try dsimp only at hSw); go_simp <;> with_reducible rfl)
 try simp only [a_, aZ, aY, Act.put, aX, aW, aV]
 refine wpAnyH_take (i := 23) (oi := _) (v := ?_) rfl (by kernel_rfl) (by kernel_rfl) (by kernel_rfl) (fun _ _ _ h => h) (Or.inl ⟨by rfl, ?_⟩) (by assumption) ?_
 rotate_left; (intro wS hSw; (try dsimp only at hSw); go_simp <;> with_reducible rfl)
 try simp only [a_, aZ, aY, Act.put, aX, aW, aV]
 refine wpAnyH_take (i := 24) (oi := _) (v := ?_) rfl (by kernel_rfl) (by kernel_rfl) (by kernel_rfl) (fun _ _ _ h => h) (Or.inl ⟨by rfl, ?_⟩) (by assumption) ?_
 rotate_left; (intro wS hSw; (try dsimp only at hSw); go_simp <;> with_reducible rfl)
 try simp only [a_, aZ, aY, Act.put, aX, aW, aV]
 refine wpAnyH_take (i := 25) (oi := _) (v := undef) rfl (by kernel_rfl) (by kernel_rfl) (by kernel_rfl) (fun _ _ _ h => h) (Or.inr ⟨by rfl, rfl⟩) (by assumption) ?_
 try simp only [a_, aZ, aY, Act.put, aX, aW, aV]
 refine wpAnyH_take (i := 26) (oi := _) (v := undef) rfl (by kernel_rfl) (by kernel_rfl) (by kernel_rfl) (fun _ _ _ h => h) (Or.inr ⟨by rfl, rfl⟩) (by assumption) ?_
 try simp only [a_, aZ, aY, Act.put, aX, aW, aV]
 refine wpAnyH_take (i := 27) (oi := _) (v := undef) rfl (by kernel_rfl) (by kernel_rfl) (by kernel_rfl) (fun _ _ _ h => h) (Or.inr ⟨by rfl, rfl⟩) (by assumption) ?_
 try simp only [a_, aZ, aY, Act.put, aX, aW, aV]
 refine wpAnyH_take (i := 28) (oi := _) (v := undef) rfl (by kernel_rfl) (by kernel_rfl) (by kernel_rfl) (fun _ _ _ h => h) (Or.inr ⟨by rfl, rfl⟩) (by assumption) ?_
 try simp only [a_, aZ, aY, Act.put, aX, aW, aV]
 refine wpAnyH_take (i := 29) (oi := _) (v := undef) rfl (by kernel_rfl) (by kernel_rfl) (by kernel_rfl) (fun _ _ _ h => h) (Or.inr ⟨by rfl, rfl⟩) (by assumption) ?_
 try simp only [a_, aZ, aY, Act.put, aX, aW, aV]
 refine wpAnyH_take (i := 30) (oi := _) (v := undef) rfl (by kernel_rfl) (by kernel_rfl) (by kernel_rfl) (fun _ _ _ h => h) (Or.inr ⟨by rfl, rfl⟩) (by assumption) ?_
 try simp only [a_, aZ, aY, Act.put, aX, aW, aV]
 refine wpAnyH_take (i := 31) (oi := _) (v := ?_) rfl (by kernel_rfl) (by kernel_rfl) (by kernel_rfl) (fun _ _ _ h => h) (Or.inl ⟨by rfl, ?_⟩) (by assumption) ?_
 rotate_left; (intro wS hSw; (try dsimp only at hSw); go_simp <;> with_reducible rfl)
 try simp only [a_, aZ, aY, Act.put, aX, aW, aV]
 refine wpAnyH_take (i := 32) (oi := _) (v := ?_) rfl (by kernel_rfl) (by kernel_rfl) (by kernel_rfl) (fun _ _ _ h => h) (Or.inl ⟨by rfl, ?_⟩) (by assumption) ?_
 rotate_left; (intro wS hSw; (try dsimp only at hSw); go_simp <;> with_reducible rfl)
 try simp only [a_, aZ, aY, Act.put, aX, aW, aV]
 refine wpAnyH_done (by kernel_rfl) ?_ _
 obtain ⟨e0, e1, e2, e3, e4, e5, e6, Gi⟩ := hHeld
 have hbf := ag HB.out Gi.out
 go_wp2
 go_ret
 exact ⟨rfl, hbf⟩
theorem CJ (P Q G : Int) (ba oa ca : Nat) (a0 C : Int) (bz oz cz : Nat) (z0 : Int) (hA : Hid (gK P Q G a0 = true)) (hC : Hid (gI Q C = true)) (hZ : Hid (gI Q z0 = false)) (hval : Hid (ah P Q G = true)) (hQ : Q < 9223372036854775808) (w : World) (hv : Hid (Vars w)) (ha : Hid (w.cell? ⟨ba, oa, none⟩ = some (.int .i64 a0))) (hz : Hid (w.cell? ⟨bz, oz, none⟩ = some (.int .i64 z0))) :
  Calls Tryz.prog 55 #[gv P Q G, Gp (some ⟨ba, oa, none⟩) 1 ca C (some ⟨bz, oz, none⟩) 1 cz] w fun e' w' => e' = .returned (.bool false) ∧ Below w.heap.size w w' := by
 obtain ⟨hp2, hp, hq3, vU⟩ := az hval.out
 obtain ⟨W, hW⟩ : ∃ W, (w.alloc (aC P Q G)).alloc (iL (some ⟨ba, oa, none⟩) 1 ca C (some ⟨bz, oz, none⟩) 1 cz) = W := ⟨_, rfl⟩
 have HB : Hid (Below w.heap.size w W) := aa (by rw [← hW]; exact aI (Below.refl _ _))
 have HX : Hid (l5 W w.heap.size P Q G) := aa (by rw [← hW]; exact (aM w P Q G).below (af _ _))
 have HP : Hid (lY W (w.heap.size + 1) (.slice (some ⟨ba, oa, none⟩) 1 ca) (.int .i64 C) (.slice (some ⟨bz, oz, none⟩) 1 cz)) := aa (by rw [← hW]; exact dM w _ _ _ _ _)
 have HA : Hid (W.cell? ⟨ba, oa, none⟩ = some (.int .i64 a0)) := aa (ak ha.out HB.out)
 have HZ : Hid (W.cell? ⟨bz, oz, none⟩ = some (.int .i64 z0)) := aa (ak hz.out HB.out)
 have HS : Hid (∀ w1 w2 : World, Hid (Below W.heap.size W w1) → Below w1.heap.size w1 w2 → (w2.cell? ⟨w.heap.size, 0, none⟩ = some (.int .i64 P) ∧ w2.cell? ⟨w.heap.size, 1, none⟩ = some (.int .i64 Q) ∧ w2.cell? ⟨w.heap.size, 2, none⟩ = some (.int .i64 G) ∧ w2.cell? ⟨w.heap.size + 1, 0, none⟩ = some (.slice (some ⟨ba, oa, none⟩) 1 ca) ∧ w2.cell? ⟨w.heap.size + 1, 1, none⟩ = some (.int .i64 C) ∧ w2.cell? ⟨w.heap.size + 1, 2, none⟩ = some (.slice (some ⟨bz, oz, none⟩) 1 cz) ∧ w2.cell? ⟨ba, oa, none⟩ = some (.int .i64 a0) ∧ w2.cell? ⟨bz, oz, none⟩ = some (.int .i64 z0) ∧ Hid (Below W.heap.size W w2))) :=
  aa (fun w1 w2 h1 h2 => have h3 := ag h1.out h2; ⟨(HX.out.below h3).1, (HX.out.below h3).2.1, (HX.out.below h3).2.2, (HP.out.below h3).1, (HP.out.below h3).2.1, (HP.out.below h3).2.2, ak HA.out h3, ak HZ.out h3, aa h3⟩)
 have HB0 : Hid (Below W.heap.size W W) := aa (Below.refl _ _)
 have HV : Hid (Vars W) := aa (hv.out.below HB.out)
 have FY : Hid (∀ w1 : World, Hid (Below W.heap.size W w1) → Hid (Vars w1)) := aa (fun w1 h1 => aa (HV.out.below h1.out))
 have HW := aa hW
 clear hW
 go_in
 go_wp2_with fail
 rw [HW.out]
 go_region_held3 (fun w' => w'.cell? ⟨w.heap.size, 0, none⟩ = some (.int .i64 P) ∧ w'.cell? ⟨w.heap.size, 1, none⟩ = some (.int .i64 Q) ∧ w'.cell? ⟨w.heap.size, 2, none⟩ = some (.int .i64 G) ∧ w'.cell? ⟨w.heap.size + 1, 0, none⟩ = some (.slice (some ⟨ba, oa, none⟩) 1 ca) ∧ w'.cell? ⟨w.heap.size + 1, 1, none⟩ = some (.int .i64 C) ∧ w'.cell? ⟨w.heap.size + 1, 2, none⟩ = some (.slice (some ⟨bz, oz, none⟩) 1 cz) ∧ w'.cell? ⟨ba, oa, none⟩ = some (.int .i64 a0) ∧ w'.cell? ⟨bz, oz, none⟩ = some (.int .i64 z0) ∧ Hid (Below W.heap.size W w'))
  (first | exact HS.out _ _ HB0 ((Below.refl W.heap.size W).drew) | (go_split_ands; exact HS.out _ _ (by assumption) gL) | go_keep)
  (first
   | (go_at_call 54; (refine (aO P Q G a0 true hA hQ _ ?_).mono ?_); rotate_left; rintro e wA ⟨rfl, gL⟩; rotate_left; (go_split_ands; exact FY.out _ (by assumption)))
   | (go_at_call 79; (with_reducible refine (gG P Q G C true hC _).mono ?_); rintro e wA ⟨rfl, gL⟩)
   | (go_at_call 79; (with_reducible refine (gG P Q G z0 false hZ _).mono ?_); rintro e wA ⟨rfl, gL⟩))
 rename_i hHeld
 obtain ⟨e0, e1, e2, e3, e4, e5, e6, e7, Gi⟩ := hHeld
 have hbf := ag HB.out Gi.out
 go_wp2
 go_ret
 exact ⟨rfl, hbf⟩
theorem CG (P Q G : Int) (ba oa ca : Nat) (a0 C : Int) (bz oz cz : Nat) (z0 : Int) (hA : Hid (gK P Q G a0 = true)) (hC : Hid (gI Q C = true)) (hZ : Hid (gI Q z0 = true)) (hval : Hid (ah P Q G = true)) (hQ : Q < 9223372036854775808) (w : World) (hv : Hid (Vars w)) (ha : Hid (w.cell? ⟨ba, oa, none⟩ = some (.int .i64 a0))) (hz : Hid (w.cell? ⟨bz, oz, none⟩ = some (.int .i64 z0))) :
  Calls Tryz.prog 55 #[gv P Q G, Gp (some ⟨ba, oa, none⟩) 1 ca C (some ⟨bz, oz, none⟩) 1 cz] w fun e' w' => e' = .returned (.bool true) ∧ Below w.heap.size w w' := by
 obtain ⟨hp2, hp, hq3, vU⟩ := az hval.out
 obtain ⟨W, hW⟩ : ∃ W, (w.alloc (aC P Q G)).alloc (iL (some ⟨ba, oa, none⟩) 1 ca C (some ⟨bz, oz, none⟩) 1 cz) = W := ⟨_, rfl⟩
 have HB : Hid (Below w.heap.size w W) := aa (by rw [← hW]; exact aI (Below.refl _ _))
 have HX : Hid (l5 W w.heap.size P Q G) := aa (by rw [← hW]; exact (aM w P Q G).below (af _ _))
 have HP : Hid (lY W (w.heap.size + 1) (.slice (some ⟨ba, oa, none⟩) 1 ca) (.int .i64 C) (.slice (some ⟨bz, oz, none⟩) 1 cz)) := aa (by rw [← hW]; exact dM w _ _ _ _ _)
 have HA : Hid (W.cell? ⟨ba, oa, none⟩ = some (.int .i64 a0)) := aa (ak ha.out HB.out)
 have HZ : Hid (W.cell? ⟨bz, oz, none⟩ = some (.int .i64 z0)) := aa (ak hz.out HB.out)
 have HS : Hid (∀ w1 w2 : World, Hid (Below W.heap.size W w1) → Below w1.heap.size w1 w2 → (w2.cell? ⟨w.heap.size, 0, none⟩ = some (.int .i64 P) ∧ w2.cell? ⟨w.heap.size, 1, none⟩ = some (.int .i64 Q) ∧ w2.cell? ⟨w.heap.size, 2, none⟩ = some (.int .i64 G) ∧ w2.cell? ⟨w.heap.size + 1, 0, none⟩ = some (.slice (some ⟨ba, oa, none⟩) 1 ca) ∧ w2.cell? ⟨w.heap.size + 1, 1, none⟩ = some (.int .i64 C) ∧ w2.cell? ⟨w.heap.size + 1, 2, none⟩ = some (.slice (some ⟨bz, oz, none⟩) 1 cz) ∧ w2.cell? ⟨ba, oa, none⟩ = some (.int .i64 a0) ∧ w2.cell? ⟨bz, oz, none⟩ = some (.int .i64 z0) ∧ Hid (Below W.heap.size W w2))) :=
  aa (fun w1 w2 h1 h2 => have h3 := ag h1.out h2; ⟨(HX.out.below h3).1, (HX.out.below h3).2.1, (HX.out.below h3).2.2, (HP.out.below h3).1, (HP.out.below h3).2.1, (HP.out.below h3).2.2, ak HA.out h3, ak HZ.out h3, aa h3⟩)
 have HB0 : Hid (Below W.heap.size W W) := aa (Below.refl _ _)
 have HV : Hid (Vars W) := aa (hv.out.below HB.out)
 have FY : Hid (∀ w1 : World, Hid (Below W.heap.size W w1) → Hid (Vars w1)) := aa (fun w1 h1 => aa (HV.out.below h1.out))
 have HW := aa hW
 clear hW
 go_in
 go_wp2_with fail
 rw [HW.out]
 go_region_held3 (fun w' => w'.cell? ⟨w.heap.size, 0, none⟩ = some (.int .i64 P) ∧ w'.cell? ⟨w.heap.size, 1, none⟩ = some (.int .i64 Q) ∧ w'.cell? ⟨w.heap.size, 2, none⟩ = some (.int .i64 G) ∧ w'.cell? ⟨w.heap.size + 1, 0, none⟩ = some (.slice (some ⟨ba, oa, none⟩) 1 ca) ∧ w'.cell? ⟨w.heap.size + 1, 1, none⟩ = some (.int .i64 C) ∧ w'.cell? ⟨w.heap.size + 1, 2, none⟩ = some (.slice (some ⟨bz, oz, none⟩) 1 cz) ∧ w'.cell? ⟨ba, oa, none⟩ = some (.int .i64 a0) ∧ w'.cell? ⟨bz, oz, none⟩ = some (.int .i64 z0) ∧ Hid (Below W.heap.size W w'))
  (first | exact HS.out _ _ HB0 ((Below.refl W.heap.size W).drew) | (go_split_ands; exact HS.out _ _ (by assumption) gL) | go_keep)
  (first
   | (go_at_call 54; (refine (aO P Q G a0 true hA hQ _ ?_).mono ?_); rotate_left; rintro e wA ⟨rfl, gL⟩; rotate_left; (go_split_ands; exact FY.out _ (by assumption)))
   | (go_at_call 79; (with_reducible refine (gG P Q G C true hC _).mono ?_); rintro e wA ⟨rfl, gL⟩)
   | (go_at_call 79; (with_reducible refine (gG P Q G z0 true hZ _).mono ?_); rintro e wA ⟨rfl, gL⟩))
 rename_i hHeld
 obtain ⟨e0, e1, e2, e3, e4, e5, e6, e7, Gi⟩ := hHeld
 have hbf := ag HB.out Gi.out
 go_wp2
 go_ret
 exact ⟨rfl, hbf⟩
theorem oo (P Q G : Int) (pa : Option Addr) (na ca : Nat) (a0 C : Int) (pz : Option Addr) (nz cz : Nat) (z0 : Int) (b : Bool) (hb : Hid (gH P Q na a0 C nz z0 = b)) (hval : Hid (ah P Q G = true)) (hQ : Q < 9223372036854775808) (w : World) (hv : Hid (Vars w))
  (hA : Hid (One w pa na a0)) (hZ : Hid (One w pz nz z0)) :
  Calls Tryz.prog 55 #[gv P Q G, Gp pa na ca C pz nz cz] w fun e' w' => e' = .returned (.bool b) ∧ Below w.heap.size w w' := by
 have hb' := hb.out
 by_cases h1 : na = 1
 ·
  obtain ⟨ba, oa, rfl, ha⟩ := hA.out h1
  subst h1
  cases h2 : aG P Q a0 with
  | false =>
   obtain rfl : b = false := by rw [← hb', gH, h2]; simp
   exact CO P Q G ba oa ca a0 C pz nz cz z0 (aa (by rw [gK, hval.out, h2]; rfl)) hval hQ w hv (aa ha)
  | true =>
   have HA : Hid (gK P Q G a0 = true) := aa (by rw [gK, hval.out, h2]; rfl)
   cases h3 : gI Q C with
   | false =>
    obtain rfl : b = false := by rw [← hb', gH, h3]; simp
    exact CL P Q G ba oa ca a0 C pz nz cz z0 HA (aa h3) hval hQ w hv (aa ha)
   | true =>
    by_cases h4 : nz = 1
    ·
     obtain ⟨bz, oz, rfl, hz⟩ := hZ.out h4
     subst h4
     cases h5 : gI Q z0 with
     | false =>
      obtain rfl : b = false := by rw [← hb', gH, h5]; simp
      exact CJ P Q G ba oa ca a0 C bz oz cz z0 HA (aa h3) (aa h5) hval hQ w hv (aa ha) (aa hz)
     | true =>
      obtain rfl : b = true := by rw [← hb', gH, h2, h3, h5]; rfl
      exact CG P Q G ba oa ca a0 C bz oz cz z0 HA (aa h3) (aa h5) hval hQ w hv (aa ha) (aa hz)
    ·
     obtain rfl : b = false := by rw [← hb', gH]; simp [h4]
     exact CK P Q G ba oa ca a0 C pz nz cz z0 (by simp; omega) HA (aa h3) hval hQ w hv (aa ha)
 ·
  obtain rfl : b = false := by rw [← hb', gH]; simp [h1]
  exact CP P Q G pa na ca a0 C pz nz cz z0 (by simp; omega) hval hQ w hv
def uA (P Q G b y : Int) (na : Nat) (a0 C : Int) (nz : Nat) (z0 : Int) : Bool := ah P Q G && (okB P Q b && (aG P Q y && (gH P Q na a0 C nz z0 && (pw b (z0 % Q) P == a0 * pw y (C % Q) P % P))))
theorem uh {P Q : Int} {na : Nat} {a0 C : Int} {nz : Nat} {z0 : Int} (h : gH P Q na a0 C nz z0 = true) : na = 1 ∧ nz = 1 ∧ aG P Q a0 = true ∧ gI Q C = true ∧ gI Q z0 = true := by
 simp [gH] at h
 exact ⟨h.1, h.2.1, h.2.2.1, h.2.2.2.1, h.2.2.2.2⟩
theorem mq (P Q G b y : Int) (pa : Option Addr) (na ca : Nat) (a0 C : Int) (pz : Option Addr) (nz cz : Nat) (z0 : Int) (r : Bool) (hr : Hid (uA P Q G b y na a0 C nz z0 = r)) (hQ : Q < 9223372036854775808) (w : World) (hv : Hid (Vars w))
  (hA : Hid (One w pa na a0)) (hZ : Hid (One w pz nz z0)) :
  Calls Tryz.prog 16 #[gv P Q G, .int .i64 b, .int .i64 y, Gp pa na ca C pz nz cz] w (Rt w (.bool r)) := by
 obtain ⟨w0, hW⟩ : ∃ W, (w.alloc (aC P Q G)).alloc (iL pa na ca C pz nz cz) = W := ⟨_, rfl⟩
 have HB : Hid (Below w.heap.size w w0) := aa (by rw [← hW]; exact aI (Below.refl _ _))
 have HX0 : Hid (l5 w0 w.heap.size P Q G) := aa (by rw [← hW]; exact (aM w P Q G).below (af _ _))
 have M3 : Hid (lY w0 (w.heap.size + 1) (.slice pa na ca) (.int .i64 C) (.slice pz nz cz)) := aa (by rw [← hW]; exact dM w _ _ _ _ _)
 have Nw : Hid (One w0 pa na a0) := aa (hA.out.below HB.out)
 have HZ0 : Hid (One w0 pz nz z0) := aa (hZ.out.below HB.out)
 have oZ : Hid (Vars w0) := aa (hv.out.below HB.out)
 have HW := aa hW
 clear hW
 have hr' := hr.out
 cases hval : ah P Q G with
 | false =>
  obtain rfl : r = false := by rw [← hr', uA, hval]; simp
  have Ai : Hid (ah P Q G = false) := hval
  clear hr' hr hval
  go_in
  go_wp2_with fail
  rw [HW.out]
  go_wp2_with fail
  refine (aH P Q G false Ai hQ _ oZ).mono ?_
  rintro e w1 ⟨rfl, hb0⟩
  have hb1 := ag (HB.out) hb0
  clear hb0
  go_wp2
  go_ret
  exact ⟨rfl, hb1⟩
 | true =>
  have Ai : Hid (ah P Q G = true) := hval
  obtain ⟨hp2, hp, hq3, vU⟩ := az hval
  cases hk : okB P Q b with
  | false =>
   obtain rfl : r = false := by rw [← hr', uA, hk]; simp
   have HK : Hid (okB P Q b = false) := hk
   clear hr' hr hval hk
   go_in
   go_wp2_with fail
   rw [HW.out]
   go_wp2_with fail
   refine (aH P Q G true Ai hQ _ oZ).mono ?_
   rintro e w1 ⟨rfl, hb0⟩
   have hb1 := ag (HB.out) hb0
   have rG := aa (oZ.out.below hb0)
   have D5 := aa (HX0.out.below hb0)
   have qA := aa (M3.out.below hb0)
   have HA1 := aa (Nw.out.below hb0)
   have HZ1 := aa (HZ0.out.below hb0)
   clear hb0
   obtain ⟨c0, c1, c2⟩ := D5.out
   obtain ⟨d0, d1, d2⟩ := qA.out
   go_wp2_with fail
   refine (je P Q G b false Ai HK _ rG).mono ?_
   rintro e w2 ⟨rfl, hb0⟩
   have hb2 := ag hb1 hb0
   clear hb0
   go_wp2
   go_ret
   exact ⟨rfl, hb2⟩
  | true =>
   have HK : Hid (okB P Q b = true) := hk
   cases hm : aG P Q y with
   | false =>
    obtain rfl : r = false := by rw [← hr', uA, hm]; simp
    have HM : Hid (aG P Q y = false) := hm
    have HC : Hid (gK P Q G y = false) := aa (by rw [gK, hval, hm]; rfl)
    clear hr' hr hval hk hm
    go_in
    go_wp2_with fail
    rw [HW.out]
    go_wp2_with fail
    refine (aH P Q G true Ai hQ _ oZ).mono ?_
    rintro e w1 ⟨rfl, hb0⟩
    have hb1 := ag (HB.out) hb0
    have rG := aa (oZ.out.below hb0)
    have D5 := aa (HX0.out.below hb0)
    have qA := aa (M3.out.below hb0)
    have HA1 := aa (Nw.out.below hb0)
    have HZ1 := aa (HZ0.out.below hb0)
    clear hb0
    obtain ⟨c0, c1, c2⟩ := D5.out
    obtain ⟨d0, d1, d2⟩ := qA.out
    go_wp2_with fail
    refine (je P Q G b true Ai HK _ rG).mono ?_
    rintro e w2 ⟨rfl, hb0⟩
    have hb2 := ag hb1 hb0
    have w_ := aa (rG.out.below hb0)
    have yR := aa (D5.out.below hb0)
    have Jl := aa (qA.out.below hb0)
    have HA2 := aa (HA1.out.below hb0)
    have HZ2 := aa (HZ1.out.below hb0)
    clear c0 c1 c2 d0 d1 d2 hb0
    obtain ⟨c0, c1, c2⟩ := yR.out
    obtain ⟨d0, d1, d2⟩ := Jl.out
    go_wp2_with fail
    refine (aO P Q G y false HC hQ _ w_).mono ?_
    rintro e w3 ⟨rfl, hb0⟩
    have hb3 := ag hb2 hb0
    clear hb0
    go_wp2
    go_ret
    exact ⟨rfl, hb3⟩
   | true =>
    have HM : Hid (aG P Q y = true) := hm
    have HC : Hid (gK P Q G y = true) := aa (by rw [gK, hval, hm]; rfl)
    cases hf : gH P Q na a0 C nz z0 with
    | false =>
     obtain rfl : r = false := by rw [← hr', uA, hf]; simp
     have HF : Hid (gH P Q na a0 C nz z0 = false) := hf
     clear hr' hr hval hk hm hf
     go_in
     go_wp2_with fail
     rw [HW.out]
     go_wp2_with fail
     refine (aH P Q G true Ai hQ _ oZ).mono ?_
     rintro e w1 ⟨rfl, hb0⟩
     have hb1 := ag (HB.out) hb0
     have rG := aa (oZ.out.below hb0)
     have D5 := aa (HX0.out.below hb0)
     have qA := aa (M3.out.below hb0)
     have HA1 := aa (Nw.out.below hb0)
     have HZ1 := aa (HZ0.out.below hb0)
     clear hb0
     obtain ⟨c0, c1, c2⟩ := D5.out
     obtain ⟨d0, d1, d2⟩ := qA.out
     go_wp2_with fail
     refine (je P Q G b true Ai HK _ rG).mono ?_
     rintro e w2 ⟨rfl, hb0⟩
     have hb2 := ag hb1 hb0
     have w_ := aa (rG.out.below hb0)
     have yR := aa (D5.out.below hb0)
     have Jl := aa (qA.out.below hb0)
     have HA2 := aa (HA1.out.below hb0)
     have HZ2 := aa (HZ1.out.below hb0)
     clear c0 c1 c2 d0 d1 d2 hb0
     obtain ⟨c0, c1, c2⟩ := yR.out
     obtain ⟨d0, d1, d2⟩ := Jl.out
     go_wp2_with fail
     refine (aO P Q G y true HC hQ _ w_).mono ?_
     rintro e w3 ⟨rfl, hb0⟩
     have hb3 := ag hb2 hb0
     have MR := aa (w_.out.below hb0)
     have MP := aa (yR.out.below hb0)
     have MZ := aa (Jl.out.below hb0)
     have Nv := aa (HA2.out.below hb0)
     have HZ3 := aa (HZ2.out.below hb0)
     clear c0 c1 c2 d0 d1 d2 hb0
     obtain ⟨c0, c1, c2⟩ := MP.out
     obtain ⟨d0, d1, d2⟩ := MZ.out
     go_wp2_with fail
     refine (oo P Q G pa na ca a0 C pz nz cz z0 false HF Ai hQ _ MR Nv HZ3).mono ?_
     rintro e w4 ⟨rfl, hb0⟩
     have hb4 := ag hb3 hb0
     clear hb0
     go_wp2
     go_ret
     exact ⟨rfl, hb4⟩
    | true =>
     have HF : Hid (gH P Q na a0 C nz z0 = true) := hf
     obtain ⟨rfl, rfl, hma, hC, Oh⟩ := uh hf
     obtain ⟨ba, oa, rfl, hca⟩ := hA.out rfl
     obtain ⟨bz, oz, rfl, hcz⟩ := hZ.out rfl
     have IL := EY hk
     have Cl := yB hC
     have Cu := yC hC
     have Zl := yB Oh
     have Zu := yC Oh
     obtain ⟨p1, hp1⟩ : ∃ p1, pw b (z0 % Q) P = p1 := ⟨_, rfl⟩
     obtain ⟨p2, Fp⟩ : ∃ p2, pw y (C % Q) P = p2 := ⟨_, rfl⟩
     obtain ⟨p3, hp3⟩ : ∃ p3, a0 * p2 % P = p3 := ⟨_, rfl⟩
     have m2 : aG P Q p2 = true := by rw [← Fp]; exact qX hp2 (by omega) (Int.emod_nonneg _ (by omega)) hm
     have Jr : Hid (iT P Q G [b] = 0) := aa (fV hval (by simp [IL]))
     have Uw : Hid (iT P Q G [y] = 0) := aa (fV hval (by simp [hm]))
     have Ux : Hid (iT P Q G [a0, p2] = 0) := aa (fV hval (by simp [hma, m2]))
     have HG : Hid (KM P Q G b y = 0) := aa (by rw [KM, hval, hk, hm]; rfl)
     have heq : ((p1 : Int) == p3) = r := by rw [← hr', uA, hval, hk, hm, hf, hp1, Fp, hp3]; rfl
     have H1 := aa hp1
     have H2 := aa Fp
     have H3 := aa hp3
     have bl := eF IL
     have bu := eG IL
     have yl := eF hm
     have yu := eG hm
     have al := eF hma
     have au := eG hma
     have l2 := eF m2
     have u2 := eG m2
     have Nn : Hid (w.cell? ⟨ba, oa, none⟩ = some (.int .i64 a0)) := aa hca
     have Uz : Hid (w.cell? ⟨bz, oz, none⟩ = some (.int .i64 z0)) := aa hcz
     clear hr' hr hval hk hm hf hma hC Oh hca hcz IL hp1 Fp hp3 m2
     go_in
     go_wp2_with fail
     rw [HW.out]
     go_wp2_with fail
     refine (aH P Q G true Ai hQ _ oZ).mono ?_
     rintro e w1 ⟨rfl, hb0⟩
     have hb1 := ag (HB.out) hb0
     have rG := aa (oZ.out.below hb0)
     have D5 := aa (HX0.out.below hb0)
     have qA := aa (M3.out.below hb0)
     have HA1 := aa (Nw.out.below hb0)
     have HZ1 := aa (HZ0.out.below hb0)
     clear hb0
     obtain ⟨c0, c1, c2⟩ := D5.out
     obtain ⟨d0, d1, d2⟩ := qA.out
     go_wp2_with fail
     refine (je P Q G b true Ai HK _ rG).mono ?_
     rintro e w2 ⟨rfl, hb0⟩
     have hb2 := ag hb1 hb0
     have w_ := aa (rG.out.below hb0)
     have yR := aa (D5.out.below hb0)
     have Jl := aa (qA.out.below hb0)
     have HA2 := aa (HA1.out.below hb0)
     have HZ2 := aa (HZ1.out.below hb0)
     clear c0 c1 c2 d0 d1 d2 hb0
     obtain ⟨c0, c1, c2⟩ := yR.out
     obtain ⟨d0, d1, d2⟩ := Jl.out
     go_wp2_with fail
     refine (aO P Q G y true HC hQ _ w_).mono ?_
     rintro e w3 ⟨rfl, hb0⟩
     have hb3 := ag hb2 hb0
     have MR := aa (w_.out.below hb0)
     have MP := aa (yR.out.below hb0)
     have MZ := aa (Jl.out.below hb0)
     have Nv := aa (HA2.out.below hb0)
     have HZ3 := aa (HZ2.out.below hb0)
     clear c0 c1 c2 d0 d1 d2 hb0
     obtain ⟨c0, c1, c2⟩ := MP.out
     obtain ⟨d0, d1, d2⟩ := MZ.out
     go_wp2_with fail
     refine (oo P Q G (some ⟨ba, oa, none⟩) 1 ca a0 C (some ⟨bz, oz, none⟩) 1 cz z0 true HF Ai hQ _ MR Nv HZ3).mono ?_
     rintro e w4 ⟨rfl, hb0⟩
     have hb4 := ag hb3 hb0
     have Aj := aa (MR.out.below hb0)
     have K6 := aa (MP.out.below hb0)
     have Lt := aa (MZ.out.below hb0)
     have Nu := aa (Nv.out.below hb0)
     have DZ := aa (HZ3.out.below hb0)
     clear c0 c1 c2 d0 d1 d2 hb0
     obtain ⟨c0, c1, c2⟩ := K6.out
     obtain ⟨d0, d1, d2⟩ := Lt.out
     clear c0 c1 c2 d0 d1 d2
     have PR : Hid (w4.cell? ⟨ba, oa, none⟩ = some (.int .i64 a0)) := aa (ak Nn.out hb4)
     have OE : Hid (w4.cell? ⟨bz, oz, none⟩ = some (.int .i64 z0)) := aa (ak Uz.out hb4)
     clear Nu DZ
     have Nu := PR
     have DZ := OE
     have Qh := aa (show ∀ v1 v2 : World, Hid (Below w4.heap.size w4 v1) → Below v1.heap.size v1 v2 → (v2.cell? ⟨w.heap.size, 0, none⟩ = some (.int .i64 P) ∧ v2.cell? ⟨w.heap.size, 1, none⟩ = some (.int .i64 Q) ∧ v2.cell? ⟨w.heap.size, 2, none⟩ = some (.int .i64 G) ∧ v2.cell? ⟨w.heap.size + 1, 0, none⟩ = some (.slice (some ⟨ba, oa, none⟩) 1 ca) ∧ v2.cell? ⟨w.heap.size + 1, 1, none⟩ = some (.int .i64 C) ∧ v2.cell? ⟨w.heap.size + 1, 2, none⟩ = some (.slice (some ⟨bz, oz, none⟩) 1 cz) ∧ v2.cell? ⟨ba, oa, none⟩ = some (.int .i64 a0) ∧ v2.cell? ⟨bz, oz, none⟩ = some (.int .i64 z0) ∧ Hid (Below w4.heap.size w4 v2)) from fun v1 v2 h1 h2 => have h3 := ag h1.out h2; ⟨(K6.out.below h3).1, (K6.out.below h3).2.1, (K6.out.below h3).2.2, (Lt.out.below h3).1, (Lt.out.below h3).2.1, (Lt.out.below h3).2.2, ak Nu.out h3, ak DZ.out h3, aa h3⟩)
     have SI : Hid (Below w4.heap.size w4 w4) := aa (Below.refl _ _)
     have SG := aa (show ∀ v1 : World, Hid (Below w4.heap.size w4 v1) → Hid (Vars v1) from fun v1 h1 => aa (Aj.out.below h1.out))
     go_wp2_with fail
     go_region_held3 (fun w' => w'.cell? ⟨w.heap.size, 0, none⟩ = some (.int .i64 P) ∧ w'.cell? ⟨w.heap.size, 1, none⟩ = some (.int .i64 Q) ∧ w'.cell? ⟨w.heap.size, 2, none⟩ = some (.int .i64 G) ∧ w'.cell? ⟨w.heap.size + 1, 0, none⟩ = some (.slice (some ⟨ba, oa, none⟩) 1 ca) ∧ w'.cell? ⟨w.heap.size + 1, 1, none⟩ = some (.int .i64 C) ∧ w'.cell? ⟨w.heap.size + 1, 2, none⟩ = some (.slice (some ⟨bz, oz, none⟩) 1 cz) ∧ w'.cell? ⟨ba, oa, none⟩ = some (.int .i64 a0) ∧ w'.cell? ⟨bz, oz, none⟩ = some (.int .i64 z0) ∧ Hid (Below w4.heap.size w4 w'))
      (first | exact Qh.out _ _ SI ((Below.refl w4.heap.size w4).drew) | (go_split_ands; exact Qh.out _ _ (by assumption) gL) | go_keep)
      (first
       | (go_at_call 11; (refine (g_ P Q G b z0 p1 Jr H1 (by omega) (by omega) _ ?_).mono ?_); rotate_left; rintro e wA ⟨rfl, gL⟩; rotate_left; (go_split_ands; exact SG.out _ (by assumption))))
     rename_i hHeld
     obtain ⟨e0, e1, e2, e3, e4, e5, e6, e7, zG⟩ := hHeld
     have hb5 := ag hb4 zG.out
     have HV5 := aa (Aj.out.below zG.out)
     have QH := aa (K6.out.below zG.out)
     have Q4 := aa (Lt.out.below zG.out)
     have UJ := aa (ak Nu.out zG.out)
     have OD := aa (ak DZ.out zG.out)
     obtain ⟨w5, zD⟩ : ∃ w5, wA = w5 := ⟨_, rfl⟩
     subst zD
     obtain ⟨c0, c1, c2⟩ := QH.out
     obtain ⟨d0, d1, d2⟩ := Q4.out
     clear e0 e1 e2 e3 e4 e5 e6 e7
     go_wp2_with fail
     refine (g_ P Q G y C p2 Uw H2 (by omega) (by omega) _ HV5).mono ?_
     rintro e w6 ⟨rfl, hb0⟩
     have hb6 := ag hb5 hb0
     have MQ := aa (HV5.out.below hb0)
     have MO := aa (QH.out.below hb0)
     have JR := aa (Q4.out.below hb0)
     have RA := aa (ak UJ.out hb0)
     have QA := aa (ak OD.out hb0)
     clear hb0 c0 c1 c2 d0 d1 d2
     have hSb := aa (show ∀ v1 v2 : World, Hid (Below w6.heap.size w6 v1) → Below v1.heap.size v1 v2 → (v2.cell? ⟨w.heap.size, 0, none⟩ = some (.int .i64 P) ∧ v2.cell? ⟨w.heap.size, 1, none⟩ = some (.int .i64 Q) ∧ v2.cell? ⟨w.heap.size, 2, none⟩ = some (.int .i64 G) ∧ v2.cell? ⟨w.heap.size + 1, 0, none⟩ = some (.slice (some ⟨ba, oa, none⟩) 1 ca) ∧ v2.cell? ⟨w.heap.size + 1, 1, none⟩ = some (.int .i64 C) ∧ v2.cell? ⟨w.heap.size + 1, 2, none⟩ = some (.slice (some ⟨bz, oz, none⟩) 1 cz) ∧ v2.cell? ⟨ba, oa, none⟩ = some (.int .i64 a0) ∧ v2.cell? ⟨bz, oz, none⟩ = some (.int .i64 z0) ∧ Hid (Below w6.heap.size w6 v2)) from fun v1 v2 h1 h2 => have h3 := ag h1.out h2; ⟨(MO.out.below h3).1, (MO.out.below h3).2.1, (MO.out.below h3).2.2, (JR.out.below h3).1, (JR.out.below h3).2.1, (JR.out.below h3).2.2, ak RA.out h3, ak QA.out h3, aa h3⟩)
     have hRb : Hid (Below w6.heap.size w6 w6) := aa (Below.refl _ _)
     have SF := aa (show ∀ v1 : World, Hid (Below w6.heap.size w6 v1) → Hid (Vars v1) from fun v1 h1 => aa (MQ.out.below h1.out))
     go_wp2_with fail
     go_region_held3 (fun w' => w'.cell? ⟨w.heap.size, 0, none⟩ = some (.int .i64 P) ∧ w'.cell? ⟨w.heap.size, 1, none⟩ = some (.int .i64 Q) ∧ w'.cell? ⟨w.heap.size, 2, none⟩ = some (.int .i64 G) ∧ w'.cell? ⟨w.heap.size + 1, 0, none⟩ = some (.slice (some ⟨ba, oa, none⟩) 1 ca) ∧ w'.cell? ⟨w.heap.size + 1, 1, none⟩ = some (.int .i64 C) ∧ w'.cell? ⟨w.heap.size + 1, 2, none⟩ = some (.slice (some ⟨bz, oz, none⟩) 1 cz) ∧ w'.cell? ⟨ba, oa, none⟩ = some (.int .i64 a0) ∧ w'.cell? ⟨bz, oz, none⟩ = some (.int .i64 z0) ∧ Hid (Below w6.heap.size w6 w'))
      (first | exact hSb.out _ _ hRb ((Below.refl w6.heap.size w6).drew) | (go_split_ands; exact hSb.out _ _ (by assumption) gL) | go_keep)
      (first
       | (go_at_call 56; (refine (yA P Q G a0 p2 p3 Ux H3 hQ _ ?_).mono ?_); rotate_left; rintro e wA ⟨rfl, gL⟩; rotate_left; (go_split_ands; exact SF.out _ (by assumption))))
     rename_i hHeld
     obtain ⟨e0, e1, e2, e3, e4, e5, e6, e7, zG⟩ := hHeld
     have JE := ag hb6 zG.out
     have QM := aa (MQ.out.below zG.out)
     have Vy := aa (MO.out.below zG.out)
     have Q3 := aa (JR.out.below zG.out)
     have VB := aa (ak RA.out zG.out)
     have Vx := aa (ak QA.out zG.out)
     obtain ⟨w7, hw7⟩ : ∃ w7, wA = w7 := ⟨_, rfl⟩
     subst hw7
     go_wp2
     go_ret
     exact ⟨rfl, JE⟩
def CE (v x : Int) : Int := bits BinOp.or IntKind.u64 (IntKind.u64.wrap (v * 256)) (IntKind.u64.wrap x)
def ug (l : List Int) : Int := l.foldl CE 0
def iG (h : List Int) : Int := ug (h.take 8)
theorem zH {h : List Int} {k : Nat} (hk : k < h.length) : ug (h.take (k + 1)) = CE (ug (h.take k)) (h.getD k 0) := by
 rw [take_one hk, ug, List.foldl_append]; rfl
theorem wL (h : List Int) (hl : Hid (h.length = 32)) (hb : Hid (aA h = true)) (w : World) :
  Calls Tryz.prog 88 #[.agg (arr .u8 h)] w (Rt w (.int .u64 (iG h))) := by
 have HT0 : Hid (bD .u8 25 (w.alloc (.cells (arr .u8 h) 25)) w.heap.size h) := aa (bD.new _ _)
 have hb0 := af w (.cells (arr .u8 h) 25)
 obtain ⟨W, hW⟩ : ∃ W, w.alloc (.cells (arr .u8 h) 25) = W := ⟨_, rfl⟩
 rw [hW] at HT0 hb0
 have HB0 := aa hb0
 have HW := aa hW
 clear hW hb0
 go_in
 go_wp2_with fail
 rw [HW.out]
 clear HW
 go_loopw [3, 8] (fun x i u => ∃ k : Nat, k ≤ 8 ∧ i = .int .i64 k ∧ x = .int .u64 (ug (h.take k)) ∧ u = W) (fun _ i _ => 8 - (intOf i).toNat)
 case atStart => exact ⟨0, by omega, rfl, rfl, rfl⟩
 case round =>
  obtain ⟨k, hk, rfl, rfl, rfl⟩ := hrel
  by_cases hlt : k < 8
  ·
   have hkl : k < h.length := by rw [hl.out]; omega
   have hc := HT0.out.cell hkl
   obtain ⟨x, hx⟩ : ∃ x, h.getD k 0 = x := ⟨_, rfl⟩
   rw [hx] at hc
   obtain ⟨v, hv⟩ : ∃ v, ug (h.take k) = v := ⟨_, rfl⟩
   have HST : Hid (ug (h.take (k + 1)) = CE v x) := aa (by rw [zH hkl, hx, hv])
   rw [hv]
   clear hx hv hkl
   go_wp2
   go_roundw
   case rel => exact ⟨k + 1, by omega, by go_num, by rw [HST.out]; rfl, trivial⟩
   case measure => simp [intOf]; omega
  ·
   obtain rfl : k = 8 := by omega
   clear hlt
   obtain ⟨v, hv⟩ : ∃ v, ug (h.take 8) = v := ⟨_, rfl⟩
   have HV : Hid (iG h = v) := aa hv
   rw [hv]
   clear hv
   go_wp2
   go_ret
   exact ⟨by rw [HV.out]; rfl, HB0.out⟩
def o_ (h : List Int) (c : Int) (f : Bool) : Array Value := arr .u8 h ++ #[.int .i64 c, .bool f]
def dx (w : World) (b : Nat) (h : List Int) (c : Int) (f : Bool) : Prop := w.heap[b]? = some (.cells (o_ h c f) 87 (0, 0))
variable {w : World} {b : Nat} {h : List Int} {c : Int} {f : Bool}
theorem dx.lt (hh : dx w b h c f) : b < w.heap.size := (Array.getElem?_eq_some_iff.1 hh).1
theorem dx.below {w' : World} (hh : dx w b h c f) (hb : Below w.heap.size w w') : dx w' b h c f := (hb.block b hh.lt).trans hh
theorem sJ (hl : h.length = 32) : (o_ h c f)[32]? = some (.int .i64 c) := by
 rw [o_, Array.getElem?_append_right (by rw [aS, hl]; exact Nat.le_refl _), aS, hl]; rfl
theorem Ba (hl : h.length = 32) : (o_ h c f)[33]? = some (.bool f) := by
 rw [o_, Array.getElem?_append_right (by rw [aS, hl]; decide), aS, hl]; rfl
theorem dx.count (hh : dx w b h c f) (hl : h.length = 32) : Own w ⟨b, 32, none⟩ (.int .i64 c) := ⟨(ax hh 32).trans (sJ hl), bn hh 32⟩
theorem dx.full (hh : dx w b h c f) (hl : h.length = 32) : Own w ⟨b, 33, none⟩ (.bool f) := ⟨(ax hh 33).trans (Ba hl), bn hh 33⟩
theorem y_ (hl : h.length = 32) (x : Int) : (o_ h c f).setIfInBounds 32 (.int .i64 x) = o_ h x f := by
 apply Array.ext'
 simp [o_, arr, List.set_append, hl]
theorem y9 (hl : h.length = 32) (x : Bool) : (o_ h c f).setIfInBounds 33 (.bool x) = o_ h c x := by
 apply Array.ext'
 simp [o_, arr, List.set_append, hl]
theorem dx.set32 (hh : dx w b h c f) (hl : h.length = 32) (x : Int) : dx (w.setCell ⟨b, 32, none⟩ (.int .i64 x)) b h x f := by
 unfold dx
 rw [heap_setCell_same w b 32 _ _ _ hh, y_ hl]
theorem dx.set33 (hh : dx w b h c f) (hl : h.length = 32) (x : Bool) : dx (w.setCell ⟨b, 33, none⟩ (.bool x)) b h c x := by
 unfold dx
 rw [heap_setCell_same w b 33 _ _ _ hh, y9 hl]
theorem dx.range (hh : dx w b h c f) (hl : h.length = 32) : w.rangeAt b 0 (aJ h c).toList := fun j v hj => by
 have hlt : j < 33 := by
  have h2 := (List.getElem?_eq_some_iff.1 hj).1
  rw [Array.length_toList, jU hl] at h2
  exact h2
 rw [Nat.zero_add, ax hh, ← hj, Array.getElem?_toList]
 by_cases h3 : j < 32
 · rw [o_, aJ, Array.getElem?_append_left (by rw [aS, hl]; exact h3), Array.getElem?_append_left (by rw [aS, hl]; exact h3)]
 ·
  obtain rfl : j = 32 := by omega
  rw [sJ hl, aJ, Array.getElem?_append_right (by rw [aS, hl]; exact Nat.le_refl _), aS, hl]
  rfl
theorem kN (hl : h.length = 32) : (Tryz.prog.info? 27).map (·.size) = some (aJ h c).toList.length := (ai (c := c) hl).trans (by simp)
theorem aD {w w' : World} (h : Below w.heap.size w w') (r : Option Nat) : w.grownBy w' r := ⟨h.os, h.tape, h.output, h.size, fun k hk _ => h.block k hk⟩
theorem bI {w w1 w2 : World} {r : Option Nat} (h1 : w.grownBy w1 r) (h2 : w1.grownBy w2 r) : w.grownBy w2 r :=
 ⟨h2.os.trans h1.os, h2.tape.trans h1.tape, h2.output.trans h1.output, Nat.le_trans h1.size h2.size, fun k hk hne => (h2.block k (Nat.lt_of_lt_of_le hk h1.size) hne).trans (h1.block k hk hne)⟩
theorem dN {w : World} (b j : Nat) (v : Value) : w.grownBy (w.setCell ⟨b, j, none⟩ v) (some b) := v_ w b j v
theorem h_ {w w' : World} {b B : Nat} (h : w.grownBy w' (some b)) (hB : B ≤ b) (hs : B ≤ w.heap.size) : Below B w w' := (Below.refl B w).grown h hs (fun j hj => by cases hj; exact hB)
theorem jm {w w1 : World} {r : Option Nat} (h : w.grownBy w1 r) (a : Nat) (ha : w.heap.size ≤ a) (cs : Array Value) : w.grownBy (w1.setRow a cs) r :=
 ⟨h.os, h.tape, h.output, by rw [setRow_size]; exact h.size, fun k hk hne => (setRow_other w1 a k cs (by omega)).trans (h.block k hk hne)⟩
theorem kM {w w1 : World} {r : Option Nat} (h : w.grownBy w1 r) (o : Obj) : w.grownBy (w1.alloc o) r := bI h (aD (af _ _) r)
def iU (h : List Int) (c : Int) : List Int := xN (h ++ jO c)
theorem Df (h : List Int) (c : Int) : (iU h c).length = 32 := jb _
theorem wW (h : List Int) (c : Int) : aA (iU h c) = true := y8 _
theorem uy (h : List Int) (hl : Hid (h.length = 32)) (b : Nat) (f0 : Bool) (w : World) (hS : Hid (dx w b h 1099511627776 f0)) :
  Calls Tryz.prog 87 #[.pointer (some ⟨b, 0, none⟩)] w fun e w' => e = .returned (.agg (arr .u8 (aT 32))) ∧ dx w' b h 1099511627776 true ∧ w.grownBy w' (some b) := by
 obtain ⟨W, hW⟩ : ∃ W, w.alloc (.cells z32 25) = W := ⟨_, rfl⟩
 have jr : Hid (Below w.heap.size w W) := aa (by rw [← hW]; exact af _ _)
 have mI : Hid (bD .u8 25 W w.heap.size (aT 32)) := aa (by rw [← hW, xE]; exact heap_alloc_new _ _)
 have HS := aa (hS.out.below jr.out)
 have LG : Hid (b < w.heap.size) := aa hS.out.lt
 have HW := aa hW
 clear hW
 obtain ⟨c1, c2⟩ := HS.out.count hl.out
 obtain ⟨f1, f2⟩ := HS.out.full hl.out
 have HS2 := aa (HS.out.set33 hl.out true)
 have HR2 : Hid (bD .u8 25 (W.setCell ⟨b, 33, none⟩ (.bool true)) w.heap.size (aT 32)) := aa (mI.out.set_ne (by have := LG.out; omega))
 go_in
 go_upto_region 1 with (fail)
 rw [HW.out]
 clear HW
 go_wp2_with ((with_reducible show wpList _ _ _ (⟨none, _, _, _, _, _⟩ :: _) _ _); refine wpList_store_row rfl 25 _ _ rfl w.heap.size (arr .u8 (aT 32)) rfl rfl _ _ HR2.out (bE rfl) (jf (l := aT 32) rfl rfl) (dU _) ?_)
 have HRR : Hid (bD .u8 25 ((W.setCell ⟨b, 33, none⟩ (.bool true)).setRow w.heap.size (arr .u8 (aT 32))) w.heap.size (aT 32)) := aa HR2.out.setRow
 have JG : dx ((W.setCell ⟨b, 33, none⟩ (.bool true)).setRow w.heap.size (arr .u8 (aT 32))) b h 1099511627776 true := (setRow_other _ _ b _ (by have := LG.out; omega)).trans HS2.out
 have hGF : w.grownBy ((W.setCell ⟨b, 33, none⟩ (.bool true)).setRow w.heap.size (arr .u8 (aT 32))) (some b) := jm (bI (aD jr.out _) (dN b 33 _)) _ (Nat.le_refl _) _
 exact bodyPost_ret (v := .agg (arr .u8 (aT 32))) (jl (p := 2) (ty := 25) rfl _ _ ⟨w.heap.size, 0, none⟩ _ rfl (run_loadVar_row _ _ _ _ _ _ _ HRR.out Tryz.underlying25 rfl (bE rfl))) rfl ⟨rfl, JG, hGF⟩
theorem zN (h : List Int) (hl : Hid (h.length = 32)) (hb : Hid (aA h = true)) (c : Int) (hc0 : 0 ≤ c) (hc1 : c < 1099511627776) (b : Nat) (w : World) (hv : Hid (dQ w)) (hS : Hid (dx w b h c false)) :
  Calls Tryz.prog 87 #[.pointer (some ⟨b, 0, none⟩)] w fun e w' => e = .returned (.agg (arr .u8 (iU h c))) ∧ dx w' b h (c + 1) false ∧ w.grownBy w' (some b) := by
 obtain ⟨W, hW⟩ : ∃ W, w.alloc (.cells z32 25) = W := ⟨_, rfl⟩
 have jr : Hid (Below w.heap.size w W) := aa (by rw [← hW]; exact af _ _)
 have mI : Hid (bD .u8 25 W w.heap.size (aT 32)) := aa (by rw [← hW, xE]; exact heap_alloc_new _ _)
 have HS := aa (hS.out.below jr.out)
 have HV := aa (hv.out.below jr.out)
 have LG : Hid (b < w.heap.size) := aa hS.out.lt
 have HW := aa hW
 have hcn : ¬ (c = 1099511627776) := by omega
 have hwr : IntKind.i64.wrap (c + 1) = c + 1 := IntWalk.i64_in _ (by omega)
 clear hW
 obtain ⟨c1, c2⟩ := HS.out.count hl.out
 go_in
 go_upto_region 1 with (fail)
 rw [HW.out]
 clear HW
 go_wp2_with ((with_reducible show wpList _ _ _ (⟨some 17, _, _, _, _, _⟩ :: _) _ _); refine wpList_load_mid rfl 27 _ rfl b 0 rfl (aJ h c).toList _ (HS.out.range hl.out) Tryz.underlying27 rfl (kN hl.out) ?_)
 clear c1 c2
 refine (pE h hl c hc0 (by omega) _).mono ?_
 rintro e w1 ⟨v1, rfl, ho1, hb1⟩
 have D8 := aa (HS.out.below hb1)
 have HR1 := aa (mI.out.below hb1)
 have rG := aa (HV.out.below hb1)
 have HB1 := aa (ag jr.out hb1)
 obtain ⟨E, hE⟩ : ∃ E, h ++ jO c = E := ⟨_, rfl⟩
 have Pp : Hid (E.length = 40) := aa (by rw [← hE, List.length_append, hl.out, fZ])
 have Uv : Hid (aA E = true) := aa (by rw [← hE, iq, hb.out, qp]; rfl)
 rw [hE] at ho1
 obtain ⟨g1, I8, e1, hg1, -, -, Kw⟩ := ho1.cells (by rw [Pp.out]; decide)
 rw [Pp.out] at e1
 subst e1
 have Dw := aa Kw
 have PL : Kp (iU h c = xN E) := ⟨by rw [iU, hE]⟩
 clear hb1 ho1 hE Kw hg1
 go_wp2_with fail
 refine (Ew g1 0 I8 E 40 Pp (by omega) Uv _ Dw rG).mono ?_
 rintro e w2 ⟨rfl, hb2⟩
 obtain ⟨R, hR⟩ : ∃ R, xN E = R := ⟨_, rfl⟩
 have xq : Hid (R.length = 32) := aa (by rw [← hR]; exact jb _)
 have Lx : Kp (iU h c = R) := ⟨by rw [PL.1, hR]⟩
 rw [hR]
 have HS2 := aa (D8.out.below hb2)
 have HR2 := aa (HR1.out.below hb2)
 have HB2 := aa (ag HB1.out hb2)
 clear hb2 hR Dw
 go_upto_region 5 with ((with_reducible show wpList _ _ _ (⟨none, _, _, _, _, _⟩ :: _) _ _); refine wpList_store_row rfl 25 _ _ rfl w2.heap.size (arr .u8 R) rfl rfl _ _ (heap_alloc_new _ _) (bE xq.out) (jf (l := aT 32) rfl xq.out) (dU _) ?_)
 rw [World.setRow_alloc_new]
 try simp only [Act.put]
 have Eb : Hid (bD .u8 25 (w2.alloc (.cells (arr .u8 R) 25)) w2.heap.size R) := aa (bD.new _ _)
 have pI := aa (HS2.out.below (af w2 (.cells (arr .u8 R) 25)))
 have HR3 := aa (HR2.out.below (af w2 (.cells (arr .u8 R) 25)))
 have HB3 := aa (ag HB2.out (af w2 (.cells (arr .u8 R) 25)))
 have Pe : Hid (b < w2.heap.size) := aa HS2.out.lt
 obtain ⟨W3, hW3⟩ : ∃ u, w2.alloc (.cells (arr .u8 R) 25) = u := ⟨_, rfl⟩
 rw [hW3] at Eb pI HR3 HB3 ⊢
 clear hW3 HS2 HR2 HB2
 obtain ⟨c1, c2⟩ := pI.out.count hl.out
 have xm := aa (pI.out.set32 hl.out (c + 1))
 have HR4 : Hid (bD .u8 25 (W3.setCell ⟨b, 32, none⟩ (.int .i64 (c + 1))) w.heap.size (aT 32)) := aa (HR3.out.set_ne (by have := LG.out; omega))
 have Nf : Hid (bD .u8 25 (W3.setCell ⟨b, 32, none⟩ (.int .i64 (c + 1))) w2.heap.size R) := aa (Eb.out.set_ne (by have := Pe.out; omega))
 go_wp2_with (first
  | ((with_reducible show wpList _ _ _ (⟨some 29, _, _, _, _, _⟩ :: _) _ _); refine wpList_load_row rfl 25 _ rfl w2.heap.size rfl _ _ _ _ Nf.out Tryz.underlying25 rfl (bE xq.out) ?_)
  | ((with_reducible show wpList _ _ _ (⟨none, 28, _, _, _, _⟩ :: _) _ _); fail)
  | (refine wpList_store_row rfl 25 _ _ rfl w.heap.size (arr .u8 R) rfl rfl _ _ HR4.out (bE xq.out) (jf (l := aT 32) rfl xq.out) (dU _) ?_))
 have HRR : Hid (bD .u8 25 ((W3.setCell ⟨b, 32, none⟩ (.int .i64 (c + 1))).setRow w.heap.size (arr .u8 R)) w.heap.size R) := aa HR4.out.setRow
 have JG : dx ((W3.setCell ⟨b, 32, none⟩ (.int .i64 (c + 1))).setRow w.heap.size (arr .u8 R)) b h (c + 1) false := (setRow_other _ _ b _ (by have := LG.out; omega)).trans xm.out
 have hGF : w.grownBy ((W3.setCell ⟨b, 32, none⟩ (.int .i64 (c + 1))).setRow w.heap.size (arr .u8 R)) (some b) := jm (bI (aD HB3.out _) (dN b 32 _)) _ (Nat.le_refl _) _
 exact bodyPost_ret (v := .agg (arr .u8 R)) (jl (p := 2) (ty := 25) rfl _ _ ⟨w.heap.size, 0, none⟩ _ rfl (run_loadVar_row _ _ _ _ _ _ _ HRR.out Tryz.underlying25 rfl (bE xq.out))) rfl ⟨by rw [Lx.1], JG, hGF⟩
theorem ry : Tryz.prog.built 27 [] = some (aJ (aT 32) 0) := by kernel_rfl
def J4 (h : List Int) (c e : Int) : Value := .tuple #[.agg (aJ h c), .int .i64 e]
theorem um (h : List Int) (hl : Hid (h.length = 32)) (c : Int) (f : Bool) (b : Nat) (w : World) (hS : Hid (dx w b h c f)) :
  Calls Tryz.prog 62 #[.pointer (some ⟨b, 0, none⟩)] w (Rt w (if f = true then J4 (aT 32) 0 5 else J4 h c 0)) := by
 obtain ⟨W, hW⟩ : ∃ W, w.alloc (.cells #[.int .u8 0, .int .u8 0, .int .u8 0, .int .u8 0, .int .u8 0, .int .u8 0, .int .u8 0, .int .u8 0, .int .u8 0, .int .u8 0, .int .u8 0, .int .u8 0, .int .u8 0, .int .u8 0, .int .u8 0, .int .u8 0, .int .u8 0, .int .u8 0, .int .u8 0, .int .u8 0, .int .u8 0, .int .u8 0, .int .u8 0, .int .u8 0, .int .u8 0, .int .u8 0, .int .u8 0, .int .u8 0, .int .u8 0, .int .u8 0, .int .u8 0, .int .u8 0, .int .i64 0] 27) = W := ⟨_, rfl⟩
 have jr : Hid (Below w.heap.size w W) := aa (by rw [← hW]; exact af _ _)
 have mI : Hid (aQ W w.heap.size (aT 32) 0) := aa (by rw [← hW, Jy]; exact heap_alloc_new _ _)
 have HS := aa (hS.out.below jr.out)
 have HW := aa hW
 clear hW
 obtain ⟨f1, f2⟩ := HS.out.full hl.out
 cases f with
 | true =>
  rw [if_pos rfl]
  go_in
  go_upto_region 1 with (fail)
  rw [HW.out]
  clear HW
  go_wp2_with (first
   | ((with_reducible show wpList _ _ _ (⟨some 8, _, _, _, _, _⟩ :: _) _ _); refine dB rfl 27 _ rfl _ ry ?_)
   | ((with_reducible show wpList _ _ _ (⟨none, _, _, _, _, _⟩ :: _) _ _); refine wpList_store_row rfl 27 _ _ rfl w.heap.size (aJ (aT 32) 0) rfl rfl _ _ mI.out (ai rfl) rfl (aR _ _) ?_))
  have HRR : Hid (aQ (W.setRow w.heap.size (aJ (aT 32) 0)) w.heap.size (aT 32) 0) := aa mI.out.setRow
  exact bodyPost_ret (v := J4 (aT 32) 0 5) (fM (p := 2) (q := 3) (ty := 27) rfl _ _ ⟨w.heap.size, 0, none⟩ _ _ rfl rfl (run_loadVar_row _ _ _ _ _ _ _ HRR.out Tryz.underlying27 rfl (ai rfl))) rfl ⟨rfl, aj jr.out (Nat.le_refl _)⟩
 | false =>
  rw [if_neg (by decide)]
  go_in
  go_upto_region 1 with (fail)
  rw [HW.out]
  clear HW
  go_wp2_with (first
   | ((with_reducible show wpList _ _ _ (⟨some 12, _, _, _, _, _⟩ :: _) _ _); refine wpList_load_mid rfl 27 _ rfl b 0 rfl (aJ h c).toList _ (HS.out.range hl.out) Tryz.underlying27 rfl (kN hl.out) ?_)
   | ((with_reducible show wpList _ _ _ (⟨none, _, _, _, _, _⟩ :: _) _ _); refine wpList_store_row rfl 27 _ _ rfl w.heap.size (aJ h c) rfl rfl _ _ mI.out (ai hl.out) (dZ rfl hl.out) (aR _ _) ?_))
  have HRR : Hid (aQ (W.setRow w.heap.size (aJ h c)) w.heap.size h c) := aa mI.out.setRow
  exact bodyPost_ret (v := J4 h c 0) (fM (p := 2) (q := 3) (ty := 27) rfl _ _ ⟨w.heap.size, 0, none⟩ _ _ rfl rfl (run_loadVar_row _ _ _ _ _ _ _ HRR.out Tryz.underlying27 rfl (ai hl.out))) rfl ⟨rfl, aj jr.out (Nat.le_refl _)⟩
def bG (q : Int) : Int := IntKind.u64.wrap (IntKind.u64.wrap (2 ^ min (Lib.bitLen (q - 1).toNat) 64) - 1)
def bN (h : List Int) (q m : Int) : Nat → Int → Int → Int × Int × Bool
 | 0, c, x => (x.tmod q, c, false)
 | k + 1, c, x => if c = 1099511627776 then (0, c, true) else if bits BinOp.and IntKind.u64 (iG (iU h c)) m < q then (bits BinOp.and IntKind.u64 (iG (iU h c)) m, c + 1, false) else bN h q m k (c + 1) (bits BinOp.and IntKind.u64 (iG (iU h c)) m)
theorem qQ {h : List Int} {q m : Int} (hq : 1 ≤ q) : ∀ (k : Nat) (c x : Int), 0 ≤ x → 0 ≤ (bN h q m k c x).1 ∧ (bN h q m k c x).1 < q
 | 0, c, x, hx => by
  simp only [bN]
  rw [Int.tmod_eq_emod_of_nonneg hx]
  exact ⟨Int.emod_nonneg _ (by omega), Int.emod_lt_of_pos _ (by omega)⟩
 | k + 1, c, x, hx => by
  have hb := bits_lo_u64 BinOp.and (iG (iU h c)) m
  simp only [bN]
  by_cases hc : c = 1099511627776
  · rw [if_pos hc]; exact ⟨Int.le_refl _, by show (0 : Int) < q; omega⟩
  ·
   rw [if_neg hc]
   by_cases hy : bits BinOp.and IntKind.u64 (iG (iU h c)) m < q
   · rw [if_pos hy]; exact ⟨hb, hy⟩
   · rw [if_neg hy]; exact qQ hq k _ _ hb
theorem ku {h : List Int} {q m : Int} : ∀ (k : Nat) (c x : Int), c ≤ 1099511627776 → c ≤ (bN h q m k c x).2.1 ∧ (bN h q m k c x).2.1 ≤ 1099511627776
 | 0, c, x, hc => ⟨Int.le_refl _, hc⟩
 | k + 1, c, x, hc => by
  simp only [bN]
  by_cases he : c = 1099511627776
  · rw [if_pos he]; exact ⟨Int.le_refl _, hc⟩
  ·
   rw [if_neg he]
   by_cases hy : bits BinOp.and IntKind.u64 (iG (iU h c)) m < q
   · rw [if_pos hy]; exact ⟨by show c ≤ c + 1; omega, by show c + 1 ≤ 1099511627776; omega⟩
   ·
    rw [if_neg hy]
    have h2 := ku (h := h) (q := q) (m := m) k (c + 1) (bits BinOp.and IntKind.u64 (iG (iU h c)) m) (by omega)
    exact ⟨by omega, h2.2⟩
theorem mh (h : List Int) (hl : Hid (h.length = 32)) (hb : Hid (aA h = true)) (q : Int) (hq1 : 1 ≤ q) (hq2 : q < 2305843009213693952) (c : Int) (hc0 : 0 ≤ c) (hc1 : c ≤ 1099511627776) (b : Nat) (w0 : World) (hv : Hid (dQ w0)) (w : World) (hB0 : Hid (Below w0.heap.size w0 w)) (hB : w0.heap.size ≤ b) (f0 : Bool) (hf0 : f0 = true → c = 1099511627776) (hS : Hid (dx w b h c f0)) (n c2 : Int) (f : Bool) (hN : Kp (bN h q (bG q) 256 c 0 = (n, c2, f))) :
  Calls Tryz.prog 61 #[.pointer (some ⟨b, 0, none⟩), .int .i64 q] w fun e w' => e = .returned (.int .i64 n) ∧ dx w' b h c2 f ∧ w.grownBy w' (some b) := by
 have q0 : IntKind.i64.wrap (q - 1) = q - 1 := IntWalk.i64_in _ (by omega)
 have q2 : IntKind.u64.wrap (q - 1) = q - 1 := by simp [IntKind.wrap, IntKind.bits, IntKind.signed]; omega
 have q3 : IntKind.u64.wrap q = q := by simp [IntKind.wrap, IntKind.bits, IntKind.signed]; omega
 go_in
 go_wp2_with fail
 refine (Tryz.bits_Len64 (q - 1) _ (by omega) (by omega)).mono ?_
 rintro e w1 ⟨rfl, rfl⟩
 obtain ⟨ln, hln⟩ : ∃ n, Lib.bitLen (q - 1).toNat = n := ⟨_, rfl⟩
 obtain ⟨m1, hm1⟩ : ∃ m, IntKind.u64.wrap (2 ^ min ln 64) = m := ⟨_, rfl⟩
 obtain ⟨m, hm⟩ : ∃ m, IntKind.u64.wrap (m1 - 1) = m := ⟨_, rfl⟩
 have HN : Kp (bN h q m 256 c 0 = (n, c2, f)) := ⟨by rw [← hN.1, bG, hln, hm1, hm]⟩
 rw [hln]
 go_wp2
 clear hln hm hm1 hN
 go_loopw [6, 14] (fun x i u => ∃ (k : Nat) (y cc : Int) (ff : Bool), k ≤ 256 ∧ i = .int .i64 k ∧ x = .int .u64 y ∧ Hid (0 ≤ y) ∧ Hid (0 ≤ cc ∧ cc ≤ 1099511627776) ∧ Kp (bN h q m (256 - k) cc y = (n, c2, f)) ∧ Hid (dx u b h cc ff) ∧ Hid ((ff = true → cc = 1099511627776) ∧ (0 < k → ff = false)) ∧ Hid (w1.grownBy u (some b))) (fun _ i _ => 256 - (intOf i).toNat)
 case atStart => exact ⟨0, 0, c, f0, by omega, rfl, rfl, aa (Int.le_refl _), aa ⟨hc0, hc1⟩, HN, hS, aa ⟨hf0, fun h0 => absurd h0 (Nat.lt_irrefl _)⟩, aa (aD (Below.refl _ _) _)⟩
 case round =>
  obtain ⟨k, y, cc, ff, hk, rfl, rfl, HY, HC, D_, mH, Nj, uO⟩ := hrel
  obtain ⟨Od, Sv⟩ := HC.out
  by_cases hlt : k < 256
  ·
   have zI : 256 - k = (256 - (k + 1)) + 1 := by omega
   by_cases hcf : cc = 1099511627776
   ·
    subst hcf
    have HE : Kp ((0, 1099511627776, true) = (n, c2, f)) := ⟨by rw [← D_.1, zI, bN, if_pos rfl]⟩
    go_wp2_with fail
    refine (uy h hl b ff _ mH).mono ?_
    rintro e w2 ⟨rfl, hS2, hG2⟩
    have HS2 := aa hS2
    have HG2 := aa (bI uO.out hG2)
    clear hS2 hG2
    go_upto_region 6 with ((with_reducible show wpList _ _ _ (⟨none, _, _, _, _, _⟩ :: _) _ _); refine wpList_store_row rfl 25 _ _ rfl w2.heap.size (arr .u8 (aT 32)) rfl rfl _ _ (heap_alloc_new _ _) (bE rfl) (jf (l := aT 32) rfl rfl) (dU _) ?_)
    rw [World.setRow_alloc_new]
    try simp only [Act.put]
    have pI := aa (HS2.out.below (af w2 (.cells (arr .u8 (aT 32)) 25)))
    have LJ := aa (kM HG2.out (.cells (arr .u8 (aT 32)) 25))
    obtain ⟨W3, hW3⟩ : ∃ u, w2.alloc (.cells (arr .u8 (aT 32)) 25) = u := ⟨_, rfl⟩
    rw [hW3] at pI LJ ⊢
    clear hW3
    obtain ⟨f1, f2⟩ := pI.out.full hl.out
    have he1 : n = 0 := by have h2 := HE.1; simp only [Prod.mk.injEq] at h2; exact h2.1.symm
    have he2 : c2 = 1099511627776 := by have h2 := HE.1; simp only [Prod.mk.injEq] at h2; exact h2.2.1.symm
    have II : f = true := by have h2 := HE.1; simp only [Prod.mk.injEq] at h2; exact h2.2.2.symm
    go_wp2
    go_ret
    exact ⟨by rw [he1]; rfl, by rw [he2, II]; exact pI.out, LJ.out⟩
   ·
    have hcl : cc < 1099511627776 := by omega
    have Fs : ff = false := by
     cases hq : ff with
     | false => rfl
     | true => exact absurd (Nj.out.1 hq) hcf
    subst Fs
    have zZ := aa (hv.out.below (hB0.out.trans (h_ uO.out hB hB0.out.size)))
    go_wp2_with fail
    refine (zN h hl hb cc Od hcl b _ zZ mH).mono ?_
    rintro e w2 ⟨rfl, hS2, hG2⟩
    obtain ⟨R, hR⟩ : ∃ R, iU h cc = R := ⟨_, rfl⟩
    have xq : Hid (R.length = 32) := aa (by rw [← hR]; exact Df _ _)
    have TP : Hid (aA R = true) := aa (by rw [← hR]; exact wW _ _)
    have oO : Kp ((if bits BinOp.and IntKind.u64 (iG R) m < q then (bits BinOp.and IntKind.u64 (iG R) m, cc + 1, false) else bN h q m (256 - (k + 1)) (cc + 1) (bits BinOp.and IntKind.u64 (iG R) m)) = (n, c2, f)) := ⟨by rw [← D_.1, zI, bN, if_neg hcf, hR]⟩
    rw [hR]
    have HS2 := aa hS2
    have HG2 := aa (bI uO.out hG2)
    clear hS2 hG2 hR D_ zI
    go_upto_region 6 with ((with_reducible show wpList _ _ _ (⟨none, _, _, _, _, _⟩ :: _) _ _); refine wpList_store_row rfl 25 _ _ rfl w2.heap.size (arr .u8 R) rfl rfl _ _ (heap_alloc_new _ _) (bE xq.out) (jf (l := aT 32) rfl xq.out) (dU _) ?_)
    rw [World.setRow_alloc_new]
    try simp only [Act.put]
    have Eb : Hid (bD .u8 25 (w2.alloc (.cells (arr .u8 R) 25)) w2.heap.size R) := aa (bD.new _ _)
    have pI := aa (HS2.out.below (af w2 (.cells (arr .u8 R) 25)))
    have LJ := aa (kM HG2.out (.cells (arr .u8 R) 25))
    obtain ⟨W3, hW3⟩ : ∃ u, w2.alloc (.cells (arr .u8 R) 25) = u := ⟨_, rfl⟩
    rw [hW3] at pI LJ Eb ⊢
    clear hW3
    obtain ⟨f1, f2⟩ := pI.out.full hl.out
    go_wp2_with ((with_reducible show wpList _ _ _ (⟨some 22, _, _, _, _, _⟩ :: _) _ _); refine wpList_load_row rfl 25 _ rfl w2.heap.size rfl _ _ _ _ Eb.out Tryz.underlying25 rfl (bE xq.out) ?_)
    clear f1 f2
    refine (wL R xq TP _).mono ?_
    rintro e w4 ⟨rfl, hb4⟩
    have xm := aa (pI.out.below hb4)
    have Rh := aa (bI LJ.out (aD hb4 _))
    have hz0 := bits_lo_u64 BinOp.and (iG R) m
    obtain ⟨z, hz⟩ : ∃ z, bits BinOp.and IntKind.u64 (iG R) m = z := ⟨_, rfl⟩
    rw [hz] at hz0 oO
    obtain ⟨fr, hfr⟩ : ∃ z, iG R = z := ⟨_, rfl⟩
    rw [hfr] at hz ⊢
    clear hb4 hfr
    by_cases NJ : z < q
    ·
     have HE : Kp ((z, cc + 1, false) = (n, c2, f)) := ⟨by rw [← oO.1, if_pos NJ]⟩
     have d1 : decide (z < q) = true := by simp [NJ]
     have z1 : IntKind.i64.wrap z = z := IntWalk.i64_in _ (by omega)
     have he1 : n = z := by have h2 := HE.1; simp only [Prod.mk.injEq] at h2; exact h2.1.symm
     have he2 : c2 = cc + 1 := by have h2 := HE.1; simp only [Prod.mk.injEq] at h2; exact h2.2.1.symm
     have II : f = false := by have h2 := HE.1; simp only [Prod.mk.injEq] at h2; exact h2.2.2.symm
     have J2 := aa he1
     have HE2 := aa he2
     have Pq := aa II
     clear oO he1 he2 II
     go_wp2
     go_ret
     exact ⟨by rw [J2.out]; rfl, by rw [HE2.out, Pq.out]; exact xm.out, Rh.out⟩
    ·
     have HE : Kp (bN h q m (256 - (k + 1)) (cc + 1) z = (n, c2, f)) := ⟨by rw [← oO.1, if_neg NJ]⟩
     have d1 : decide (z < q) = false := by simp; omega
     have HZ0 := aa hz0
     have UD : Hid (0 ≤ cc + 1 ∧ cc + 1 ≤ 1099511627776) := aa (by omega)
     clear oO
     go_wp2
     go_roundw
     case rel => exact ⟨k + 1, z, cc + 1, false, by omega, by go_num, rfl, HZ0, UD, HE, xm, aa ⟨(fun h0 => absurd h0 (by decide)), (fun _ => rfl)⟩, Rh⟩
     case measure => simp [intOf]; omega
  ·
   obtain rfl : k = 256 := by omega
   obtain rfl : ff = false := Nj.out.2 (by omega)
   have hy := HY.out
   have HE : Kp ((y.tmod q, cc, false) = (n, c2, f)) := ⟨by rw [← D_.1]; rfl⟩
   obtain ⟨z, hz⟩ : ∃ z, y.tmod q = z := ⟨_, rfl⟩
   have hz0 : 0 ≤ z ∧ z < q := by
    rw [← hz, Int.tmod_eq_emod_of_nonneg hy]
    exact ⟨Int.emod_nonneg _ (by omega), Int.emod_lt_of_pos _ (by omega)⟩
   have z1 : IntKind.i64.wrap z = z := IntWalk.i64_in _ (by omega)
   have qz : ((q : Int) == 0) = false := by simp; omega
   have UZ : ¬ (q = 0) := by omega
   have he1 : n = z := by have h2 := HE.1; simp only [Prod.mk.injEq] at h2; rw [← hz]; exact h2.1.symm
   have he2 : c2 = cc := by have h2 := HE.1; simp only [Prod.mk.injEq] at h2; exact h2.2.1.symm
   have II : f = false := by have h2 := HE.1; simp only [Prod.mk.injEq] at h2; exact h2.2.2.symm
   have J2 := aa he1
   have HE2 := aa he2
   have Pq := aa II
   clear HE he1 he2 II hlt D_
   go_wp2
   go_ret
   exact ⟨by rw [J2.out]; rfl, by rw [HE2.out, Pq.out]; exact mH.out, uO.out⟩
theorem qD (a b m v : Int) (hv : Hid (a * b % m = v)) (h2 : m < 2305843009213693952) (ha0 : 0 ≤ a) (ha : a < m) (hb0 : 0 ≤ b) (hb : b < m) (w : World) :
  Calls Tryz.prog 37 #[.int .i64 a, .int .i64 b, .int .i64 m] w fun e w' => e = .returned (.tuple #[.int .i64 v, .int .i64 0]) ∧ ∃ n, w' = w.drewN n := by
 rw [← hv.out]; exact xI a b m h2 ha0 ha hb0 hb w
theorem lM {Q x : Int} (h : bf Q x = true) : 0 ≤ x := by simp [bf] at h; exact h.1
theorem lN {Q x : Int} (h : bf Q x = true) : x < Q := by simp [bf] at h; exact h.2
theorem bq.keep {w w' : World} {B : Nat} {v : Value} {xs : List Int} (h : bq w B v xs) (hb : Below w.heap.size w w') : bq w' B v xs := by
 obtain ⟨h1, h2⟩ := h
 refine ⟨h1, h2.imp id ?_⟩
 rintro ⟨g, cap, cur, rfl, hg, hh, rest⟩
 exact ⟨g, cap, cur, rfl, hg, (hb.block g (Array.getElem?_eq_some_iff.1 hh).1).trans hh, rest⟩
theorem bq.mono {w : World} {B B' : Nat} {v : Value} {xs : List Int} (h : bq w B v xs) (hb : B' ≤ B) : bq w B' v xs := by
 obtain ⟨h1, h2⟩ := h
 refine ⟨h1, h2.imp id ?_⟩
 rintro ⟨g, cap, cur, rfl, hg, rest⟩
 exact ⟨g, cap, cur, rfl, by omega, rest⟩
theorem eX {w : World} {b : Nat} {xs : List Int} (h : Cells w b xs) : Sl w (some ⟨b, 0, none⟩) xs := fun k hk => ⟨b, 0, rfl, by rw [Nat.zero_add]; exact h k hk⟩
theorem mQ {Q c : Int} (h0 : 0 ≤ c) (h1 : c < Q) : [c].all (bf Q) = true := by simp [bf]; omega
def iI (h : List Int) (q c : Int) : Nat → Int × Bool
 | 0 => (c, false)
 | k + 1 => ((bN h q (bG q) 256 (iI h q c k).1 0).2.1, (bN h q (bG q) 256 (iI h q c k).1 0).2.2)
def xD (h : List Int) (q c : Int) (k : Nat) : Int := (bN h q (bG q) 256 (iI h q c k).1 0).1
def iE (h : List Int) (q c : Int) (n : Nat) : List Int := (List.range n).map (xD h q c)
theorem nZ (h : List Int) (q c : Int) (n : Nat) : (iE h q c n).length = n := by simp [iE]
theorem zC (h : List Int) (q c : Int) (k : Nat) : iE h q c (k + 1) = iE h q c k ++ [xD h q c k] := by simp [iE, List.range_succ]
theorem p9 {h : List Int} {q m : Int} : ∀ (k : Nat) (c x : Int), (bN h q m k c x).2.2 = true → (bN h q m k c x).2.1 = 1099511627776
 | 0, c, x, hf => by simp [bN] at hf
 | k + 1, c, x, hf => by
  simp only [bN] at hf ⊢
  by_cases he : c = 1099511627776
  · rw [if_pos he]; exact he
  ·
   rw [if_neg he] at hf ⊢
   by_cases hy : bits BinOp.and IntKind.u64 (iG (iU h c)) m < q
   · rw [if_pos hy] at hf; cases hf
   · rw [if_neg hy] at hf ⊢; exact p9 k _ _ hf
theorem AO {h : List Int} {q c : Int} (hc0 : 0 ≤ c) (hc1 : c ≤ 1099511627776) : ∀ k, 0 ≤ (iI h q c k).1 ∧ (iI h q c k).1 ≤ 1099511627776 ∧ ((iI h q c k).2 = true → (iI h q c k).1 = 1099511627776)
 | 0 => ⟨hc0, hc1, fun h => by cases h⟩
 | k + 1 => by
  obtain ⟨h0, h1, _⟩ := AO (h := h) (q := q) hc0 hc1 k
  have h2 := ku (h := h) (q := q) (m := bG q) 256 (iI h q c k).1 0 h1
  exact ⟨by show 0 ≤ (bN h q (bG q) 256 (iI h q c k).1 0).2.1; omega, h2.2, p9 256 _ _⟩
theorem J8 {h : List Int} {q c : Int} (hq : 1 ≤ q) (k : Nat) : 0 ≤ xD h q c k ∧ xD h q c k < q := qQ hq _ _ _ (Int.le_refl _)
theorem yt {h : List Int} {q c : Int} (hq : 1 ≤ q) (n : Nat) : (iE h q c n).all (bf q) = true := by
 rw [List.all_eq_true]
 intro x hx
 obtain ⟨i, _, rfl⟩ := List.mem_map.1 hx
 have := J8 (h := h) (c := c) hq i
 simp [bf]; exact this
theorem De (h : List Int) (hl : h.length = 32) (c : Int) : Tryz.prog.built 87 [(0, .agg (aJ h c))] = some (o_ h c false) := by
 obtain ⟨a0, a1, a2, a3, a4, a5, a6, a7, a8, a9, MJ, MI, a12, MH, MG, MF, a16, a17, ME, MC, a20, a21, a22, a23, a24, a25, a26, a27, a28, a29, a30, a31, rfl⟩ := Ig h hl
 kernel_rfl
def rF (h : List Int) (q c : Int) (n : Nat) (w : World) (e : Ending) (w' : World) : Prop :=
 if (iI h q c n).2 = true then e = .returned (.tuple #[.agg (aJ (aT 32) 0), .slice none 0 0, .int .i64 5]) ∧ Below w.heap.size w w'
 else ∃ v, e = .returned (.tuple #[.agg (aJ h (iI h q c n).1), v, .int .i64 0]) ∧ bq w' w.heap.size v (iE h q c n) ∧ Below w.heap.size w w'
theorem qh (h : List Int) (hl : Hid (h.length = 32)) (hb : Hid (aA h = true)) (c : Int) (hdr : Hid (ow c = true)) (q : Int) (hq1 : 1 ≤ q) (hq2 : q < 2305843009213693952) (n : Nat) (hn : n ≤ 1000) (w : World) (hv : Hid (dQ w)) :
  Calls Tryz.prog 24 #[.agg (aJ h c), .int .i64 q, .int .i64 n] w (rF h q c n w) := by
 obtain ⟨hc0, hc1⟩ : 0 ≤ c ∧ c ≤ 1099511627776 := by have h2 := hdr.out; simp [ow] at h2; exact h2
 obtain ⟨i0, hi, hz0, hz1, hz2⟩ := info_parts gW
 obtain ⟨W, hW⟩ : ∃ W, (w.alloc (.cells (aJ h c) 27)).alloc (.cells #[.int .u8 0, .int .u8 0, .int .u8 0, .int .u8 0, .int .u8 0, .int .u8 0, .int .u8 0, .int .u8 0, .int .u8 0, .int .u8 0, .int .u8 0, .int .u8 0, .int .u8 0, .int .u8 0, .int .u8 0, .int .u8 0, .int .u8 0, .int .u8 0, .int .u8 0, .int .u8 0, .int .u8 0, .int .u8 0, .int .u8 0, .int .u8 0, .int .u8 0, .int .u8 0, .int .u8 0, .int .u8 0, .int .u8 0, .int .u8 0, .int .u8 0, .int .u8 0, .int .i64 0] 27) = W := ⟨_, rfl⟩
 have jr : Hid (Below w.heap.size w W) := aa (by rw [← hW]; exact aI (Below.refl _ _))
 have HT0 : Hid (aQ W w.heap.size h c) := aa (by rw [← hW]; exact heap_alloc2_old _ _ _)
 have mI : Hid (aQ W (w.heap.size + 1) (aT 32) 0) := aa (by rw [← hW, Jy]; exact heap_alloc2_new _ _ _)
 have D6 : Hid (W.heap.size = w.heap.size + 2) := aa (by rw [← hW]; simp)
 have HV := aa (hv.out.below jr.out)
 have HW := aa hW
 clear hW hv
 go_in
 go_upto_region 1 with (fail)
 rw [HW.out]
 clear HW
 go_wp2_with ((with_reducible show wpList _ _ _ (⟨some 12, _, _, _, _, _⟩ :: _) _ _); refine wpList_load_row rfl 27 _ rfl w.heap.size rfl _ _ _ _ HT0.out Tryz.underlying27 rfl (ai hl.out) ?_)
 refine (lV h hl c hdr q 1 2305843009213693951 hq1 (by omega) _).mono ?_
 rintro e w1 ⟨rfl, hb1⟩
 have HT1 := aa (HT0.out.below hb1)
 have HB1 := aa (ag jr.out hb1)
 have LX := aa hb1
 clear hb1
 go_wp2_with ((with_reducible show wpList _ _ _ (⟨some 17, _, _, _, _, _⟩ :: _) _ _); refine wpList_load_row rfl 27 _ rfl w.heap.size rfl _ _ _ _ HT1.out Tryz.underlying27 rfl (ai hl.out) ?_)
 refine (lV h hl c hdr n 0 1000 (by omega) (by omega) _).mono ?_
 rintro e w2 ⟨rfl, hb2⟩
 have HT2 := aa (HT1.out.below hb2)
 have HB2 := aa (ag HB1.out hb2)
 have uP := aa (ag LX.out hb2)
 have w_ := aa (HV.out.below uP.out)
 clear hb2 HT1 HB1 LX
 go_wp2_with (first
  | ((with_reducible show wpList _ _ _ (⟨some 24, _, _, _, _, _⟩ :: _) _ _); refine wpList_load_row rfl 27 _ rfl w.heap.size rfl _ _ _ _ HT2.out Tryz.underlying27 rfl (ai hl.out) ?_)
  | ((with_reducible show wpList _ _ _ (⟨some 25, _, _, _, _, _⟩ :: _) _ _); refine dB rfl 87 _ rfl _ (De h hl.out c) ?_))
 have IU : dx (w2.alloc (.cells (o_ h c false) 87)) w2.heap.size h c false := heap_alloc_new _ _
 have hb3 := af w2 (.cells (o_ h c false) 87)
 have vT : (w2.alloc (.cells (o_ h c false) 87)).heap.size = w2.heap.size + 1 := by simp
 obtain ⟨W3, hW3⟩ : ∃ u, w2.alloc (.cells (o_ h c false) 87) = u := ⟨_, rfl⟩
 rw [hW3] at IU hb3 vT ⊢
 have pI := aa IU
 have HB3 := aa hb3
 have Dt := aa vT
 obtain ⟨b, hbb⟩ : ∃ b, w2.heap.size = b := ⟨_, rfl⟩
 rw [hbb] at pI Dt ⊢
 have Gh := aa hbb
 have hbw : w.heap.size + 2 ≤ b := by have := uP.out.size; have := D6.out; omega
 clear IU hb3 vT hW3 hbb
 go_loopw [11, 28] (fun v i u => ∃ k : Nat, k ≤ n ∧ i = .int .i64 k ∧ Hid (dx u b h (iI h q c k).1 (iI h q c k).2) ∧ Hid (bq u (b + 1) v (iE h q c k)) ∧ Hid (Below b w2 u) ∧ Hid (b + 1 ≤ u.heap.size)) (fun _ i _ => n - (intOf i).toNat)
 case atStart => exact ⟨0, by omega, rfl, pI, aa (kg _ _), aa (by have h2 := HB3.out; rwa [Gh.out] at h2), aa (by have := Dt.out; omega)⟩
 case round =>
  obtain ⟨k, hk, rfl, mH, HO, aB, K3⟩ := hrel
  by_cases hlt : k < n
  ·
   obtain ⟨hk0, hk1, N_⟩ := AO (h := h) (q := q) hc0 hc1 k
   have HST : Hid (iI h q c (k + 1) = ((bN h q (bG q) 256 (iI h q c k).1 0).2.1, (bN h q (bG q) 256 (iI h q c k).1 0).2.2)) := aa rfl
   have HX : Hid (xD h q c k = (bN h q (bG q) 256 (iI h q c k).1 0).1) := aa rfl
   have M9 := aa (zC h q c k)
   have uM := aa (nZ h q c k)
   obtain ⟨cc, hcc⟩ : ∃ x, (iI h q c k).1 = x := ⟨_, rfl⟩
   obtain ⟨ff, Fs⟩ : ∃ x, (iI h q c k).2 = x := ⟨_, rfl⟩
   obtain ⟨L, hL⟩ : ∃ x, iE h q c k = x := ⟨_, rfl⟩
   obtain ⟨x, hx⟩ : ∃ x, xD h q c k = x := ⟨_, rfl⟩
   obtain ⟨r, hr⟩ : ∃ x, bN h q (bG q) 256 cc 0 = x := ⟨_, rfl⟩
   rw [hcc, hr] at HST HX
   rw [hL, hx] at M9
   rw [hL] at uM HO
   rw [hx] at HX
   rw [hcc, Fs] at mH
   rw [hcc] at hk0 hk1 N_
   rw [Fs] at N_
   obtain ⟨rn, rc, rf⟩ := r
   have Lx : Kp (bN h q (bG q) 256 cc 0 = (rn, rc, rf)) := ⟨hr⟩
   obtain rfl : x = rn := HX.out
   clear hcc Fs hL hx hr HX
   go_wp2_with fail
   refine (mh h hl hb q hq1 hq2 cc hk0 hk1 b w2 w_ _ (aa (by have h2 := aB.out; rwa [← Gh.out] at h2)) (by rw [Gh.out]; exact Nat.le_refl _) ff N_ mH x rc rf Lx).mono ?_
   rintro e w4 ⟨rfl, KI, hG4⟩
   have xm := aa KI
   have yT : Hid (Below b w2 w4) := aa (aB.out.trans (h_ hG4 (Nat.le_refl _) (by have := K3.out; omega)))
   have DZ : Hid (b + 1 ≤ w4.heap.size) := aa (Nat.le_trans K3.out hG4.size)
   have Jm : Hid (bq w4 (b + 1) u11 L) := aa (World.ownsRow.kept HO.out hG4 (Or.inr (fun e => by have := (World.ownsRow.lt HO.out _ e).1; omega)))
   have hown : w4.ownsRow (b + 1) 3 1 u11 k (L.map (Value.int .i64)) := by
    have h3 := Jm.out
    unfold bq at h3
    rwa [uM.out] at h3
   have hbs := DZ.out
   clear KI hG4 HO
   go_wp2_with (at_builtin; refine wpList_append_own _ rfl _ _ 30 rfl (b + 1) 3 i0 (.int .i64 0) 1 8 Tryz.underlying30 hi hz0 hz1 hz2 rfl (by decide) _ _ _ rfl (hown.alloc _) ⟨w4.heap.size, 0, none⟩ 1 1 [.int .i64 x] rfl rfl (cell_one_new _ _ _) (ints_oneCell .i64 [x]) (by unfold maxLen; omega) (by omega) (by simp; omega) ?_; intro v' w5 hown1 hgrow1 _)
   have M4 : Hid (bq w5 (b + 1) v' (iE h q c (k + 1))) := aa (by
    rw [M9.out]
    exact bq.app uM.out.symm hown1)
   have GX : Hid (Below b w2 w5) := aa ((yT.out.alloc (by omega) (.cells #[.int .i64 x] 3)).grown hgrow1 (by simp; omega) (fun j hj => by have := (World.ownsRow.lt Jm.out j hj).1; omega))
   have OD : Hid (b + 1 ≤ w5.heap.size) := aa (by have h2 := hgrow1.size; simp at h2; omega)
   have TK : Hid (dx w5 b h (iI h q c (k + 1)).1 (iI h q c (k + 1)).2) := aa (by
    rw [HST.out]
    have h2 : dx (w4.alloc (.cells #[.int .i64 x] 3)) b h rc rf := xm.out.below (af _ _)
    exact (hgrow1.block b h2.lt (fun e => by have := (World.ownsRow.lt Jm.out _ e.symm).1; omega)).trans h2)
   clear hown hown1 hgrow1
   go_roundw
   case rel => exact ⟨k + 1, by omega, by go_num, TK, M4, GX, OD⟩
   case measure => simp [intOf]; omega
  ·
   obtain rfl : k = n := by omega
   clear hlt
   have HT3 : Hid (aQ wr w.heap.size h c) := aa ((aB.out.block _ (by omega)).trans HT2.out)
   have HR3 : Hid (aQ wr (w.heap.size + 1) (aT 32) 0) := aa ((aB.out.block _ (by omega)).trans (mI.out.below uP.out))
   have bB : Hid (Below w.heap.size w wr) := aa (HB2.out.trans (aB.out.mono (by omega)))
   have Jn : Hid (rF h q c k w = fun e w' => if (iI h q c k).2 = true then e = .returned (.tuple #[.agg (aJ (aT 32) 0), .slice none 0 0, .int .i64 5]) ∧ Below w.heap.size w w' else ∃ v, e = .returned (.tuple #[.agg (aJ h (iI h q c k).1), v, .int .i64 0]) ∧ bq w' w.heap.size v (iE h q c k) ∧ Below w.heap.size w w') := aa rfl
   obtain ⟨cc, hcc⟩ : ∃ x, (iI h q c k).1 = x := ⟨_, rfl⟩
   obtain ⟨ff, Fs⟩ : ∃ x, (iI h q c k).2 = x := ⟨_, rfl⟩
   obtain ⟨L, hL⟩ : ∃ x, iE h q c k = x := ⟨_, rfl⟩
   rw [hcc, Fs, hL] at Jn
   rw [hcc, Fs] at mH
   rw [hL] at HO
   clear hcc Fs hL aB HB2 HT2 mI uP
   go_wp2_with fail
   refine (um h hl cc ff b _ mH).mono ?_
   rintro e w5 ⟨rfl, hb5⟩
   have OP := aa (HT3.out.below hb5)
   have Lr := aa (HR3.out.below hb5)
   have GX := aa (ag bB.out hb5)
   have M4 : Hid (bq w5 (b + 1) u11 L) := aa (World.ownsRow.kept HO.out (aD hb5 none) (by cases hq : u11.ownBlock with | none => exact Or.inl rfl | some j => exact Or.inr (by simp)))
   clear hb5 HT3 HR3 bB HO mH
   cases ff with
   | true =>
    rw [if_pos rfl, show J4 (aT 32) 0 5 = .tuple #[.agg (aJ (aT 32) 0), .int .i64 5] from rfl]
    have Lp : Hid (aQ (w5.setRow w.heap.size (aJ (aT 32) 0)) (w.heap.size + 1) (aT 32) 0) := aa ((setRow_other _ _ _ _ (by omega)).trans Lr.out)
    have PM := aa (aj (cs := aJ (aT 32) 0) GX.out (Nat.le_refl _))
    go_wp2_with (first
     | ((with_reducible show wpList _ _ _ (⟨some 44, _, _, _, _, _⟩ :: _) _ _); refine dB rfl 27 _ rfl _ ry ?_)
     | ((with_reducible show wpList _ _ _ (⟨none, Op.store _ (Operand.tmp 3) _, _, _, _, _⟩ :: _) _ _); refine wpList_store_row rfl 27 _ _ rfl w.heap.size (aJ (aT 32) 0) rfl rfl _ _ OP.out (ai rfl) (dZ hl.out rfl) (aR _ _) ?_)
     | ((with_reducible show wpList _ _ _ (⟨none, Op.store _ (Operand.tmp 6) _, _, _, _, _⟩ :: _) _ _); refine wpList_store_row rfl 27 _ _ rfl (w.heap.size + 1) (aJ (aT 32) 0) rfl rfl _ _ Lp.out (ai rfl) rfl (aR _ _) ?_))
    have HRR : Hid (aQ ((w5.setRow w.heap.size (aJ (aT 32) 0)).setRow (w.heap.size + 1) (aJ (aT 32) 0)) (w.heap.size + 1) (aT 32) 0) := aa Lp.out.setRow
    have oP := aj (cs := aJ (aT 32) 0) PM.out (Nat.le_succ _)
    exact bodyPost_ret (v := .tuple #[.agg (aJ (aT 32) 0), .slice none 0 0, .int .i64 5]) (bF (p := 6) (q := 7) (r := 8) (ty := 27) rfl _ _ ⟨w.heap.size + 1, 0, none⟩ _ _ _ rfl rfl rfl (run_loadVar_row _ _ _ _ _ _ _ HRR.out Tryz.underlying27 rfl (ai rfl))) rfl (by rw [Jn.out]; show (if True then _ else _ : Prop); rw [if_pos trivial]; exact ⟨rfl, oP⟩)
   | false =>
    rw [if_neg (by decide), show J4 h cc 0 = .tuple #[.agg (aJ h cc), .int .i64 0] from rfl]
    have TD : Hid (aQ (w5.setRow w.heap.size (aJ h cc)) w.heap.size h cc) := aa OP.out.setRow
    have Lp : Hid (aQ (w5.setRow w.heap.size (aJ h cc)) (w.heap.size + 1) (aT 32) 0) := aa ((setRow_other _ _ _ _ (by omega)).trans Lr.out)
    have PM := aa (aj (cs := aJ h cc) GX.out (Nat.le_refl _))
    go_wp2_with (first
     | ((with_reducible show wpList _ _ _ (⟨some 46, _, _, _, _, _⟩ :: _) _ _); refine wpList_load_row rfl 27 _ rfl w.heap.size rfl _ _ _ _ TD.out Tryz.underlying27 rfl (ai hl.out) ?_)
     | ((with_reducible show wpList _ _ _ (⟨none, Op.store _ (Operand.tmp 3) _, _, _, _, _⟩ :: _) _ _); refine wpList_store_row rfl 27 _ _ rfl w.heap.size (aJ h cc) rfl rfl _ _ OP.out (ai hl.out) (dZ hl.out hl.out) (aR _ _) ?_)
     | ((with_reducible show wpList _ _ _ (⟨none, Op.store _ (Operand.tmp 6) _, _, _, _, _⟩ :: _) _ _); refine wpList_store_row rfl 27 _ _ rfl (w.heap.size + 1) (aJ h cc) rfl rfl _ _ Lp.out (ai hl.out) (dZ rfl hl.out) (aR _ _) ?_))
    have HRR : Hid (aQ ((w5.setRow w.heap.size (aJ h cc)).setRow (w.heap.size + 1) (aJ h cc)) (w.heap.size + 1) h cc) := aa Lp.out.setRow
    have oP := aj (cs := aJ h cc) PM.out (Nat.le_succ _)
    have GM : bq (w5.setRow w.heap.size (aJ h cc)) (b + 1) u11 L := World.ownsRow.kept M4.out (gZ _ _ _) (Or.inr (fun e => by have := (World.ownsRow.lt M4.out _ e).1; omega))
    have JS : bq ((w5.setRow w.heap.size (aJ h cc)).setRow (w.heap.size + 1) (aJ h cc)) (b + 1) u11 L := World.ownsRow.kept GM (gZ _ _ _) (Or.inr (fun e => by have := (World.ownsRow.lt GM _ e).1; omega))
    exact bodyPost_ret (v := .tuple #[.agg (aJ h cc), u11, .int .i64 0]) (bF (p := 6) (q := 7) (r := 8) (ty := 27) rfl _ _ ⟨w.heap.size + 1, 0, none⟩ _ _ _ rfl rfl rfl (run_loadVar_row _ _ _ _ _ _ _ HRR.out Tryz.underlying27 rfl (ai hl.out))) rfl (by rw [Jn.out]; show (if (false = true) then _ else _ : Prop); rw [if_neg (by decide)]; exact ⟨u11, rfl, bq.mono JS (by omega), oP⟩)
def mV (h : List Int) (q : Int) : Nat → Int → Int × Int × Bool
 | 0, c => (1, c, false)
 | k + 1, c => if (bN h q (bG q) 256 c 0).2.2 = true then (0, (bN h q (bG q) 256 c 0).2.1, true) else if (bN h q (bG q) 256 c 0).1 = 0 then mV h q k (bN h q (bG q) 256 c 0).2.1 else bN h q (bG q) 256 c 0
theorem vM {h : List Int} {q : Int} (hq : 2 ≤ q) : ∀ (k : Nat) (c : Int), c ≤ 1099511627776 → (mV h q k c).2.2 = false → 0 < (mV h q k c).1 ∧ (mV h q k c).1 < q ∧ c ≤ (mV h q k c).2.1 ∧ (mV h q k c).2.1 ≤ 1099511627776
 | 0, c, hc, _ => by simp only [mV]; omega
 | k + 1, c, hc, hf => by
  have h1 := qQ (h := h) (m := bG q) (show 1 ≤ q by omega) 256 c 0 (Int.le_refl _)
  have h2 := ku (h := h) (q := q) (m := bG q) 256 c 0 hc
  simp only [mV] at hf ⊢
  by_cases hF : (bN h q (bG q) 256 c 0).2.2 = true
  · rw [if_pos hF] at hf; cases hf
  ·
   rw [if_neg hF] at hf ⊢
   by_cases hz : (bN h q (bG q) 256 c 0).1 = 0
   ·
    rw [if_pos hz] at hf ⊢
    have h3 := vM hq k _ h2.2 hf
    omega
   ·
    rw [if_neg hz] at hf ⊢
    omega
theorem rq (h : List Int) (hl : Hid (h.length = 32)) (hb : Hid (aA h = true)) (c : Int) (hdr : Hid (ow c = true)) (q : Int) (hq1 : 2 ≤ q) (hq2 : q < 2305843009213693952) (n rc : Int) (f : Bool) (HN : Kp (mV h q 256 c = (n, rc, f)))
  (hh : List Int) (cc ee nn : Int) (hR : Hid ((if f = true then uU (aT 32) 0 0 5 else uU h rc n 0) = uU hh cc nn ee)) (w : World) (hv : Hid (dQ w)) :
  Calls Tryz.prog 23 #[.agg (aJ h c), .int .i64 q] w (Rt w (uU hh cc nn ee)) := by
 obtain ⟨hc0, hc1⟩ : 0 ≤ c ∧ c ≤ 1099511627776 := by have h2 := hdr.out; simp [ow] at h2; exact h2
 obtain ⟨W, hW⟩ : ∃ W, (w.alloc (.cells (aJ h c) 27)).alloc (.cells #[.int .u8 0, .int .u8 0, .int .u8 0, .int .u8 0, .int .u8 0, .int .u8 0, .int .u8 0, .int .u8 0, .int .u8 0, .int .u8 0, .int .u8 0, .int .u8 0, .int .u8 0, .int .u8 0, .int .u8 0, .int .u8 0, .int .u8 0, .int .u8 0, .int .u8 0, .int .u8 0, .int .u8 0, .int .u8 0, .int .u8 0, .int .u8 0, .int .u8 0, .int .u8 0, .int .u8 0, .int .u8 0, .int .u8 0, .int .u8 0, .int .u8 0, .int .u8 0, .int .i64 0] 27) = W := ⟨_, rfl⟩
 have jr : Hid (Below w.heap.size w W) := aa (by rw [← hW]; exact aI (Below.refl _ _))
 have HT0 : Hid (aQ W w.heap.size h c) := aa (by rw [← hW]; exact heap_alloc2_old _ _ _)
 have mI : Hid (aQ W (w.heap.size + 1) (aT 32) 0) := aa (by rw [← hW, Jy]; exact heap_alloc2_new _ _ _)
 have D6 : Hid (W.heap.size = w.heap.size + 2) := aa (by rw [← hW]; simp)
 have HV := aa (hv.out.below jr.out)
 have HW := aa hW
 clear hW hv
 go_in
 go_upto_region 1 with (fail)
 rw [HW.out]
 clear HW
 go_wp2_with ((with_reducible show wpList _ _ _ (⟨some 10, _, _, _, _, _⟩ :: _) _ _); refine wpList_load_row rfl 27 _ rfl w.heap.size rfl _ _ _ _ HT0.out Tryz.underlying27 rfl (ai hl.out) ?_)
 refine (lV h hl c hdr q 2 2305843009213693951 hq1 (by omega) _).mono ?_
 rintro e w2 ⟨rfl, hb2⟩
 have HT2 := aa (HT0.out.below hb2)
 have HR2 := aa (mI.out.below hb2)
 have HB2 := aa (ag jr.out hb2)
 have w_ := aa (HV.out.below hb2)
 have HZ2 : Hid (w.heap.size + 2 ≤ w2.heap.size) := aa (by have := hb2.size; have := D6.out; omega)
 clear hb2 HT0 mI jr HV
 go_wp2_with (first
  | ((with_reducible show wpList _ _ _ (⟨some 17, _, _, _, _, _⟩ :: _) _ _); refine wpList_load_row rfl 27 _ rfl w.heap.size rfl _ _ _ _ HT2.out Tryz.underlying27 rfl (ai hl.out) ?_)
  | ((with_reducible show wpList _ _ _ (⟨some 18, _, _, _, _, _⟩ :: _) _ _); refine dB rfl 87 _ rfl _ (De h hl.out c) ?_))
 have IU : dx (w2.alloc (.cells (o_ h c false) 87)) w2.heap.size h c false := heap_alloc_new _ _
 have hb3 := af w2 (.cells (o_ h c false) 87)
 have vT : (w2.alloc (.cells (o_ h c false) 87)).heap.size = w2.heap.size + 1 := by simp
 obtain ⟨W3, hW3⟩ : ∃ u, w2.alloc (.cells (o_ h c false) 87) = u := ⟨_, rfl⟩
 rw [hW3] at IU hb3 vT ⊢
 have pI := aa IU
 have HB3 := aa hb3
 have Dt := aa vT
 obtain ⟨b, hbb⟩ : ∃ b, w2.heap.size = b := ⟨_, rfl⟩
 rw [hbb] at pI Dt ⊢
 have Gh := aa hbb
 have hbw : w.heap.size + 2 ≤ b := by have := HZ2.out; omega
 clear IU hb3 vT hW3 hbb
 go_loopw [20] (fun i u => ∃ (k : Nat) (d : Int), k ≤ 256 ∧ i = .int .i64 k ∧ Hid (0 ≤ d ∧ d ≤ 1099511627776) ∧ Kp (mV h q (256 - k) d = (n, rc, f)) ∧ Hid (dx u b h d false) ∧ Hid (Below b w2 u) ∧ Hid (b + 1 ≤ u.heap.size)) (fun i _ => 256 - (intOf i).toNat)
 case atStart => exact ⟨0, c, by omega, rfl, aa ⟨hc0, hc1⟩, HN, pI, aa (by have h2 := HB3.out; rwa [Gh.out] at h2), aa (by have := Dt.out; omega)⟩
 case round =>
  obtain ⟨k, d, hk, rfl, HD, D_, mH, aB, K3⟩ := hrel
  obtain ⟨hd0, hd1⟩ := HD.out
  by_cases hlt : k < 256
  ·
   have zI : 256 - k = (256 - (k + 1)) + 1 := by omega
   obtain ⟨r, hr⟩ : ∃ x, bN h q (bG q) 256 d 0 = x := ⟨_, rfl⟩
   obtain ⟨x, r2, rf⟩ := r
   have Lx : Kp (bN h q (bG q) 256 d 0 = (x, r2, rf)) := ⟨hr⟩
   have HD2 : Hid (0 ≤ r2 ∧ r2 ≤ 1099511627776) := aa (by
    have h2 := ku (h := h) (q := q) (m := bG q) 256 d 0 hd1
    rw [hr] at h2
    exact ⟨Int.le_trans hd0 h2.1, h2.2⟩)
   have oO : Kp ((if rf = true then (0, r2, true) else if x = 0 then mV h q (256 - (k + 1)) r2 else (x, r2, rf)) = (n, rc, f)) := ⟨by rw [← D_.1, zI, mV, hr]⟩
   clear hr D_ zI
   go_wp2_with fail
   refine (mh h hl hb q (by omega) hq2 d hd0 hd1 b w2 w_ _ (aa (by have h2 := aB.out; rwa [← Gh.out] at h2)) (by rw [Gh.out]; exact Nat.le_refl _) false (fun e => by cases e) mH x r2 rf Lx).mono ?_
   rintro e w4 ⟨rfl, KI, hG4⟩
   have xm := aa KI
   have yT : Hid (Below b w2 w4) := aa (aB.out.trans (h_ hG4 (Nat.le_refl _) (by have := K3.out; omega)))
   have DZ : Hid (b + 1 ≤ w4.heap.size) := aa (Nat.le_trans K3.out hG4.size)
   clear KI hG4
   obtain ⟨f1, f2⟩ := xm.out.full hl.out
   have HR4 : Hid (aQ w4 (w.heap.size + 1) (aT 32) 0) := aa ((yT.out.block _ (by omega)).trans HR2.out)
   have bB : Hid (Below w.heap.size w w4) := aa (HB2.out.trans (yT.out.mono (by omega)))
   cases rf with
   | true =>
    have Gy : uU (aT 32) 0 0 5 = uU hh cc nn ee := by
     have h2 := oO.1
     rw [if_pos rfl] at h2
     have h3 := hR.out
     rw [if_pos (by have h4 := congrArg (fun p => p.2.2) h2; exact h4.symm)] at h3
     exact h3
    have Jh := aa Gy
    clear Gy hR oO
    go_wp2_with (first
     | ((with_reducible show wpList _ _ _ (⟨some 29, _, _, _, _, _⟩ :: _) _ _); refine dB rfl 27 _ rfl _ ry ?_)
     | ((with_reducible show wpList _ _ _ (⟨none, _, _, _, _, _⟩ :: _) _ _); refine wpList_store_row rfl 27 _ _ rfl (w.heap.size + 1) (aJ (aT 32) 0) rfl rfl _ _ HR4.out (ai rfl) rfl (aR _ _) ?_))
    have HRR : Hid (aQ (w4.setRow (w.heap.size + 1) (aJ (aT 32) 0)) (w.heap.size + 1) (aT 32) 0) := aa HR4.out.setRow
    exact bodyPost_ret (v := uU (aT 32) 0 0 5) (bF (p := 4) (q := 5) (r := 6) (ty := 27) rfl _ _ ⟨w.heap.size + 1, 0, none⟩ _ _ _ rfl rfl rfl (run_loadVar_row _ _ _ _ _ _ _ HRR.out Tryz.underlying27 rfl (ai rfl))) rfl ⟨congrArg Ending.returned Jh.out, aj bB.out (Nat.le_succ _)⟩
   | false =>
    by_cases hx : x = 0
    ·
     subst hx
     have O7 : Kp (mV h q (256 - (k + 1)) r2 = (n, rc, f)) := ⟨by rw [← oO.1, if_neg (by decide), if_pos rfl]⟩
     go_wp2_with fail
     go_roundw
     case rel => exact ⟨k + 1, r2, by omega, by go_num, HD2, O7, xm, yT, DZ⟩
     case measure => simp [intOf]; omega
    ·
     have Gy : uU h r2 x 0 = uU hh cc nn ee := by
      have h2 := oO.1
      rw [if_neg (by decide), if_neg hx] at h2
      simp only [Prod.mk.injEq] at h2
      obtain ⟨rfl, rfl, rfl⟩ := h2
      have h3 := hR.out
      rw [if_neg (by decide)] at h3
      exact h3
     have hx1 : (x == 0) = false := by simp [hx]
     have Jh := aa Gy
     clear Gy hR oO
     go_wp2_with (first
      | ((with_reducible show wpList _ _ _ (⟨some 35, _, _, _, _, _⟩ :: _) _ _); refine wpList_load_mid rfl 27 _ rfl b 0 rfl (aJ h r2).toList _ (xm.out.range hl.out) Tryz.underlying27 rfl (kN hl.out) ?_)
      | ((with_reducible show wpList _ _ _ (⟨none, _, _, _, _, _⟩ :: _) _ _); refine wpList_store_row rfl 27 _ _ rfl (w.heap.size + 1) (aJ h r2) rfl rfl _ _ HR4.out (ai hl.out) (dZ rfl hl.out) (aR _ _) ?_))
     have HRR : Hid (aQ (w4.setRow (w.heap.size + 1) (aJ h r2)) (w.heap.size + 1) h r2) := aa HR4.out.setRow
     exact bodyPost_ret (v := uU h r2 x 0) (bF (p := 4) (q := 5) (r := 6) (ty := 27) rfl _ _ ⟨w.heap.size + 1, 0, none⟩ _ _ _ rfl rfl rfl (run_loadVar_row _ _ _ _ _ _ _ HRR.out Tryz.underlying27 rfl (ai hl.out))) rfl ⟨congrArg Ending.returned Jh.out, aj bB.out (Nat.le_succ _)⟩
  ·
   obtain rfl : k = 256 := by omega
   have Gy : uU h d 1 0 = uU hh cc nn ee := by
    have h2 := D_.1
    rw [show 256 - 256 = 0 from rfl, mV] at h2
    simp only [Prod.mk.injEq] at h2
    obtain ⟨rfl, rfl, rfl⟩ := h2
    have h3 := hR.out
    rw [if_neg (by decide)] at h3
    exact h3
   have Jh := aa Gy
   have HR4 : Hid (aQ wr (w.heap.size + 1) (aT 32) 0) := aa ((aB.out.block _ (by omega)).trans HR2.out)
   have bB : Hid (Below w.heap.size w wr) := aa (HB2.out.trans (aB.out.mono (by omega)))
   clear Gy hR D_ hlt
   go_wp2_with (first
    | ((with_reducible show wpList _ _ _ (⟨some 41, _, _, _, _, _⟩ :: _) _ _); refine wpList_load_mid rfl 27 _ rfl b 0 rfl (aJ h d).toList _ (mH.out.range hl.out) Tryz.underlying27 rfl (kN hl.out) ?_)
    | ((with_reducible show wpList _ _ _ (⟨none, _, _, _, _, _⟩ :: _) _ _); refine wpList_store_row rfl 27 _ _ rfl (w.heap.size + 1) (aJ h d) rfl rfl _ _ HR4.out (ai hl.out) (dZ rfl hl.out) (aR _ _) ?_))
   have HRR : Hid (aQ (wr.setRow (w.heap.size + 1) (aJ h d)) (w.heap.size + 1) h d) := aa HR4.out.setRow
   exact bodyPost_ret (v := uU h d 1 0) (bF (p := 4) (q := 5) (r := 6) (ty := 27) rfl _ _ ⟨w.heap.size + 1, 0, none⟩ _ _ _ rfl rfl rfl (run_loadVar_row _ _ _ _ _ _ _ HRR.out Tryz.underlying27 rfl (ai hl.out))) rfl ⟨congrArg Ending.returned Jh.out, aj bB.out (Nat.le_succ _)⟩
namespace jq
def Cg (q a b : Int) : Prop := ∃ t, a = b + q * t
theorem Cg.refl (q a : Int) : Cg q a a := ⟨0, by simp⟩
theorem Cg.symm {q a b : Int} (h : Cg q a b) : Cg q b a := by obtain ⟨t, h⟩ := h; exact ⟨-t, by rw [h]; grind⟩
theorem Cg.trans {q a b c : Int} (h : Cg q a b) (h2 : Cg q b c) : Cg q a c := by obtain ⟨t, h⟩ := h; obtain ⟨s, h2⟩ := h2; exact ⟨s + t, by rw [h, h2]; grind⟩
theorem Cg.add {q a b c d : Int} (h : Cg q a b) (h2 : Cg q c d) : Cg q (a + c) (b + d) := by obtain ⟨t, h⟩ := h; obtain ⟨s, h2⟩ := h2; exact ⟨s + t, by rw [h, h2]; grind⟩
theorem Cg.sub {q a b c d : Int} (h : Cg q a b) (h2 : Cg q c d) : Cg q (a - c) (b - d) := by obtain ⟨t, h⟩ := h; obtain ⟨s, h2⟩ := h2; exact ⟨t - s, by rw [h, h2]; grind⟩
theorem Cg.mul {q a b c d : Int} (h : Cg q a b) (h2 : Cg q c d) : Cg q (a * c) (b * d) := by obtain ⟨t, h⟩ := h; obtain ⟨s, h2⟩ := h2; exact ⟨b * s + d * t + q * s * t, by rw [h, h2]; grind⟩
theorem Cg.mod (q a : Int) : Cg q (a % q) a := ⟨-(a / q), by have := Int.emod_add_mul_ediv a q; grind⟩
theorem Cg.of_eq {q a b : Int} (h : a = b) : Cg q a b := h ▸ Cg.refl q a
theorem Cg.eq {q a b : Int} (h : Cg q a b) : a % q = b % q := by obtain ⟨t, h⟩ := h; rw [h, Int.add_mul_emod_self_left]
def tp (xs : Nat → Int) (k : Nat) (x : Int) : Nat → Int
 | 0 => 1
 | m + 1 => if m = k then tp xs k x m else tp xs k x m * (x - xs m)
def gp (xs : Nat → Int) (x : Int) : Nat → Int
 | 0 => 1
 | m + 1 => gp xs x m * (x - xs m)
theorem qG (xs : Nat → Int) (k : Nat) (x : Int) : ∀ m, m ≤ k → tp xs k x m = gp xs x m
 | 0, _ => rfl
 | m + 1, h => by rw [tp, if_neg (by omega), gp, qG xs k x m (by omega)]
theorem qF (xs : Nat → Int) (k : Nat) (x : Int) : ∀ m, k < m → tp xs k x m * (x - xs k) = gp xs x m
 | 0, h => absurd h (by omega)
 | m + 1, h => by
  rw [tp, gp]
  by_cases e : m = k
  · subst e; rw [if_pos rfl, qG xs _ x _ (Nat.le_refl _)]
  · rw [if_neg e, ← qF xs k x m (by omega)]; grind
def sm (f : Nat → Int) : Nat → Int
 | 0 => 0
 | m + 1 => sm f m + f m
theorem AQ {q : Int} {f g : Nat → Int} : ∀ m, (∀ k, k < m → Cg q (f k) (g k)) → Cg q (sm f m) (sm g m)
 | 0, _ => Cg.refl _ _
 | m + 1, h => (AQ m fun k hk => h k (by omega)).add (h m (by omega))
theorem AR (f g : Nat → Int) (c : Int) : ∀ m, sm (fun k => f k + c * g k) m = sm f m + c * sm g m
 | 0 => by simp [sm]
 | m + 1 => by simp only [sm]; rw [AR f g c m]; grind
def nw (xs ys kp : Nat → Int) (x : Int) : Nat → Int
 | 0 => 0
 | m + 1 => nw xs ys kp x m + kp m * gp xs x m
theorem iB {q : Int} {xs ys kp : Nat → Int} {u : Nat → Nat → Int} {n : Nat}
  (hk : ∀ m, m < n → Cg q (kp m * gp xs (xs m) m) (ys m - nw xs ys kp (xs m) m))
  (hu : ∀ m k, m ≤ n → k < m → Cg q (u m k * tp xs k (xs k) m) 1) :
  ∀ m, m ≤ n → ∀ x, Cg q (nw xs ys kp x m) (sm (fun k => ys k * (tp xs k x m * u m k)) m)
 | 0, _, _ => Cg.refl _ _
 | m + 1, hm, x => by
  have ih := iB hk hu m (by omega)
  -- v: the inverse of gp (xs m) m
  have hv : Cg q (u (m + 1) m * gp xs (xs m) m) 1 := by
   have := hu (m + 1) m hm (by omega)
   rwa [tp, if_pos rfl, qG _ _ _ _ (Nat.le_refl _)] at this
  have hkm : Cg q (kp m) ((ys m - nw xs ys kp (xs m) m) * u (m + 1) m) := by
   have h1 : Cg q (kp m * (u (m + 1) m * gp xs (xs m) m)) (kp m * 1) := (Cg.refl _ _).mul hv
   have h2 := ((hk m (by omega)).mul (Cg.refl q (u (m + 1) m)))
   rw [Int.mul_one] at h1
   exact h1.symm.trans ((Cg.of_eq (by grind)).trans h2)
  have hF := ih x
  have hG := ih (xs m)
  -- each term
  have Kv : ∀ k, k < m → Cg q (ys k * (tp xs k x (m + 1) * u (m + 1) k)) (ys k * (tp xs k x m * u m k) + (-(u (m + 1) m * gp xs x m)) * (ys k * (tp xs k (xs m) m * u m k))) := by
   intro k hkm
   have e1 : tp xs k x (m + 1) = tp xs k x m * (x - xs m) := by rw [tp, if_neg (by omega)]
   have e2 : tp xs k (xs k) (m + 1) = tp xs k (xs k) m * (xs k - xs m) := by rw [tp, if_neg (by omega)]
   have e3 := qF xs k x m hkm
   have e4 := qF xs k (xs m) m hkm
   have h1 := hu (m + 1) k hm (by omega)
   have h2 := hu m k (by omega) hkm
   rw [e2] at h1
   rw [← e4] at hv
   rw [e1, ← e3]
   -- names
   generalize tp xs k x m = T at *
   generalize tp xs k (xs m) m = S at *
   generalize tp xs k (xs k) m = B at *
   generalize u (m + 1) k = a at *
   generalize u m k = b at *
   generalize u (m + 1) m = v at *
   generalize xs k = p at *
   generalize xs m = r at *
   -- a B (p - r) ≡ 1, b B ≡ 1, v S (r - p) ≡ 1; show T (x - r) a ≡ T b - v T (x - p) S b
   have hab : Cg q (a * (p - r)) b := by
    -- b ≡ b (a B (p - r)) = (b B) (a (p - r)) ≡ a (p - r)
    have q1 : Cg q (b * (a * (B * (p - r)))) (b * 1) := (Cg.refl _ _).mul h1
    have q2 : Cg q ((b * B) * (a * (p - r))) (1 * (a * (p - r))) := h2.mul (Cg.refl _ _)
    rw [Int.mul_one] at q1; rw [Int.one_mul] at q2
    exact q2.symm.trans ((Cg.of_eq (by grind)).trans q1)
   have hac : Cg q (v * S * b) (-a) := by
    -- v S b ≡ v S a (p - r) = -(v S (r - p)) a ≡ -a
    have q1 : Cg q (v * S * b) (v * S * (a * (p - r))) := (Cg.refl _ _).mul hab.symm
    have q2 : Cg q (v * (S * (r - p)) * (-a)) (1 * (-a)) := hv.mul (Cg.refl _ _)
    rw [Int.one_mul] at q2
    exact q1.trans ((Cg.of_eq (by grind)).trans q2)
   have q3 : Cg q (ys k * (T * b) + (-(T * (x - p))) * ys k * (v * S * b)) (ys k * (T * (a * (p - r))) + (-(T * (x - p))) * ys k * (-a)) :=
    ((Cg.refl _ _).mul ((Cg.refl _ _).mul hab.symm)).add ((Cg.refl _ _).mul hac)
   exact (Cg.of_eq (by grind)).trans (q3.symm.trans (Cg.of_eq (by grind)))
  have hs := AQ m Kv
  rw [AR] at hs
  rw [sm]
  rw [show tp xs m x (m + 1) = gp xs x m by rw [tp, if_pos rfl, qG _ _ _ _ (Nat.le_refl _)]]
  rw [nw]
  have h5 : Cg q (kp m * gp xs x m) ((ys m - sm (fun k => ys k * (tp xs k (xs m) m * u m k)) m) * u (m + 1) m * gp xs x m) :=
   (hkm.trans (((Cg.refl _ _).sub hG).mul (Cg.refl _ _))).mul (Cg.refl _ _)
  exact (hF.add h5).trans ((Cg.of_eq (by grind)).trans (hs.symm.add (Cg.refl _ _)))
def Un (q a : Int) : Prop := ∃ y, Cg q (y * a) 1
theorem Un.one (q : Int) : Un q 1 := ⟨1, Cg.refl _ _⟩
theorem Un.mul {q a b : Int} (h : Un q a) (h2 : Un q b) : Un q (a * b) := by
 obtain ⟨y, h⟩ := h
 obtain ⟨z, h2⟩ := h2
 exact ⟨y * z, (Cg.of_eq (by grind)).trans ((h.mul h2).trans (Cg.of_eq (by grind)))⟩
theorem Un.cg {q a b : Int} (h : Un q a) (h2 : Cg q a b) : Un q b := by
 obtain ⟨y, h⟩ := h
 exact ⟨y, ((Cg.refl q y).mul h2).symm.trans h⟩
theorem Un.neg {q a : Int} (h : Un q a) : Un q (-a) := by
 obtain ⟨y, h⟩ := h
 exact ⟨-y, (Cg.of_eq (by grind)).trans h⟩
theorem Cw {q : Int} {xs : Nat → Int} {x : Int} : ∀ m, (∀ j, j < m → Un q (x - xs j)) → Un q (gp xs x m)
 | 0, _ => Un.one q
 | m + 1, h => (Cw m fun j hj => h j (by omega)).mul (h m (by omega))
theorem Az {q : Int} {xs : Nat → Int} {x : Int} {k : Nat} : ∀ m, (∀ j, j < m → j ≠ k → Un q (x - xs j)) → Un q (tp xs k x m)
 | 0, _ => Un.one q
 | m + 1, h => by
  rw [tp]
  by_cases e : m = k
  · rw [if_pos e]; exact Az m fun j hj => h j (by omega)
  · rw [if_neg e]; exact (Az m fun j hj => h j (by omega)).mul (h m (by omega) e)
def pv : List Int → Int → Int
 | [], _ => 0
 | c :: t, x => c + x * pv t x
def hv (q : Int) : List Int → Int → Int
 | [], _ => 0
 | c :: t, x => (hv q t x * x % q + c) % q
theorem Gt (q : Int) : ∀ (f : List Int) (x : Int), Cg q (hv q f x) (pv f x)
 | [], _ => Cg.refl _ _
 | c :: t, x => (Cg.mod _ _).trans ((((Cg.mod _ _).trans ((Gt q t x).mul (Cg.refl _ _))).add (Cg.refl _ _)).trans (Cg.of_eq (by rw [pv]; grind)))
theorem qd {q : Int} (hq : 0 < q) : ∀ (f : List Int) (x : Int), 0 ≤ hv q f x ∧ hv q f x < q
 | [], _ => ⟨Int.le_refl _, hq⟩
 | _ :: _, _ => ⟨Int.emod_nonneg _ (by omega), Int.emod_lt_of_pos _ hq⟩
theorem Kt {q : Int} (hq : 0 < q) (f : List Int) (x : Int) : hv q f x = pv f x % q := by
 rw [← (Gt q f x).eq, Int.emod_eq_of_lt (qd hq f x).1 (qd hq f x).2]
theorem Fg {q x : Int} {f : List Int} {k : Nat} (hk : k < f.length) : hv q (f.drop k) x = (hv q (f.drop (k + 1)) x * x % q + f.getD k 0) % q := by
 rw [List.drop_eq_getElem_cons hk, hv, List.getD_eq_getElem?_getD, List.getElem?_eq_getElem hk]; rfl
theorem Bz (x : Int) : ∀ (f : List Int) (n : Nat) (v : Int), n < f.length → pv (f.set n v) x = pv f x + (v - f.getD n 0) * x ^ n
 | [], _, _, h => absurd h (by simp)
 | c :: t, 0, v, _ => by simp only [List.set_cons_zero, pv, List.getD_cons_zero]; grind
 | c :: t, n + 1, v, h => by
  simp only [List.set_cons_succ, pv, List.getD_cons_succ]
  rw [Bz x t n v (by simpa using h)]; grind
theorem jd (x : Int) : ∀ (f : List Int) (n : Nat), n < f.length → pv (f.take (n + 1)) x = pv (f.take n) x + f.getD n 0 * x ^ n
 | [], _, h => absurd h (by simp)
 | c :: t, 0, _ => by simp only [List.take_succ_cons, List.take_zero, pv, List.getD_cons_zero]; grind
 | c :: t, n + 1, h => by
  rw [List.take_succ_cons, List.take_succ_cons]
  simp only [pv, List.getD_cons_succ]
  rw [jd x t n (by simpa using h)]; grind
theorem sQ (x : Int) : ∀ n, pv (List.replicate n 0) x = 0
 | 0 => rfl
 | n + 1 => by rw [List.replicate_succ, pv, sQ x n]; grind
theorem EN {x : Int} {f : List Int} {n : Nat} (hn : n + 1 ≤ f.length) (h0 : f.getD n 0 = 0) : pv (f.take (n + 1)) x = pv (f.take n) x := by
 rw [jd x f n (by omega), h0]; grind
theorem oF {n : Int} : ∀ l : List Int, aF n l = some true → n ∈ l
 | [], h => by cases h
 | p :: ps, h => by
  by_cases e : n % p = 0
  ·
   rw [aF, if_pos e] at h
   rw [of_decide_eq_true (Option.some.inj h)]; exact List.mem_cons_self ..
  ·
   rw [aF, if_neg e] at h
   exact List.mem_cons_of_mem _ (oF ps h)
theorem oD {n : Int} : ∀ l : List Int, aF n l = none → ∀ p ∈ l, n % p ≠ 0
 | [], _, p, hp => by cases hp
 | p :: ps, h, x, hx => by
  by_cases e : n % p = 0
  · rw [aF, if_pos e] at h; cases h
  ·
   rw [aF, if_neg e] at h
   cases hx with
   | head => exact e
   | tail _ hx => exact oD ps h x hx
theorem BQ {q : Int} (h : dR q = true) : q ∈ iC ∨ (q % 2 ≠ 0 ∧ q % 3 ≠ 0 ∧ q % 5 ≠ 0 ∧ q % 7 ≠ 0) := by
 have h2 := eH h
 cases hd : aF q iC with
 | some b =>
  obtain rfl : b = true := (oh h2 hd).symm.trans h
  exact Or.inl (oF _ hd)
 | none =>
  have := oD _ hd
  exact Or.inr ⟨this 2 (by decide), this 3 (by decide), this 5 (by decide), this 7 (by decide)⟩
theorem Et : ∀ q ∈ iC, ∀ d ∈ [(1 : Int), 2, 3, 4, 5, 6, 7, 8], d < q → ∃ y ∈ [(1 : Int), 2, 3, 4, 5, 6, 7, 8, 9, 10, 11, 12, 13, 14, 15, 16, 17, 18, 19, 20, 21, 22, 23, 24, 25, 26, 27, 28, 29, 30, 31, 32, 33, 34, 35, 36], y * d % q = 1 := by decide +kernel
theorem J_ {q y d : Int} (h : y * d % q = 1) : Un q d := ⟨y, (Cg.mod q (y * d)).symm.trans (Cg.of_eq h)⟩
theorem si {q d : Int} (h : dR q = true) (h0 : 0 < d) (h8 : d ≤ 8) (hd : d < q) : Un q d := by
 rcases BQ h with hm | ⟨h2, h3, h5, h7⟩
 ·
  have hmem : d ∈ [(1 : Int), 2, 3, 4, 5, 6, 7, 8] := by
   have : d = 1 ∨ d = 2 ∨ d = 3 ∨ d = 4 ∨ d = 5 ∨ d = 6 ∨ d = 7 ∨ d = 8 := by omega
   rcases this with rfl | rfl | rfl | rfl | rfl | rfl | rfl | rfl <;> decide
  obtain ⟨y, _, hy⟩ := Et q hm d hmem hd
  exact J_ hy
 ·
  have key : ∃ t y, y * d = 1 + q * t := by
   have : d = 1 ∨ d = 2 ∨ d = 3 ∨ d = 4 ∨ d = 5 ∨ d = 6 ∨ d = 7 ∨ d = 8 := by omega
   rcases this with rfl | rfl | rfl | rfl | rfl | rfl | rfl | rfl
   · exact ⟨0, 1, by omega⟩
   · exact ⟨1, (1 + q) / 2, by omega⟩
   ·
    rcases (show q % 3 = 1 ∨ q % 3 = 2 by omega) with e | e
    · exact ⟨2, (1 + q * 2) / 3, by omega⟩
    · exact ⟨1, (1 + q) / 3, by omega⟩
   ·
    rcases (show q % 4 = 1 ∨ q % 4 = 3 by omega) with e | e
    · exact ⟨3, (1 + q * 3) / 4, by omega⟩
    · exact ⟨1, (1 + q) / 4, by omega⟩
   ·
    rcases (show q % 5 = 1 ∨ q % 5 = 2 ∨ q % 5 = 3 ∨ q % 5 = 4 by omega) with e | e | e | e
    · exact ⟨4, (1 + q * 4) / 5, by omega⟩
    · exact ⟨2, (1 + q * 2) / 5, by omega⟩
    · exact ⟨3, (1 + q * 3) / 5, by omega⟩
    · exact ⟨1, (1 + q) / 5, by omega⟩
   ·
    rcases (show q % 6 = 1 ∨ q % 6 = 5 by omega) with e | e
    · exact ⟨5, (1 + q * 5) / 6, by omega⟩
    · exact ⟨1, (1 + q) / 6, by omega⟩
   ·
    rcases (show q % 7 = 1 ∨ q % 7 = 2 ∨ q % 7 = 3 ∨ q % 7 = 4 ∨ q % 7 = 5 ∨ q % 7 = 6 by omega) with e | e | e | e | e | e
    · exact ⟨6, (1 + q * 6) / 7, by omega⟩
    · exact ⟨3, (1 + q * 3) / 7, by omega⟩
    · exact ⟨2, (1 + q * 2) / 7, by omega⟩
    · exact ⟨5, (1 + q * 5) / 7, by omega⟩
    · exact ⟨4, (1 + q * 4) / 7, by omega⟩
    · exact ⟨1, (1 + q) / 7, by omega⟩
   ·
    rcases (show q % 8 = 1 ∨ q % 8 = 3 ∨ q % 8 = 5 ∨ q % 8 = 7 by omega) with e | e | e | e
    · exact ⟨7, (1 + q * 7) / 8, by omega⟩
    · exact ⟨5, (1 + q * 5) / 8, by omega⟩
    · exact ⟨3, (1 + q * 3) / 8, by omega⟩
    · exact ⟨1, (1 + q) / 8, by omega⟩
  obtain ⟨t, y, e⟩ := key
  exact ⟨y, t, e⟩
theorem qE {q a b : Int} (h : dR q = true) (ha : 1 ≤ a) (Vb : a ≤ 8) (haq : a < q) (hb : 0 ≤ b) (DW : b ≤ 8) (hbq : b < q) (hne : a ≠ b) : Un q (a - b) := by
 by_cases hlt : b < a
 · exact si h (by omega) (by omega) (by omega)
 ·
  have := (si h (show 0 < b - a by omega) (by omega) (by omega)).neg
  rwa [show -(b - a) = a - b by omega] at this
end jq
open Go.RowKit jq
def lD (a m x : Int) : Prop := 0 ≤ x ∧ x < m ∧ (x * a % m = 1 ∨ (x = 0 ∧ ∀ y, y * a % m ≠ 1))
theorem qZ {a m x y : Int} (hx : lD a m x) (hy : lD a m y) : x = y := by
 obtain ⟨x0, x1, hx⟩ := hx
 obtain ⟨y0, y1, hy⟩ := hy
 rcases hx with hx | ⟨rfl, hx⟩
 ·
  rcases hy with hy | ⟨rfl, hy⟩
  ·
   have h1 : x * (y * a) % m = x % m := by rw [Int.mul_emod, hy, Int.mul_one, Int.emod_emod_of_dvd _ (Int.dvd_refl m)]
   have h2 : x * (y * a) % m = y % m := by
    rw [show x * (y * a) = y * (x * a) by rw [← Int.mul_assoc, ← Int.mul_assoc, Int.mul_comm x y], Int.mul_emod, hx, Int.mul_one, Int.emod_emod_of_dvd _ (Int.dvd_refl m)]
   have h3 := h1.symm.trans h2
   rwa [Int.emod_eq_of_lt x0 x1, Int.emod_eq_of_lt y0 y1] at h3
  · exact absurd hx (hy x)
 ·
  rcases hy with hy | ⟨rfl, hy⟩
  · exact absurd hy (hx y)
  · rfl
theorem Ib {a m d : Int} (h1 : d ∣ a) (h2 : d ∣ m) (h0 : 0 < d) (hne : d ≠ 1) (y : Int) : y * a % m ≠ 1 := by
 intro h
 have h3 : d ∣ y * a := Int.dvd_mul_of_dvd_right h1
 have h4 : d ∣ m * (y * a / m) := Int.dvd_mul_of_dvd_left h2
 have h5 : d ∣ y * a - m * (y * a / m) := Int.dvd_sub h3 h4
 have h6 : y * a - m * (y * a / m) = 1 := by have := Int.emod_add_mul_ediv (y * a) m; omega
 rw [h6] at h5
 have := Int.le_of_dvd (by omega) h5
 omega
def FW (a m : Int) (w : World) (e : Ending) (w' : World) : Prop :=
 ∃ x r : Int, e = .returned (.tuple #[.int .i64 x, .int .i64 r]) ∧ lD a m x ∧ ∃ n, w' = w.drewN n
theorem Av (a m : Int) (h1 : 2 ≤ m) (h2 : m < 2305843009213693952) (ha0 : 0 ≤ a) (ha : a < m) (w : World) :
  Calls Tryz.prog 73 #[.int .i64 a, .int .i64 m] w (FW a m w) := by
 have hc := aa (oH (by omega) h2 ha0 ha ha0 ha)
 go_in
 go_wp2_with (go_at_call 68; refine (eD _ _ _ _).mono ?_; rintro e w' ⟨rfl, rfl⟩; rw [hc.out])
 refine (wH a m (by omega) h2 ha0 ha _).mono ?_
 rintro e w' ⟨d, x, k, rfl, hx0, hx1, hd1, hd2, hd0, hd, hk, n, rfl⟩
 by_cases t_ : d = 1
 ·
  have h1d : (d == 1) = true := by simp [t_]
  have S_ : (d != 1) = false := by simp [t_]
  have HX : Hid (lD a m x) := aa ⟨hx0, hx1, .inl (by rw [hk, t_, Int.add_mul_emod_self_left]; exact fU h1)⟩
  clear hk hd1 hd2 hd0 hd t_
  go_wp2
  go_ret2
  exact ⟨x, 0, rfl, HX.out, n, rfl⟩
 ·
  have h1d : (d == 1) = false := by simp [t_]
  have S_ : (d != 1) = true := by simp [t_]
  have HX : Hid (lD a m 0) := aa ⟨by omega, by omega, .inr ⟨rfl, Ib hd1 hd2 hd0 t_⟩⟩
  clear hk hd1 hd2 hd0 hd t_
  go_wp2
  go_ret2
  exact ⟨0, 10, rfl, HX.out, n, rfl⟩
noncomputable def fP (a m : Int) : Int := @dite _ (∃ x, lD a m x) (Classical.propDecidable _) (fun h => Classical.choose h) (fun _ => 0)
theorem tO {a m x : Int} (h : lD a m x) : fP a m = x := by
 have he : ∃ x, lD a m x := ⟨x, h⟩
 unfold fP
 rw [dif_pos he]
 exact qZ (Classical.choose_spec he) h
theorem iZ {a q v : Int} (h0 : 0 ≤ a) (h : a % q = v) : a.tmod q = v := by rw [Int.tmod_eq_emod_of_nonneg h0]; exact h
theorem j4 (q a b v : Int) (hv : Hid ((a - b + q) % q = v)) (h1 : 1 ≤ q) (h2 : q < 2305843009213693952) (a0 : 0 ≤ a) (a1 : a < q) (b0 : 0 ≤ b) (b1 : b < q) (w : World) :
  Calls Tryz.prog 44 #[.int .i64 q, .int .i64 a, .int .i64 b] w (Rt w (.int .i64 v)) := by
 have d1 : IntKind.i64.wrap (a - b) = a - b := IntWalk.i64_in _ (by omega)
 have d2 : IntKind.i64.wrap (a - b + q) = a - b + q := IntWalk.i64_in _ (by omega)
 have e1 : wrap64 (a - b) = a - b := IntWalk.wrap64_in _ (by omega)
 have e2 : wrap64 (a - b + q) = a - b + q := IntWalk.wrap64_in _ (by omega)
 have Ku : (a - b + q).tmod q = v := iZ (by omega) hv.out
 have v0 : 0 ≤ v := by rw [← hv.out]; exact Int.emod_nonneg _ (by omega)
 have v1 : v < q := by rw [← hv.out]; exact Int.emod_lt_of_pos _ (by omega)
 have hwt : IntKind.i64.wrap v = v := IntWalk.i64_in _ (by omega)
 have hQn : ¬ (q = 0) := by omega
 have JH : ((q : Int) == 0) = false := by simp; omega
 go_in
 go_wp2
 go_ret
 exact ⟨rfl, Below.refl _ _⟩
theorem fD (q a b v : Int) (hv : Hid (a * b % q = v)) (h2 : q < 2305843009213693952) (a0 : 0 ≤ a) (a1 : a < q) (b0 : 0 ≤ b) (b1 : b < q) (w : World) :
  Calls Tryz.prog 43 #[.int .i64 q, .int .i64 a, .int .i64 b] w (Rt w (.int .i64 v)) := by
 go_in
 go_wp2_with fail
 refine (qD a b q v hv h2 a0 a1 b0 b1 _).mono ?_
 rintro e w' ⟨rfl, n3, rfl⟩
 have hbq := ay (Below.refl w.heap.size w) n3
 go_wp2
 go_ret
 exact ⟨rfl, hbq⟩
theorem sS (q a v : Int) (hv : Hid (fP a q = v)) (h1 : 2 ≤ q) (h2 : q < 2305843009213693952) (a0 : 0 ≤ a) (a1 : a < q) (w : World) :
  Calls Tryz.prog 46 #[.int .i64 q, .int .i64 a] w fun e' w' => e' = .returned (.int .i64 v) ∧ 0 ≤ v ∧ v < q ∧ Below w.heap.size w w' := by
 go_in
 go_wp2_with fail
 refine (Av a q h1 h2 a0 a1 _).mono ?_
 rintro e w' ⟨x, r, rfl, hx, n3, rfl⟩
 obtain rfl : x = v := (tO hx).symm.trans hv.out
 have x0 := hx.1
 have x1 := hx.2.1
 have hbq := ay (Below.refl w.heap.size w) n3
 clear hx
 go_wp2
 go_ret
 exact ⟨rfl, x0, x1, hbq⟩
theorem jJ (q : Int) (h2 : q < 2305843009213693952) (hp : Hid (dR q = true)) (w : World) (hv : Hid (Vars w)) :
  Calls Tryz.prog 63 #[.int .i64 q] w (Rt w (.bool true)) := by
 have d1 : decide (q < 2305843009213693952) = true := by simp; omega
 go_in
 go_wp2_with fail
 refine (fu q (by omega) true hp.out _ hv.out).mono ?_
 rintro e w' ⟨rfl, n3, rfl⟩
 have hbq := ay (Below.refl w.heap.size w) n3
 go_wp2
 go_ret
 exact ⟨rfl, hbq⟩
theorem Bb (q : Int) (a : Nat) (W : World) (hx : Hid (W.cell? ⟨a, 0, none⟩ = some (.int .i64 q))) :
  Says 78 #[.pointer (some ⟨a, 0, none⟩)] (fun x => !bf q x) W := fun x w1 hb => by
 show Calls Tryz.prog 78 #[.int .i64 x, .pointer (some ⟨a, 0, none⟩)] w1 fun e w' => e = .returned (.bool (!bf q x)) ∧ Below w1.heap.size w1 w'
 have c0 := cell_below hx.out hb
 by_cases h0 : x < 0
 ·
  have e : bf q x = false := by simp [bf]; omega
  rw [e]
  have d0 : decide (x < 0) = true := by simp; omega
  clear hb e
  go_in
  go_wp2
  go_ret
  exact ⟨rfl, Below.refl _ _⟩
 ·
  have d0 : decide (x < 0) = false := by simp; omega
  obtain ⟨t, ht⟩ : ∃ t, decide (q ≤ x) = t := ⟨_, rfl⟩
  have e : bf q x = !t := by
   rw [← ht, bf, decide_eq_true (show (0 : Int) ≤ x by omega), Bool.true_and, ← decide_not]
   exact decide_eq_decide.2 (by omega)
  rw [e, Bool.not_not]
  clear hb e
  go_in
  go_wp2
  go_ret
  exact ⟨by first | rfl | rw [ht], Below.refl _ _⟩
theorem dD (q : Int) (A : Option Addr) (xs : List Int) (n c : Nat) (r : Bool) (hr : Hid (xs.all (bf q) = r)) (hn : Hid (xs.length = n)) (hbig : Hid (n < 1000000)) (w : World) (hs : Hid (Sl w A xs)) :
  Calls Tryz.prog 50 #[.int .i64 q, .slice A n c] w (Rt w (.bool r)) := by
 have HX0 : Hid ((w.alloc (.cells #[.int .i64 q] 3)).cell? ⟨w.heap.size, 0, none⟩ = some (.int .i64 q)) := aa (ax (heap_alloc_new _ _) 0)
 have O0 := aa (hs.out.below (af w (.cells #[.int .i64 q] 3)))
 have TE := aa (Bb q w.heap.size _ HX0)
 have HP : Hid ((xs.any fun x => !bf q x) = !r) := aa (by rw [uI, hr.out])
 clear hs
 go_in
 go_wp2_with fail
 refine (I7 (.pointer (some ⟨w.heap.size, 0, none⟩)) (fun x => !bf q x) (!r) A xs n c HP hn hbig _ O0 TE).mono ?_
 rintro e w1 ⟨rfl, hb0⟩
 have hb1 := ag (af _ _) hb0
 clear hb0
 go_wp2
 go_ret
 exact ⟨by simp, hb1⟩
theorem Ch (A : Option Addr) (xs : List Int) (n c : Nat) (v : Int) (hn : Hid (xs.length = n)) (hbig : n < 1000000) (hno : Hid (∀ k, k < n → v ≠ xs.getD k 0)) (w : World) (hs : Hid (Sl w A xs)) :
  Calls Tryz.prog 92 #[.slice A n c, .int .i64 v] w (Rt w (.int .i64 (-1))) := by
 go_in
 go_wp2
 go_loopw [8] (fun i wr => ∃ k : Nat, k ≤ n ∧ i = .int .i64 k ∧ Hid (Below w.heap.size w wr)) (fun i _ => n - (intOf i).toNat)
 case atStart => exact ⟨0, by omega, rfl, aa (Below.refl _ _)⟩
 case round =>
  obtain ⟨k, hk, rfl, aB⟩ := hrel
  by_cases hlt : k < n
  ·
   have hkl : k < xs.length := by rw [hn.out]; exact hlt
   obtain ⟨b, o, hA, hi0⟩ := hs.out.below aB.out k hkl
   subst hA
   have hne := hno.out k hlt
   obtain ⟨x, hx⟩ : ∃ x, xs.getD k 0 = x := ⟨_, rfl⟩
   rw [hx] at hi0 hne
   have hnq : (v == x) = false := by simpa using hne
   clear hx hkl hne
   go_wp2
   go_roundw
   case rel => exact ⟨k + 1, by omega, by go_num, aB⟩
   case measure => simp [intOf]; omega
  ·
   obtain rfl : k = n := by omega
   go_wp2
   go_ret
   exact ⟨rfl, aB.out⟩
theorem uz (A : Option Addr) (xs : List Int) (n c : Nat) (v : Int) (hn : Hid (xs.length = n)) (hbig : n < 1000000) (hno : Hid (∀ k, k < n → v ≠ xs.getD k 0)) (w : World) (hs : Hid (Sl w A xs)) :
  Calls Tryz.prog 71 #[.slice A n c, .int .i64 v] w (Rt w (.bool false)) := by
 go_in
 go_wp2_with fail
 refine (Ch A xs n c v hn hbig hno _ hs).mono ?_
 rintro e w1 ⟨rfl, hb0⟩
 go_wp2
 go_ret
 exact ⟨rfl, hb0⟩
theorem ja {w : World} {A : Option Addr} {xs : List Int} (h : Sl w A xs) (k : Nat) : Sl w A (xs.take k) := fun j hj => by
 have hj2 : j < k ∧ j < xs.length := by rw [List.length_take] at hj; omega
 obtain ⟨b, o, h1, h2⟩ := h j hj2.2
 refine ⟨b, o, h1, ?_⟩
 rw [h2, List.getD_eq_getElem?_getD, List.getD_eq_getElem?_getD, List.getElem?_take_of_lt hj2.1]
def bY (xs : List Int) : Prop := ∀ i j, i < xs.length → j < i → xs.getD i 0 ≠ xs.getD j 0
theorem pY (q : Int) (A : Option Addr) (xs : List Int) (n c : Nat) (O : Option Addr) (os : List Int) (m d : Nat) (h2 : q < 2305843009213693952) (hp : Hid (dR q = true)) (hn : Hid (xs.length = n)) (hbig : n ≤ 100) (hcap : n ≤ c) (hm : Hid (os.length = m)) (hmb : m ≤ 100)
  (hx : Hid (xs.all (bf q) = true)) (ho : Hid (os.all (bf q) = true)) (hnt : Hid (bY xs)) (w : World) (hv : Hid (Vars w)) (hs : Hid (Sl w A xs)) (hO : Hid (Sl w O os)) :
  Calls Tryz.prog 42 #[.int .i64 q, .slice A n c, .slice O m d] w (Rt w (.int .i64 0)) := by
 have d1 : decide ((100 : Int) < (n : Int)) = false := by simp; omega
 go_in
 go_wp2_with fail
 refine (jJ q h2 hp _ hv).mono ?_
 rintro e w1 ⟨rfl, hb0⟩
 have HB1 := aa hb0
 clear hb0
 go_wp2_with fail
 refine (dD q A xs n c true hx hn (aa (by omega)) _ (aa (hs.out.below HB1.out))).mono ?_
 rintro e w2 ⟨rfl, hb0⟩
 have HB2 := aa (ag HB1.out hb0)
 clear hb0
 go_wp2_with fail
 refine (dD q O os m d true ho hm (aa (by omega)) _ (aa (hO.out.below HB2.out))).mono ?_
 rintro e w3 ⟨rfl, hb0⟩
 have HB3 := aa (ag HB2.out hb0)
 clear hb0
 go_wp2
 go_loopw [31] (fun i wr => ∃ k : Nat, k ≤ n ∧ i = .int .i64 k ∧ Hid (Below w.heap.size w wr)) (fun i _ => n - (intOf i).toNat)
 case atStart => exact ⟨0, by omega, rfl, HB3⟩
 case round =>
  obtain ⟨k, hk, rfl, aB⟩ := hrel
  by_cases hlt : k < n
  ·
   have hkl : k < xs.length := by rw [hn.out]; exact hlt
   have mH := aa (hs.out.below aB.out)
   obtain ⟨b, o, hA, hi0⟩ := mH.out k hkl
   subst hA
   have hkc : k ≤ c := by omega
   have HT := aa (ja mH.out k)
   have JO : Hid ((xs.take k).length = k) := aa (by rw [List.length_take]; omega)
   have JW : Hid (∀ j, j < k → xs.getD k 0 ≠ (xs.take k).getD j 0) := aa (fun j hj => by
    have := hnt.out k j hkl hj
    rwa [List.getD_eq_getElem?_getD (l := xs.take k), List.getElem?_take_of_lt hj, ← List.getD_eq_getElem?_getD])
   obtain ⟨x, PZ⟩ : ∃ x, xs.getD k 0 = x := ⟨_, rfl⟩
   rw [PZ] at hi0 JW
   clear PZ hkl
   go_wp2_with fail
   refine (uz (some ⟨b, o, none⟩) (xs.take k) k c x JO (by omega) JW _ HT).mono ?_
   rintro e w4 ⟨rfl, hb0⟩
   have yT := aa (ag aB.out hb0)
   clear hb0
   go_wp2
   go_roundw
   case rel => exact ⟨k + 1, by omega, by go_num, yT⟩
   case measure => simp [intOf]; omega
  ·
   obtain rfl : k = n := by omega
   go_wp2
   go_ret
   exact ⟨rfl, aB.out⟩
def lK (q : Int) (xs : List Int) (i : Nat) (x : Int) : Nat → Int
 | 0 => 1
 | m + 1 => if m = i then lK q xs i x m else lK q xs i x m * ((x - xs.getD m 0 + q) % q) % q
theorem jA {q : Int} (hq : 2 ≤ q) (xs : List Int) (i : Nat) (x : Int) : ∀ m, 0 ≤ lK q xs i x m ∧ lK q xs i x m < q
 | 0 => ⟨by rw [lK]; omega, by rw [lK]; omega⟩
 | m + 1 => by
  rw [lK]
  split
  · exact jA hq xs i x m
  · exact ⟨Int.emod_nonneg _ (by omega), Int.emod_lt_of_pos _ (by omega)⟩
theorem nE (q : Int) (xs : List Int) (i : Nat) (x : Int) : ∀ m, Cg q (lK q xs i x m) (tp (fun j => xs.getD j 0) i x m)
 | 0 => Cg.refl _ _
 | m + 1 => by
  rw [lK, tp]
  split
  · exact nE q xs i x m
  · exact (Cg.mod _ _).trans ((nE q xs i x m).mul ((Cg.mod _ _).trans ⟨1, by grind⟩))
noncomputable def xH (q : Int) (xs : List Int) (t : Int) (i : Nat) : Int := lK q xs i t xs.length * fP (lK q xs i (xs.getD i 0) xs.length) q % q
noncomputable def Ad (q : Int) (xs : List Int) (t : Int) (k : Nat) : List Int := (List.range k).map (xH q xs t)
theorem fF (q : Int) (xs : List Int) (t : Int) (k : Nat) : (Ad q xs t k).length = k := by simp [Ad]
theorem Aq (q : Int) (xs : List Int) (t : Int) (k : Nat) : Ad q xs t (k + 1) = Ad q xs t k ++ [xH q xs t k] := by simp [Ad, List.range_succ]
theorem Ed (q : Int) (xs : List Int) (t : Int) (k i : Nat) (h : i < k) : (Ad q xs t k).getD i 0 = xH q xs t i := by
 rw [Ad, List.getD_eq_getElem?_getD, List.getElem?_map, List.getElem?_range h]; rfl
theorem uX {q : Int} (hq : 2 ≤ q) (xs : List Int) (t : Int) (i : Nat) : 0 ≤ xH q xs t i ∧ xH q xs t i < q := ⟨Int.emod_nonneg _ (by omega), Int.emod_lt_of_pos _ (by omega)⟩
theorem tN {q : Int} (hq : 2 ≤ q) : (1 : Int).tmod q = 1 := by rw [Int.tmod_eq_emod_of_nonneg (by omega)]; exact Int.emod_eq_of_lt (by omega) (by omega)
def KW (q : Int) (xs : List Int) (t : Int) (n : Nat) (w : World) (e : Ending) (w' : World) : Prop := ∃ v, e = .returned (.tuple #[v, .int .i64 0]) ∧ bq w' w.heap.size v (Ad q xs t n) ∧ Below w.heap.size w w'
theorem r9 (q : Int) (A : Option Addr) (xs : List Int) (n c : Nat) (t : Int) (h2 : q < 2305843009213693952) (hp : Hid (dR q = true)) (hn : Hid (xs.length = n)) (hbig : n ≤ 100) (hx : Hid (xs.all (bf q) = true)) (t0 : 0 ≤ t) (t1 : t < q) (hcap : n ≤ c) (hnt : Hid (bY xs)) (w : World) (hv : Hid (Vars w)) (hs : Hid (Sl w A xs)) :
  Calls Tryz.prog 36 #[.int .i64 q, .slice A n c, .int .i64 t] w (KW q xs t n w) := by
 obtain ⟨i0, hi, hz0, hz1, hz2⟩ := info_parts gW
 have q2 := eH hp.out
 have hq := af w (.cells #[.int .i64 t] 3)
 have HO := aa (eX (jN w 3 t))
 have QL := aa (hv.out.below hq)
 have OT := aa (hs.out.below hq)
 have UH : Hid ([t].all (bf q) = true) := aa (mQ t0 t1)
 have UG := aa hq
 clear hq hv hs
 go_in
 go_wp2_with fail
 refine (pY q A xs n c (some ⟨w.heap.size, 0, none⟩) [t] 1 1 h2 hp hn hbig hcap (aa rfl) (by omega) hx UH hnt _ QL OT HO).mono ?_
 rintro e W ⟨rfl, hb0⟩
 have rO := aa (ag UG.out hb0)
 have MU := aa (OT.out.below hb0)
 have Tn := aa rO.out.size
 clear hb0 HO QL OT
 go_wp2
 go_loopw [9, 26] (fun v i wr => ∃ k : Nat, k ≤ n ∧ i = .int .i64 k ∧ Hid (bq wr W.heap.size v (Ad q xs t k)) ∧ Hid (Below W.heap.size W wr)) (fun _ i _ => n - (intOf i).toNat)
 case atStart => exact ⟨0, by omega, rfl, aa (kg _ _), aa (Below.refl _ _)⟩
 case round =>
  obtain ⟨k, hk, rfl, HOr, aB⟩ := hrel
  by_cases hlt : k < n
  ·
   have hkl : k < xs.length := by rw [hn.out]; exact hlt
   obtain ⟨b, o, hA, hi0⟩ := MU.out.below aB.out k hkl
   subst hA
   have hm1 := kU hx.out hkl
   obtain ⟨xk, hxk⟩ : ∃ x, xs.getD k 0 = x := ⟨_, rfl⟩
   rw [hxk] at hi0 hm1
   have k0 := lM hm1
   have k1 := lN hm1
   have Tu := aa hxk
   have hQn : ¬ (q = 0) := by omega
   have JH : ((q : Int) == 0) = false := by simp; omega
   have Vs := tN q2
   clear hxk hm1 hkl
   go_wp2
   go_quiet (fail)
   go_wp2
   clear hi0
   go_loopw [12, 13, 37] (fun a u j wz => ∃ m : Nat, m ≤ n ∧ j = .int .i64 m ∧ a = .int .i64 (lK q xs k t m) ∧ u = .int .i64 (lK q xs k xk m) ∧ Hid (Below wr.heap.size wr wz)) (fun _ _ j _ => n - (intOf j).toNat)
   case atStart => exact ⟨0, by omega, rfl, rfl, rfl, aa (by first | exact Below.refl _ _ | exact (Below.refl _ _).drew | exact ay (Below.refl _ _) _)⟩
   case round =>
    obtain ⟨m, hm, rfl, rfl, rfl, rV⟩ := hrel
    obtain ⟨a0, a1⟩ := jA q2 xs k t m
    obtain ⟨u0, u1⟩ := jA q2 xs k xk m
    by_cases hlm : m < n
    ·
     have hml : m < xs.length := by rw [hn.out]; exact hlm
     obtain ⟨b2, o2, hA2, hi1⟩ := MU.out.below (ag aB.out rV.out) m hml
     cases hA2
     have hm2 := kU hx.out hml
     have sa : lK q xs k t (m + 1) = if m = k then lK q xs k t m else lK q xs k t m * ((t - xs.getD m 0 + q) % q) % q := rfl
     have su : lK q xs k xk (m + 1) = if m = k then lK q xs k xk m else lK q xs k xk m * ((xk - xs.getD m 0 + q) % q) % q := rfl
     obtain ⟨y, hy⟩ : ∃ x, xs.getD m 0 = x := ⟨_, rfl⟩
     rw [hy] at hi1 hm2 sa su
     have y0 := lM hm2
     have y1 := lN hm2
     obtain ⟨av, JF⟩ : ∃ x, lK q xs k t m = x := ⟨_, rfl⟩
     obtain ⟨uv, huv⟩ : ∃ x, lK q xs k xk m = x := ⟨_, rfl⟩
     rw [JF] at a0 a1 sa ⊢
     rw [huv] at u0 u1 su ⊢
     clear hy hm2 hml JF huv
     by_cases hmk : m = k
     ·
      have dn : ((m : Int) != (k : Int)) = false := by simp [hmk]
      rw [if_pos hmk] at sa su
      have SA := aa sa
      have SU := aa su
      have Vz := aa hmk
      clear sa su hmk
      go_wp2
      go_roundw
      case rel => exact ⟨m + 1, by omega, by go_num, by rw [SA.out], by rw [SU.out], rV⟩
      case measure => simp [intOf]; omega
     ·
      have dn : ((m : Int) != (k : Int)) = true := by simp; omega
      rw [if_neg hmk] at sa su
      obtain ⟨s1, hs1⟩ : ∃ x, (t - y + q) % q = x := ⟨_, rfl⟩
      obtain ⟨s2, hs2⟩ : ∃ x, (xk - y + q) % q = x := ⟨_, rfl⟩
      rw [hs1] at sa
      rw [hs2] at su
      obtain ⟨p1, hp1⟩ : ∃ x, av * s1 % q = x := ⟨_, rfl⟩
      obtain ⟨p2, hp2⟩ : ∃ x, uv * s2 % q = x := ⟨_, rfl⟩
      rw [hp1] at sa
      rw [hp2] at su
      have z1 : 0 ≤ s1 := by rw [← hs1]; exact Int.emod_nonneg _ (by omega)
      have z2 : s1 < q := by rw [← hs1]; exact Int.emod_lt_of_pos _ (by omega)
      have z3 : 0 ≤ s2 := by rw [← hs2]; exact Int.emod_nonneg _ (by omega)
      have z4 : s2 < q := by rw [← hs2]; exact Int.emod_lt_of_pos _ (by omega)
      have SA := aa sa
      have SU := aa su
      have H1 := aa hs1
      have H2 := aa hs2
      have H3 := aa hp1
      have H4 := aa hp2
      clear sa su hs1 hs2 hp1 hp2 hmk
      go_wp2_with fail
      refine (j4 q t y s1 H1 (by omega) h2 t0 t1 y0 y1 _).mono ?_
      rintro e UT ⟨rfl, g1⟩
      have G1 := aa g1
      clear g1
      go_wp2_with fail
      refine (fD q av s1 p1 H3 h2 a0 a1 z1 z2 _).mono ?_
      rintro e UR ⟨rfl, g2⟩
      have G2 := aa g2
      clear g2
      go_wp2_with fail
      refine (j4 q xk y s2 H2 (by omega) h2 k0 k1 y0 y1 _).mono ?_
      rintro e UQ ⟨rfl, g3⟩
      have G3 := aa g3
      clear g3
      go_wp2_with fail
      refine (fD q uv s2 p2 H4 h2 u0 u1 z3 z4 _).mono ?_
      rintro e UO ⟨rfl, g4⟩
      have G4 := aa g4
      clear g4
      have HB2 := aa (ag (ag (ag (ag rV.out G1.out) G2.out) G3.out) G4.out)
      go_wp2
      go_roundw
      case rel => exact ⟨m + 1, by omega, by go_num, by rw [SA.out], by rw [SU.out], HB2⟩
      case measure => simp [intOf]; omega
    ·
     obtain rfl : m = n := by omega
     have hlen := hn.out
     obtain ⟨av, JF⟩ : ∃ x, lK q xs k t m = x := ⟨_, rfl⟩
     obtain ⟨uv, huv⟩ : ∃ x, lK q xs k xk m = x := ⟨_, rfl⟩
     obtain ⟨iv, hiv⟩ : ∃ x, fP uv q = x := ⟨_, rfl⟩
     obtain ⟨wv, hwv⟩ : ∃ x, av * iv % q = x := ⟨_, rfl⟩
     have Tx : Hid (xH q xs t k = wv) := aa (by rw [xH, hlen, Tu.out, JF, huv, hiv, hwv])
     rw [JF] at a0 a1 ⊢
     rw [huv] at u0 u1 ⊢
     have Uq := aa hiv
     have Tw := aa hwv
     have Q5 := aa (HOr.out.keep rV.out)
     have LP := aa (ag aB.out rV.out)
     clear hlen JF huv hiv hwv rV aB HOr
     go_wp2_with fail
     refine (sS q uv iv Uq q2 h2 u0 u1 _).mono ?_
     rintro e y1 ⟨rfl, v0, v1, g1⟩
     have D9 := aa (Q5.out.keep g1)
     have HB1 := aa (ag LP.out g1)
     clear g1 Q5 LP
     go_wp2_with fail
     refine (fD q av iv wv Tw h2 a0 a1 v0 v1 _).mono ?_
     rintro e y2 ⟨rfl, g1⟩
     have GQ := aa (D9.out.keep g1)
     have HB2 := aa (ag HB1.out g1)
     clear g1 D9 HB1
     have hown : y2.ownsRow W.heap.size 3 1 u9 k ((Ad q xs t k).map (Value.int .i64)) := by
      have h3 := GQ.out
      unfold bq at h3
      rwa [fF] at h3
     have hbs := HB2.out.size
     go_wp2_with (at_builtin; refine wpList_append_own _ rfl _ _ 30 rfl W.heap.size 3 i0 (.int .i64 0) 1 8 Tryz.underlying30 hi hz0 hz1 hz2 rfl (by decide) _ _ _ rfl (hown.alloc _) ⟨y2.heap.size, 0, none⟩ 1 1 [.int .i64 wv] rfl rfl (cell_one_new _ _ _) (ints_oneCell .i64 [wv]) (by unfold maxLen; omega) (by omega) (by simp; omega) ?_; intro v' y3 hown1 hgrow1 _)
     have GN : Hid (bq y3 W.heap.size v' (Ad q xs t (k + 1))) := aa (by
      rw [Aq, Tx.out]
      exact bq.app (fF q xs t k).symm hown1)
     have HB3 : Hid (Below W.heap.size W y3) := aa (GQ.out.below HB2.out hbs hgrow1)
     clear hown hown1 hgrow1 GQ HB2
     go_roundw
     case rel => exact ⟨k + 1, by omega, by go_num, GN, HB3⟩
     case measure => simp [intOf]; omega
  ·
   obtain rfl : k = n := by omega
   have hF := ag rO.out aB.out
   have hO := (HOr.out).mono Tn.out
   have HF := aa hF
   have TV := aa hO
   clear hF hO HOr aB
   go_wp2
   go_ret2
   exact ⟨_, rfl, TV.out, HF.out⟩
theorem Io {a q v : Int} (hq : 2 ≤ q) (h : fP a q = v) : 0 ≤ v ∧ v < q := by
 rw [← h]
 unfold fP
 split
 · rename_i he; exact ⟨(Classical.choose_spec he).1, (Classical.choose_spec he).2.1⟩
 · omega
end Go.Proofs.YticegghameafgaaGreatDoor