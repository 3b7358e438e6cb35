/- The reference Simulate of layer 17. -/
import Derived.Test.YtijedphpcocfnaaDoorLinS
import Derived.Test.YtijedphpcocfnaaDoorHeld
import Derived.Deep.AppendLies
namespace Go.Proofs.YtijedphpcocfnaaDoor
open Go.RowKit SpM
set_option linter.unusedVariables false
set_option linter.unusedSimpArgs false
set_option maxRecDepth 100000

/-- cells that the call owns, behind an append to another row. -/
theorem Own.grown {w w1 : World} {row : Option Nat} {p : Addr} {v : Value} (h : Own w p v) (hg : w.grownBy w1 row) (hne : row ≠ some p.block) : Own w1 p v := by
  have hlt := World.block_lt_of_cell? _ _ h.1
  exact ⟨by rw [hg.cell_far _ hlt (Ne.symm hne)]; exact h.1, by rw [hg.frozen_far _ hlt (Ne.symm hne)]; exact h.2⟩
theorem Own.set_ne {w : World} {p q : Addr} {v u : Value} (h : Own w p v) (hne : q ≠ p) : Own (w.setCell q u) p v :=
  ⟨by rw [World.cell?_setCell_other _ _ _ _ hne]; exact h.1, by rw [World.frozen?_setCell]; exact h.2⟩
theorem Own.set_eq {w : World} {p : Addr} {v u : Value} (h : Own w p v) : Own (w.setCell p u) p u :=
  ⟨World.cell?_setCell_same _ _ _ h.1, by rw [World.frozen?_setCell]; exact h.2⟩
theorem grown_set (w : World) (a j : Nat) (v : Value) : w.grownBy (w.setCell ⟨a, j, none⟩ v) (some a) :=
  ⟨rfl, rfl, rfl, by simp [World.setCell], fun k hk hne => by
    have : a ≠ k := fun e => hne (by rw [e])
    simp [World.setCell, Array.getElem?_modify, this]⟩
theorem OwnL.set {w : World} {B a j : Nat} {v u : Value} {xs : List Int} (h : OwnL w B v xs) (hne : v.ownBlock ≠ some a) : OwnL (w.setCell ⟨a, j, none⟩ u) B v xs :=
  World.ownsRow.kept h (grown_set w a j u) (Or.inr hne)
theorem OwnL.no {w : World} {B a : Nat} {v : Value} {xs : List Int} (h : OwnL w B v xs) (ha : a < B) : v.ownBlock ≠ some a := fun e => by
  have := (World.ownsRow.lt h _ e).1
  omega
/-- a proof that the call builds. -/
def PB (w : World) (a : Nat) (x y z : Value) : Prop := Own w ⟨a, 0, none⟩ x ∧ Own w ⟨a, 1, none⟩ y ∧ Own w ⟨a, 2, none⟩ z
theorem PB.below {w w' : World} {a : Nat} {x y z : Value} (h : PB w a x y z) (hb : Below w.heap.size w w') : PB w' a x y z := ⟨h.1.below hb, h.2.1.below hb, h.2.2.below hb⟩
theorem PB.grown {w w1 : World} {row : Option Nat} {a : Nat} {x y z : Value} (h : PB w a x y z) (hg : w.grownBy w1 row) (hne : row ≠ some a) : PB w1 a x y z := ⟨h.1.grown hg hne, h.2.1.grown hg hne, h.2.2.grown hg hne⟩
theorem PB.set2 {w : World} {a : Nat} {x y z u : Value} (h : PB w a x y z) : PB (w.setCell ⟨a, 2, none⟩ u) a x y u := ⟨h.1.set_ne (by simp), h.2.1.set_ne (by simp), h.2.2.set_eq⟩
theorem PB.set0 {w : World} {a : Nat} {x y z u : Value} (h : PB w a x y z) : PB (w.setCell ⟨a, 0, none⟩ u) a u y z := ⟨h.1.set_eq, h.2.1.set_ne (by simp), h.2.2.set_ne (by simp)⟩
/-- what stands below block B is as it was. -/
theorem Sl.belowB {w w0 u : World} {B : Nat} {A : Option Addr} {xs : List Int} (h : Sl w A xs) (h0 : Below w.heap.size w w0) (hB : w.heap.size ≤ B) (hu : Below B w0 u) : Sl u A xs := h.below (h0.trans (hu.mono hB))
theorem Rw.belowB {w w0 u : World} {B : Nat} {A : Option Addr} {rs : List Row} (h : Rw w A rs) (h0 : Below w.heap.size w w0) (hB : w.heap.size ≤ B) (hu : Below B w0 u) : Rw u A rs := h.below (h0.trans (hu.mono hB))
theorem cell_belowB {w u : World} {B : Nat} {p : Addr} {v : Value} (h : w.cell? p = some v) (hp : p.block < B) (hu : Below B w u) : u.cell? p = some v := (hu.cell hp).trans h
theorem Own.belowB {w u : World} {B : Nat} {p : Addr} {v : Value} (h : Own w p v) (hp : p.block < B) (hu : Below B w u) : Own u p v := ⟨cell_belowB h.1 hp hu, (hu.frozen hp).trans h.2⟩
theorem PB.belowB {w u : World} {B a : Nat} {x y z : Value} (h : PB w a x y z) (hp : a < B) (hu : Below B w u) : PB u a x y z := ⟨h.1.belowB hp hu, h.2.1.belowB hp hu, h.2.2.belowB hp hu⟩
theorem Sl.grown {w w1 : World} {row : Option Nat} {A : Option Addr} {xs : List Int} (h : Sl w A xs) (hg : w.grownBy w1 row) (hne : ∀ b o, A = some ⟨b, o, none⟩ → 0 < xs.length → row ≠ some b) : Sl w1 A xs := fun k hk => by
  obtain ⟨b, o, e, hc⟩ := h k hk
  refine ⟨b, o, e, ?_⟩
  have hlt := World.block_lt_of_cell? _ _ hc
  rw [hg.cell_far _ hlt (Ne.symm (hne b o e (by omega)))]
  exact hc
theorem take_snocI {zs : List Int} {k : Nat} (hk : k < zs.length) : zs.take (k + 1) = zs.take k ++ [zs.getD k 0] := by
  rw [List.take_add_one, List.getElem?_eq_getElem hk, List.getD_eq_getElem?_getD, List.getElem?_eq_getElem hk]
  rfl
/-- a proof's value that reads so. -/
def SProofOut (al : List Int) (n : Nat) (C : Int) (zl : List Int) (m : Nat) (w : World) (e : Ending) (w' : World) : Prop :=
  ∃ A c Z d, e = .returned (prvL A n c C Z m d) ∧ Sl w' A al ∧ Sl w' Z zl ∧ Below w.heap.size w w'
/-- the first commitments of a simulation. -/
def simK (P Q c : Int) (ys : List Int) (rows : List Row) (zs : List Int) (k : Nat) : List Int := (List.range k).map (simF P Q c ys rows zs)
theorem simK_length (P Q c : Int) (ys : List Int) (rows : List Row) (zs : List Int) (k : Nat) : (simK P Q c ys rows zs k).length = k := by simp [simK]
theorem simK_succ (P Q c : Int) (ys : List Int) (rows : List Row) (zs : List Int) (k : Nat) : simK P Q c ys rows zs (k + 1) = simK P Q c ys rows zs k ++ [simF P Q c ys rows zs k] := by
  simp [simK, List.range_succ]

set_option maxHeartbeats 25600000 in
theorem rsim17_ok (P Q G : Int) (Y : Option Addr) (ys : List Int) (yc : Nat) (B : Option Addr) (rows : List Row) (n bc : Nat) (c : Int) (L : Option Addr) (zs : List Int) (ln lc : Nat) (HVL : Hid (validR P Q G ys rows = true)) (hyn : Hid (ys.length = n)) (hbn : Hid (rows.length = n)) (hln : Hid (zs.length = ln)) (hlen : zs.length = rowN rows)
    (Hl : Hid (zs.all (scB Q) = true)) (hc0 : 0 ≤ c) (hc1 : c < Q) (hQ : Q < 9223372036854775808) (w : World) (hY : Hid (Sl w Y ys)) (hB : Hid (Rw w B rows)) (hL : Hid (Sl w L zs)) :
    Calls Tryd.prog 22 #[gv P Q G, relV Y n yc B n bc, .int .i64 c, .slice L ln lc] w (SProofOut (simR P Q c ys rows zs) n c zs ln w) := by
  obtain ⟨i0, hi, hz0, hz1, hz2⟩ := info_parts intInfo
  obtain ⟨v1, v2, v3, v4, v5, v6, v7, v8⟩ := validR_parts HVL.out
  obtain ⟨hp2, hp, hq3, hqp⟩ := validG_P v1
  rw [← hlen, hln.out] at v8
  have HRB := Lib.hid v8
  have hnp : 0 < n := by rw [← hyn.out]; omega
  have hn8 : n ≤ 8 := by rw [← hyn.out]; omega
  have hln12 : ln ≤ 12 := by rw [← hln.out]; omega
  have hln1 : 1 ≤ ln := by rw [← hln.out]; omega
  have HYM := Lib.hid v5
  clear v1 v2 v3 v4 v5 v6 v7 v8
  obtain ⟨w0, hW⟩ : ∃ W, (((w.alloc (gObj P Q G)).alloc (relO Y n yc B n bc)).alloc (prObjL none 0 0 0 none 0 0)).alloc (prObjL none 0 0 c none 0 0) = W := ⟨_, rfl⟩
  have HBw : Hid (Below w.heap.size w w0) := Lib.hid (by rw [← hW]; exact ((((Below.refl _ _).alloc (Nat.le_refl _) _).alloc (by simp) _).alloc (by simp; omega) _).alloc (by simp; omega) _)
  have HSZ : w0.heap.size = w.heap.size + 4 := by rw [← hW]; simp
  have HX0 : Hid (GBox w0 w.heap.size P Q G) := Lib.hid (by rw [← hW]; exact (((gbox_alloc w P Q G).below (below_box0 _ _)).below (below_box0 _ _)).below (below_box0 _ _))
  have HR0 : Hid (RBox w0 (w.heap.size + 1) (.slice Y n yc) (.slice B n bc)) := Lib.hid (by rw [← hW]; exact ((rbox_alloc1 _ _ _ _ _).below (below_box0 _ _)).below (below_box0 _ _))
  have HT0 : Hid (PB w0 (w.heap.size + 2) (.slice none 0 0) (.int .i64 0) (.slice none 0 0)) := Lib.hid (by rw [← hW]; exact PB.below ⟨allocs_own (by simp) (by rfl), allocs_own (by simp) (by rfl), allocs_own (by simp) (by rfl)⟩ (below_box0 _ _))
  have HP0 : Hid (PB w0 (w.heap.size + 3) (.slice none 0 0) (.int .i64 c) (.slice none 0 0)) := Lib.hid (by rw [← hW]; exact ⟨allocs_own (by simp) (by rfl), allocs_own (by simp) (by rfl), allocs_own (by simp) (by rfl)⟩)
  have kL := Lib.hid (show ∀ u : World, Hid (Below (w.heap.size + 3) w0 u) → Hid (Sl u L zs) from fun u h => Lib.hid (hL.out.belowB HBw.out (by omega) h.out))
  have kY := Lib.hid (show ∀ u : World, Hid (Below (w.heap.size + 3) w0 u) → Hid (Sl u Y ys) from fun u h => Lib.hid (hY.out.belowB HBw.out (by omega) h.out))
  have kB := Lib.hid (show ∀ u : World, Hid (Below (w.heap.size + 3) w0 u) → Hid (Rw u B rows) from fun u h => Lib.hid (hB.out.belowB HBw.out (by omega) h.out))
  have kT := Lib.hid (show ∀ u : World, Hid (Below (w.heap.size + 3) w0 u) → Hid (PB u (w.heap.size + 2) (.slice none 0 0) (.int .i64 0) (.slice none 0 0)) from fun u h => Lib.hid (HT0.out.belowB (by omega) h.out))
  have kR := Lib.hid (show ∀ u : World, Hid (Below (w.heap.size + 3) w0 u) → (u.cell? ⟨w.heap.size, 0, none⟩ = some (.int .i64 P) ∧ u.cell? ⟨w.heap.size, 1, none⟩ = some (.int .i64 Q) ∧ u.cell? ⟨w.heap.size, 2, none⟩ = some (.int .i64 G) ∧ u.cell? ⟨w.heap.size + 1, 0, none⟩ = some (.slice Y n yc) ∧ u.cell? ⟨w.heap.size + 1, 1, none⟩ = some (.slice B n bc)) from fun u h => ⟨cell_belowB HX0.out.1 (by simp) h.out, cell_belowB HX0.out.2.1 (by simp) h.out, cell_belowB HX0.out.2.2 (by simp) h.out, cell_belowB HR0.out.1 (by simp) h.out, cell_belowB HR0.out.2 (by simp) h.out⟩)
  have HW := Lib.hid hW
  have HSZ2 := Lib.hid HSZ
  clear hW hY hB hL HSZ
  go_enter Tryd.func22, Tryd.ntmps22
  go_wp2
  rw [HW.out]
  go_loopw [10] (fun i wr => ∃ (k : Nat) (v : Value), k ≤ ln ∧ i = .int .i64 k ∧ Hid (PB wr (w.heap.size + 3) (.slice none 0 0) (.int .i64 c) v) ∧ Hid (OwnL wr (w.heap.size + 4) v (zs.take k)) ∧ Hid (Below (w.heap.size + 3) w0 wr)) (fun i _ => ln - (intOf i).toNat)
  case atStart => exact ⟨0, .slice none 0 0, by omega, rfl, HP0, Lib.hid (ownL_nil _ _), Lib.hid (Below.refl _ _)⟩
  case round =>
    obtain ⟨k, v, hk, rfl, HPr, HO, HBr⟩ := hrel
    obtain ⟨wo, rfl⟩ : ∃ wo : World, wo = wr := ⟨_, rfl⟩
    by_cases hlt : k < ln
    · have hkl : k < zs.length := by rw [hln.out]; exact hlt
      obtain ⟨b, o, hA, hi0⟩ := (kL.out _ HBr).out k hkl
      subst hA
      have HST := Lib.hid (take_snocI hkl)
      have HTL : Hid ((zs.take k).length = k) := Lib.hid (by rw [List.length_take]; omega)
      obtain ⟨x, hx⟩ : ∃ x, zs.getD k 0 = x := ⟨_, rfl⟩
      rw [hx] at hi0 HST
      have hsz : w.heap.size + 4 ≤ wo.heap.size := by have h5 := World.block_lt_of_cell? _ _ HPr.out.1.1; have h6 : w.heap.size + 3 < wo.heap.size := h5; omega
      have hown : wo.ownsRow (w.heap.size + 4) 3 1 v k ((zs.take k).map (Value.int .i64)) := by
        have h3 := HO.out
        unfold OwnL at h3
        rwa [HTL.out] at h3
      have hno := HO.out.no (show w.heap.size + 3 < w.heap.size + 4 by omega)
      obtain ⟨p2, f2⟩ := HPr.out.2.2
      have hS := Lib.hid (show ∀ u1 : World, Hid (Below wo.drew.heap.size wo.drew u1) → (u1.cell? ⟨w.heap.size + 3, 2, none⟩ = some v ∧ u1.cell? ⟨b, o + k, none⟩ = some (.int .i64 x) ∧ Hid (Below wo.drew.heap.size wo.drew u1)) from fun u1 h1 => ⟨cell_below (w := wo.drew) p2 h1.out, cell_below (w := wo.drew) hi0 h1.out, h1⟩)
      have HOWN := Lib.hid hown
      clear hx hkl hown p2 f2 hi0
      go_wp2
      refine wp_region_T (S := fun w' => w'.cell? ⟨w.heap.size + 3, 2, none⟩ = some v ∧ w'.cell? ⟨b, o + k, none⟩ = some (.int .i64 x) ∧ Hid (Below wo.drew.heap.size wo.drew w')) (E := [7, 8, 9]) (by kernel_rfl) (hS.out _ (Lib.hid (Below.refl _ _))) (fun hHeld => ?_)
      refine wpT_take (i := 0) (oi := _) (v := ?_) rfl (by kernel_rfl) (by kernel_rfl) (by kernel_rfl) (by kernel_rfl) (fun _ _ _ h => h) (Or.inl ⟨by rfl, ?_⟩) (by assumption) ?_
      rotate_left; (intro wS hSw; (try dsimp only at hSw); go_simp <;> with_reducible rfl)
      try simp only [List.getElem_toArray, List.getElem_cons_zero, List.getElem_cons_succ, Act.put, List.setIfInBounds_toArray, List.set_cons_zero, List.set_cons_succ]
      refine wpT_take (i := 1) (oi := _) (v := ?_) rfl (by kernel_rfl) (by kernel_rfl) (by kernel_rfl) (by kernel_rfl) (fun _ _ _ h => h) (Or.inl ⟨by rfl, ?_⟩) (by assumption) ?_
      rotate_left; (intro wS hSw; (try dsimp only at hSw); go_simp <;> with_reducible rfl)
      try simp only [List.getElem_toArray, List.getElem_cons_zero, List.getElem_cons_succ, Act.put, List.setIfInBounds_toArray, List.set_cons_zero, List.set_cons_succ]
      refine wpT_take (i := 2) (oi := _) (v := ?_) rfl (by kernel_rfl) (by kernel_rfl) (by kernel_rfl) (by kernel_rfl) (fun _ _ _ h => h) (Or.inl ⟨by rfl, ?_⟩) (by assumption) ?_
      rotate_left; (intro wS hSw; (try dsimp only at hSw); go_simp <;> with_reducible rfl)
      try simp only [List.getElem_toArray, List.getElem_cons_zero, List.getElem_cons_succ, Act.put, List.setIfInBounds_toArray, List.set_cons_zero, List.set_cons_succ]
      refine wpT_take (i := 3) (oi := _) (v := ?_) rfl (by kernel_rfl) (by kernel_rfl) (by kernel_rfl) (by kernel_rfl) (fun _ _ _ h => h) (Or.inl ⟨by rfl, ?_⟩) (by assumption) ?_
      rotate_left; (intro wS hSw; (try dsimp only at hSw); go_simp <;> with_reducible rfl)
      try simp only [List.getElem_toArray, List.getElem_cons_zero, List.getElem_cons_succ, Act.put, List.setIfInBounds_toArray, List.set_cons_zero, List.set_cons_succ]
      refine wpT_take (i := 4) (oi := _) (v := ?_) rfl (by kernel_rfl) (by kernel_rfl) (by kernel_rfl) (by kernel_rfl) (fun _ _ _ h => h) (Or.inl ⟨by rfl, ?_⟩) (by assumption) ?_
      rotate_left; (intro wS hSw; (try dsimp only at hSw); go_simp <;> with_reducible rfl)
      try simp only [List.getElem_toArray, List.getElem_cons_zero, List.getElem_cons_succ, Act.put, List.setIfInBounds_toArray, List.set_cons_zero, List.set_cons_succ]
      refine wpT_take (i := 5) (oi := _) (v := ?_) rfl (by kernel_rfl) (by kernel_rfl) (by kernel_rfl) (by kernel_rfl) (fun _ _ _ h => h) (Or.inl ⟨by rfl, ?_⟩) (by assumption) ?_
      rotate_left; (intro wS hSw; (try dsimp only at hSw); go_simp <;> with_reducible rfl)
      try simp only [List.getElem_toArray, List.getElem_cons_zero, List.getElem_cons_succ, Act.put, List.setIfInBounds_toArray, List.set_cons_zero, List.set_cons_succ]
      refine wpT_one (i := 6) (by kernel_rfl) rfl (fun K hK => ?_)
      go_simp
      refine hK.out _ _ ?_ (fun hHeld => ?_)
      · exact hS.out _ (Lib.hid (below_box0 _ _))
      clear hK K
      try simp only [List.getElem_toArray, List.getElem_cons_zero, List.getElem_cons_succ, Act.put, List.setIfInBounds_toArray, List.set_cons_zero, List.set_cons_succ]
      refine wpT_pass (i := 7) (by kernel_rfl) (by simp) rfl (fun K hK => ?_)
      refine step_append_lies _ (by rfl) _ _ _ (by rfl) (w.heap.size + 4) 3 i0 _ 1 8 Tryd.underlying24 hi hz0 hz1 hz2 rfl (by omega) v k ((zs.take k).map (Value.int .i64)) (by rfl) ((HOWN.out.alloc _).drew)
        ⟨wo.heap.size, 0, none⟩ 1 1 [.int .i64 x] (by rfl) (by rfl) (World.news_of_block (cs := #[.int .i64 x]) (t := 3) (fr := (0, 0)) (heap_alloc_new wo _)) (by simp [Value.oneCell'])
        (by omega) (by unfold maxLen; omega) (by omega) (by simp; omega) (wo.heap.size + 1) (by simp) ?_; intro gg cap wz hown1 hgrow hat hlt2
      have HPz := Lib.hid ((HPr.out.below (below_box0 wo _)).grown (w := (wo.alloc (.cells #[.int .i64 x] 3)).drew) hgrow hno)
      obtain ⟨p2, f2⟩ := HPz.out.2.2
      refine hK.out _ _ ?_
      clear hK K
      try simp only [List.getElem_toArray, List.getElem_cons_zero, List.getElem_cons_succ, Act.put, List.setIfInBounds_toArray, List.set_cons_zero, List.set_cons_succ]
      refine wpT_pass (i := 8) (by kernel_rfl) (by simp) rfl (fun K hK => ?_)
      go_simp
      refine hK.out _ _ ?_
      clear hK K
      try simp only [List.getElem_toArray, List.getElem_cons_zero, List.getElem_cons_succ, Act.put, List.setIfInBounds_toArray, List.set_cons_zero, List.set_cons_succ]
      refine wpT_pass (i := 9) (by kernel_rfl) (by simp) rfl (fun K hK => ?_)
      go_simp
      refine hK.out _ _ ?_
      clear hK K
      try simp only [List.getElem_toArray, List.getElem_cons_zero, List.getElem_cons_succ, Act.put, List.setIfInBounds_toArray, List.set_cons_zero, List.set_cons_succ]
      refine wpT_done (by kernel_rfl) ?_ _
      have HO2 : Hid (OwnL wz (w.heap.size + 4) (.slice (some ⟨gg, 0, none⟩) (k + 1) cap) (zs.take (k + 1))) := Lib.hid (by
        rw [HST.out]
        exact OwnL.app HTL.out.symm hown1)
      have HO3 := Lib.hid (HO2.out.set (a := w.heap.size + 3) (j := 2) (u := .slice (some ⟨gg, 0, none⟩) (k + 1) cap) (HO2.out.no (by omega)))
      have HP3 := Lib.hid (HPz.out.set2 (u := .slice (some ⟨gg, 0, none⟩) (k + 1) cap))
      have HB3 : Hid (Below (w.heap.size + 3) w0 (wz.setCell ⟨w.heap.size + 3, 2, none⟩ (.slice (some ⟨gg, 0, none⟩) (k + 1) cap))) := Lib.hid (by
        refine Below.setCell ?_ (by simp) _
        exact OwnL.below (o := .cells #[.int .i64 x] 3) (HO.out.mono (by omega)) HBr.out (by omega) (by first | exact hgrow | exact ⟨hgrow.os, hgrow.tape, hgrow.output, hgrow.size, hgrow.block⟩))
      clear hown1 hgrow p2 f2
      go_wp2
      go_roundw
      case rel => exact ⟨k + 1, _, by omega, by go_num, HP3, HO3, HB3⟩
      case measure => simp [intOf]; omega
    · obtain rfl : ln = k := by omega
      have hO := HO.out
      rw [List.take_of_length_le (by rw [hln.out]; exact Nat.le_refl _)] at hO
      obtain ⟨zg, zcap, hv, hzg, hzc⟩ := OwnL.cells hO (by rw [hln.out]; omega)
      rw [hln.out] at hv
      subst hv
      have HZ0 := Lib.hid (Sl.ofCells hzc)
      have hzlt : zg < wo.heap.size := World.block_lt_of_cell? _ _ (hzc 0 (by rw [hln.out]; omega))
      have hsz : w.heap.size + 4 ≤ wo.heap.size := by have h5 := World.block_lt_of_cell? _ _ HPr.out.1.1; have h6 : w.heap.size + 3 < wo.heap.size := h5; omega
      obtain ⟨W5, HW5⟩ : ∃ x, x = wo.heap.size := ⟨_, rfl⟩
      have hz5 : zg < W5 := by omega
      have hs5 : w.heap.size + 4 ≤ W5 := by omega
      have HE5 := Lib.hid HW5
      obtain ⟨rr0, rr1, rr2, rr3, rr4⟩ := kR.out _ HBr
      clear hO hzc HO hlt HW5 hzlt hsz
      go_wp2
      clear rr0 rr1 rr2 rr3 rr4
      go_loopw [11] (fun i wr => ∃ (k : Nat) (v : Value), k ≤ n ∧ i = .int .i64 k ∧ Hid (PB wr (w.heap.size + 3) v (.int .i64 c) (.slice (some ⟨zg, 0, none⟩) ln zcap)) ∧ Hid (OwnL wr W5 v (simK P Q c ys rows zs k)) ∧ Hid (Sl wr (some ⟨zg, 0, none⟩) zs) ∧ Hid (Below (w.heap.size + 3) w0 wr) ∧ Hid (W5 ≤ wr.heap.size)) (fun i _ => n - (intOf i).toNat)
      case atStart => exact ⟨0, .slice none 0 0, by omega, rfl, HPr, Lib.hid (ownL_nil _ _), HZ0, HBr, Lib.hid (by have := HE5.out; omega)⟩
      case round =>
        clear HPr HBr HZ0 HE5
        obtain ⟨k, v, hk, rfl, HPr, HO, HZr, HBr, HSr⟩ := hrel
        obtain ⟨wi, rfl⟩ : ∃ wi : World, wi = wr := ⟨_, rfl⟩
        obtain ⟨rr0, rr1, rr2, rr3, rr4⟩ := kR.out _ HBr
        by_cases hlt : k < n
        · have hkl : k < ys.length := by rw [hyn.out]; exact hlt
          have hkr : k < rows.length := by rw [hbn.out]; exact hlt
          obtain ⟨b1, o1, hA1, hi1⟩ := (kY.out _ HBr).out k hkl
          subst hA1
          obtain ⟨⟨b, o, hA, hi0⟩, hok⟩ := (kB.out _ HBr).out k hkr
          subst hA
          have hrb := rowAll_get HRB.out hkr
          have hmy := all_get HYM.out hkl
          have HST := Lib.hid (simK_succ P Q c ys rows zs k)
          have hsf : simF P Q c ys rows zs k = prodF P 1 (rows.getD k noRow).xs zs * pw (ys.getD k 0) ((Q - c) % Q) P % P := rfl
          have HTL : Hid ((simK P Q c ys rows zs k).length = k) := Lib.hid (simK_length _ _ _ _ _ _ _)
          obtain ⟨R, hR⟩ : ∃ R, rows.getD k noRow = R := ⟨_, rfl⟩
          rw [hR] at hi0 hrb hok hsf
          obtain ⟨p, rn, rc, xs⟩ := R
          simp only [rowB, Bool.and_eq_true, decide_eq_true_eq] at hrb
          obtain ⟨hrn, hmx⟩ := hrb
          subst hrn
          have HL := Lib.hid hok.1
          have HS : Hid (Sl wi p xs) := Lib.hid hok.2
          have HMX := Lib.hid hmx
          dsimp only [Row.val] at hi0
          obtain ⟨y, hy⟩ : ∃ x, ys.getD k 0 = x := ⟨_, rfl⟩
          rw [hy] at hi1 hmy hsf
          have y0 := memG_lo hmy
          have y1 := memG_hi hmy
          obtain ⟨q0, q1⟩ := prodF_in hp2 xs zs 1 (by omega) (by omega)
          obtain ⟨V, hV⟩ : ∃ V, prodF P 1 xs zs = V := ⟨_, rfl⟩
          rw [hV] at q0 q1 hsf
          have HV_ := Lib.hid hV
          obtain ⟨ex, hex⟩ : ∃ e, (Q - c) % Q = e := ⟨_, rfl⟩
          have ex0 : 0 ≤ ex := by rw [← hex]; exact Int.emod_nonneg _ (by omega)
          have ex1 : ex < Q := by rw [← hex]; exact Int.emod_lt_of_pos _ (by omega)
          rw [hex] at hsf
          obtain ⟨pv, hpw⟩ : ∃ p, pw y ex P = p := ⟨_, rfl⟩
          obtain ⟨p0, p1⟩ : 0 ≤ pv ∧ pv < P := by rw [← hpw]; exact pw_lt _ _ _ (by omega)
          rw [hpw] at hsf
          obtain ⟨t, ht⟩ : ∃ t, V * pv % P = t := ⟨_, rfl⟩
          rw [ht] at hsf
          rw [hsf] at HST
          have HPW := Lib.hid hpw
          have HMU := Lib.hid ht
          have hsub : IntKind.i64.wrap (Q - c) = Q - c := IntWalk.i64_in _ (by omega)
          have htm : (Q - c).tmod Q = ex := by rw [Int.tmod_eq_emod_of_nonneg (by omega), hex]
          have hwx : IntKind.i64.wrap ex = ex := IntWalk.i64_in _ (by omega)
          have hQn : ¬ (Q = 0) := by omega
          have hown : wi.ownsRow W5 3 1 v k ((simK P Q c ys rows zs k).map (Value.int .i64)) := by
            have h3 := HO.out
            unfold OwnL at h3
            rwa [HTL.out] at h3
          have hno := HO.out.no (show w.heap.size + 3 < W5 by omega)
          have hnz := HO.out.no hz5
          have hs6 := HSr.out
          obtain ⟨⟨a0, f0⟩, _, _⟩ := HPr.out
          have hS := Lib.hid (show ∀ u1 : World, Hid (Below wi.drew.heap.size wi.drew u1) → (u1.cell? ⟨w.heap.size + 3, 0, none⟩ = some v ∧ u1.cell? ⟨w.heap.size, 0, none⟩ = some (.int .i64 P) ∧ u1.cell? ⟨w.heap.size, 1, none⟩ = some (.int .i64 Q) ∧ u1.cell? ⟨w.heap.size, 2, none⟩ = some (.int .i64 G) ∧ u1.cell? ⟨w.heap.size + 1, 0, none⟩ = some (.slice (some ⟨b1, o1, none⟩) n yc) ∧ u1.cell? ⟨w.heap.size + 1, 1, none⟩ = some (.slice (some ⟨b, o, none⟩) n bc) ∧ u1.cell? ⟨b1, o1 + k, none⟩ = some (.int .i64 y) ∧ u1.cell? ⟨b, o + k, none⟩ = some (.slice p rn rc) ∧ Hid (Below wi.drew.heap.size wi.drew u1)) from fun u1 h1 => ⟨cell_below (w := wi.drew) a0 h1.out, cell_below (w := wi.drew) rr0 h1.out, cell_below (w := wi.drew) rr1 h1.out, cell_below (w := wi.drew) rr2 h1.out, cell_below (w := wi.drew) rr3 h1.out, cell_below (w := wi.drew) rr4 h1.out, cell_below (w := wi.drew) hi1 h1.out, cell_below (w := wi.drew) hi0 h1.out, h1⟩)
          have HSd : Hid (Sl wi.drew p xs) := Lib.hid HS.out
          have HLd : Hid (Sl wi.drew L zs) := Lib.hid (kL.out _ HBr).out
          have HOWN := Lib.hid hown
          have HSF := Lib.hid hsf
          clear hR hok hmx hV hex hpw ht hsf hy hmy hkl hkr hown a0 f0 hi0 hi1
          go_wp2
          clear rr0 rr1 rr2 rr3 rr4
          refine wp_region_T (S := fun w' => w'.cell? ⟨w.heap.size + 3, 0, none⟩ = some v ∧ w'.cell? ⟨w.heap.size, 0, none⟩ = some (.int .i64 P) ∧ w'.cell? ⟨w.heap.size, 1, none⟩ = some (.int .i64 Q) ∧ w'.cell? ⟨w.heap.size, 2, none⟩ = some (.int .i64 G) ∧ w'.cell? ⟨w.heap.size + 1, 0, none⟩ = some (.slice (some ⟨b1, o1, none⟩) n yc) ∧ w'.cell? ⟨w.heap.size + 1, 1, none⟩ = some (.slice (some ⟨b, o, none⟩) n bc) ∧ w'.cell? ⟨b1, o1 + k, none⟩ = some (.int .i64 y) ∧ w'.cell? ⟨b, o + k, none⟩ = some (.slice p rn rc) ∧ Hid (Below wi.drew.heap.size wi.drew w')) (E := [29, 30, 31]) (by kernel_rfl) (hS.out _ (Lib.hid (Below.refl _ _))) (fun hHeld => ?_)
          refine wpT_take (i := 0) (oi := _) (v := ?_) rfl (by kernel_rfl) (by kernel_rfl) (by kernel_rfl) (by kernel_rfl) (fun _ _ _ h => h) (Or.inl ⟨by rfl, ?_⟩) (by assumption) ?_
          rotate_left; (intro wS hSw; (try dsimp only at hSw); go_simp <;> with_reducible rfl)
          try simp only [List.getElem_toArray, List.getElem_cons_zero, List.getElem_cons_succ, Act.put, List.setIfInBounds_toArray, List.set_cons_zero, List.set_cons_succ]
          refine wpT_take (i := 1) (oi := _) (v := ?_) rfl (by kernel_rfl) (by kernel_rfl) (by kernel_rfl) (by kernel_rfl) (fun _ _ _ h => h) (Or.inl ⟨by rfl, ?_⟩) (by assumption) ?_
          rotate_left; (intro wS hSw; (try dsimp only at hSw); go_simp <;> with_reducible rfl)
          try simp only [List.getElem_toArray, List.getElem_cons_zero, List.getElem_cons_succ, Act.put, List.setIfInBounds_toArray, List.set_cons_zero, List.set_cons_succ]
          refine wpT_take (i := 2) (oi := _) (v := ?_) rfl (by kernel_rfl) (by kernel_rfl) (by kernel_rfl) (by kernel_rfl) (fun _ _ _ h => h) (Or.inl ⟨by rfl, ?_⟩) (by assumption) ?_
          rotate_left; (intro wS hSw; (try dsimp only at hSw); go_simp <;> with_reducible rfl)
          try simp only [List.getElem_toArray, List.getElem_cons_zero, List.getElem_cons_succ, Act.put, List.setIfInBounds_toArray, List.set_cons_zero, List.set_cons_succ]
          refine wpT_take (i := 3) (oi := _) (v := ?_) rfl (by kernel_rfl) (by kernel_rfl) (by kernel_rfl) (by kernel_rfl) (fun _ _ _ h => h) (Or.inl ⟨by rfl, ?_⟩) (by assumption) ?_
          rotate_left; (intro wS hSw; (try dsimp only at hSw); go_simp <;> with_reducible rfl)
          try simp only [List.getElem_toArray, List.getElem_cons_zero, List.getElem_cons_succ, Act.put, List.setIfInBounds_toArray, List.set_cons_zero, List.set_cons_succ]
          refine wpT_take (i := 4) (oi := _) (v := ?_) rfl (by kernel_rfl) (by kernel_rfl) (by kernel_rfl) (by kernel_rfl) (fun _ _ _ h => h) (Or.inl ⟨by rfl, ?_⟩) (by assumption) ?_
          rotate_left; (intro wS hSw; (try dsimp only at hSw); go_simp <;> with_reducible rfl)
          try simp only [List.getElem_toArray, List.getElem_cons_zero, List.getElem_cons_succ, Act.put, List.setIfInBounds_toArray, List.set_cons_zero, List.set_cons_succ]
          refine wpT_take (i := 5) (oi := _) (v := ?_) rfl (by kernel_rfl) (by kernel_rfl) (by kernel_rfl) (by kernel_rfl) (fun _ _ _ h => h) (Or.inl ⟨by rfl, ?_⟩) (by assumption) ?_
          rotate_left; (intro wS hSw; (try dsimp only at hSw); go_simp <;> with_reducible rfl)
          try simp only [List.getElem_toArray, List.getElem_cons_zero, List.getElem_cons_succ, Act.put, List.setIfInBounds_toArray, List.set_cons_zero, List.set_cons_succ]
          refine wpT_take (i := 6) (oi := _) (v := ?_) rfl (by kernel_rfl) (by kernel_rfl) (by kernel_rfl) (by kernel_rfl) (fun _ _ _ h => h) (Or.inl ⟨by rfl, ?_⟩) (by assumption) ?_
          rotate_left; (intro wS hSw; (try dsimp only at hSw); go_simp <;> with_reducible rfl)
          try simp only [List.getElem_toArray, List.getElem_cons_zero, List.getElem_cons_succ, Act.put, List.setIfInBounds_toArray, List.set_cons_zero, List.set_cons_succ]
          refine wpT_take (i := 7) (oi := _) (v := ?_) rfl (by kernel_rfl) (by kernel_rfl) (by kernel_rfl) (by kernel_rfl) (fun _ _ _ h => h) (Or.inl ⟨by rfl, ?_⟩) (by assumption) ?_
          rotate_left; (intro wS hSw; (try dsimp only at hSw); go_simp <;> with_reducible rfl)
          try simp only [List.getElem_toArray, List.getElem_cons_zero, List.getElem_cons_succ, Act.put, List.setIfInBounds_toArray, List.set_cons_zero, List.set_cons_succ]
          refine wpT_take (i := 8) (oi := _) (v := ?_) rfl (by kernel_rfl) (by kernel_rfl) (by kernel_rfl) (by kernel_rfl) (fun _ _ _ h => h) (Or.inl ⟨by rfl, ?_⟩) (by assumption) ?_
          rotate_left; (intro wS hSw; (try dsimp only at hSw); go_simp <;> with_reducible rfl)
          try simp only [List.getElem_toArray, List.getElem_cons_zero, List.getElem_cons_succ, Act.put, List.setIfInBounds_toArray, List.set_cons_zero, List.set_cons_succ]
          refine wpT_take (i := 10) (oi := _) (v := ?_) rfl (by kernel_rfl) (by kernel_rfl) (by kernel_rfl) (by kernel_rfl) (fun _ _ _ h => h) (Or.inl ⟨by rfl, ?_⟩) (by assumption) ?_
          rotate_left; (intro wS hSw; (try dsimp only at hSw); go_simp <;> with_reducible rfl)
          try simp only [List.getElem_toArray, List.getElem_cons_zero, List.getElem_cons_succ, Act.put, List.setIfInBounds_toArray, List.set_cons_zero, List.set_cons_succ]
          refine wpT_take (i := 11) (oi := _) (v := ?_) rfl (by kernel_rfl) (by kernel_rfl) (by kernel_rfl) (by kernel_rfl) (fun _ _ _ h => h) (Or.inl ⟨by rfl, ?_⟩) (by assumption) ?_
          rotate_left; (intro wS hSw; (try dsimp only at hSw); go_simp <;> with_reducible rfl)
          try simp only [List.getElem_toArray, List.getElem_cons_zero, List.getElem_cons_succ, Act.put, List.setIfInBounds_toArray, List.set_cons_zero, List.set_cons_succ]
          refine wpT_take (i := 12) (oi := _) (v := ?_) rfl (by kernel_rfl) (by kernel_rfl) (by kernel_rfl) (by kernel_rfl) (fun _ _ _ h => h) (Or.inl ⟨by rfl, ?_⟩) (by assumption) ?_
          rotate_left; (intro wS hSw; (try dsimp only at hSw); go_simp <;> with_reducible rfl)
          try simp only [List.getElem_toArray, List.getElem_cons_zero, List.getElem_cons_succ, Act.put, List.setIfInBounds_toArray, List.set_cons_zero, List.set_cons_succ]
          refine wpT_take (i := 13) (oi := _) (v := ?_) rfl (by kernel_rfl) (by kernel_rfl) (by kernel_rfl) (by kernel_rfl) (fun _ _ _ h => h) (Or.inl ⟨by rfl, ?_⟩) (by assumption) ?_
          rotate_left; (intro wS hSw; (try dsimp only at hSw); go_simp <;> with_reducible rfl)
          try simp only [List.getElem_toArray, List.getElem_cons_zero, List.getElem_cons_succ, Act.put, List.setIfInBounds_toArray, List.set_cons_zero, List.set_cons_succ]
          refine wpT_take (i := 14) (oi := _) (v := ?_) rfl (by kernel_rfl) (by kernel_rfl) (by kernel_rfl) (by kernel_rfl) (fun _ _ _ h => h) (Or.inl ⟨by rfl, ?_⟩) (by assumption) ?_
          rotate_left; (intro wS hSw; (try dsimp only at hSw); go_simp <;> with_reducible rfl)
          try simp only [List.getElem_toArray, List.getElem_cons_zero, List.getElem_cons_succ, Act.put, List.setIfInBounds_toArray, List.set_cons_zero, List.set_cons_succ]
          refine wpT_take (i := 15) (oi := _) (v := ?_) rfl (by kernel_rfl) (by kernel_rfl) (by kernel_rfl) (by kernel_rfl) (fun _ _ _ h => h) (Or.inl ⟨by rfl, ?_⟩) (by assumption) ?_
          rotate_left; (intro wS hSw; (try dsimp only at hSw); go_simp <;> with_reducible rfl)
          try simp only [List.getElem_toArray, List.getElem_cons_zero, List.getElem_cons_succ, Act.put, List.setIfInBounds_toArray, List.set_cons_zero, List.set_cons_succ]
          refine wpT_take (i := 16) (oi := _) (v := ?_) rfl (by kernel_rfl) (by kernel_rfl) (by kernel_rfl) (by kernel_rfl) (fun _ _ _ h => h) (Or.inl ⟨by rfl, ?_⟩) (by assumption) ?_
          rotate_left; (intro wS hSw; (try dsimp only at hSw); go_simp <;> with_reducible rfl)
          try simp only [List.getElem_toArray, List.getElem_cons_zero, List.getElem_cons_succ, Act.put, List.setIfInBounds_toArray, List.set_cons_zero, List.set_cons_succ]
          refine wpT_take (i := 17) (oi := _) (v := ?_) rfl (by kernel_rfl) (by kernel_rfl) (by kernel_rfl) (by kernel_rfl) (fun _ _ _ h => h) (Or.inl ⟨by rfl, ?_⟩) (by assumption) ?_
          rotate_left; (intro wS hSw; (try dsimp only at hSw); go_simp <;> with_reducible rfl)
          try simp only [List.getElem_toArray, List.getElem_cons_zero, List.getElem_cons_succ, Act.put, List.setIfInBounds_toArray, List.set_cons_zero, List.set_cons_succ]
          refine wpT_take (i := 18) (oi := _) (v := ?_) rfl (by kernel_rfl) (by kernel_rfl) (by kernel_rfl) (by kernel_rfl) (fun _ _ _ h => h) (Or.inl ⟨by rfl, ?_⟩) (by assumption) ?_
          rotate_left; (intro wS hSw; (try dsimp only at hSw); go_simp <;> with_reducible rfl)
          try simp only [List.getElem_toArray, List.getElem_cons_zero, List.getElem_cons_succ, Act.put, List.setIfInBounds_toArray, List.set_cons_zero, List.set_cons_succ]
          refine wpT_take (i := 19) (oi := _) (v := ?_) rfl (by kernel_rfl) (by kernel_rfl) (by kernel_rfl) (by kernel_rfl) (fun _ _ _ h => h) (Or.inl ⟨by rfl, ?_⟩) (by assumption) ?_
          rotate_left; (intro wS hSw; (try dsimp only at hSw); go_simp <;> with_reducible rfl)
          try simp only [List.getElem_toArray, List.getElem_cons_zero, List.getElem_cons_succ, Act.put, List.setIfInBounds_toArray, List.set_cons_zero, List.set_cons_succ]
          refine wpT_take (i := 20) (oi := _) (v := ?_) rfl (by kernel_rfl) (by kernel_rfl) (by kernel_rfl) (by kernel_rfl) (fun _ _ _ h => h) (Or.inl ⟨by rfl, ?_⟩) (by assumption) ?_
          rotate_left; (intro wS hSw; (try dsimp only at hSw); go_simp <;> with_reducible rfl)
          try simp only [List.getElem_toArray, List.getElem_cons_zero, List.getElem_cons_succ, Act.put, List.setIfInBounds_toArray, List.set_cons_zero, List.set_cons_succ]
          refine wpT_take (i := 21) (oi := _) (v := ?_) rfl (by kernel_rfl) (by kernel_rfl) (by kernel_rfl) (by kernel_rfl) (fun _ _ _ h => h) (Or.inl ⟨by rfl, ?_⟩) (by assumption) ?_
          rotate_left; (intro wS hSw; (try dsimp only at hSw); go_simp <;> with_reducible rfl)
          try simp only [List.getElem_toArray, List.getElem_cons_zero, List.getElem_cons_succ, Act.put, List.setIfInBounds_toArray, List.set_cons_zero, List.set_cons_succ]
          refine wpT_take (i := 22) (oi := _) (v := ?_) rfl (by kernel_rfl) (by kernel_rfl) (by kernel_rfl) (by kernel_rfl) (fun _ _ _ h => h) (Or.inl ⟨by rfl, ?_⟩) (by assumption) ?_
          rotate_left; (intro wS hSw; (try dsimp only at hSw); go_simp <;> with_reducible rfl)
          try simp only [List.getElem_toArray, List.getElem_cons_zero, List.getElem_cons_succ, Act.put, List.setIfInBounds_toArray, List.set_cons_zero, List.set_cons_succ]
          refine wpT_take (i := 23) (oi := _) (v := ?_) rfl (by kernel_rfl) (by kernel_rfl) (by kernel_rfl) (by kernel_rfl) (fun _ _ _ h => h) (Or.inl ⟨by rfl, ?_⟩) (by assumption) ?_
          rotate_left; (intro wS hSw; (try dsimp only at hSw); go_simp <;> with_reducible rfl)
          try simp only [List.getElem_toArray, List.getElem_cons_zero, List.getElem_cons_succ, Act.put, List.setIfInBounds_toArray, List.set_cons_zero, List.set_cons_succ]
          refine wpT_take (i := 25) (oi := _) (v := ?_) rfl (by kernel_rfl) (by kernel_rfl) (by kernel_rfl) (by kernel_rfl) (fun _ _ _ h => h) (Or.inl ⟨by rfl, ?_⟩) (by assumption) ?_
          rotate_left; (intro wS hSw; (try dsimp only at hSw); go_simp <;> with_reducible rfl)
          try simp only [List.getElem_toArray, List.getElem_cons_zero, List.getElem_cons_succ, Act.put, List.setIfInBounds_toArray, List.set_cons_zero, List.set_cons_succ]
          refine wpT_take (i := 26) (oi := _) (v := ?_) rfl (by kernel_rfl) (by kernel_rfl) (by kernel_rfl) (by kernel_rfl) (fun _ _ _ h => h) (Or.inl ⟨by rfl, ?_⟩) (by assumption) ?_
          rotate_left; (intro wS hSw; (try dsimp only at hSw); go_simp <;> with_reducible rfl)
          try simp only [List.getElem_toArray, List.getElem_cons_zero, List.getElem_cons_succ, Act.put, List.setIfInBounds_toArray, List.set_cons_zero, List.set_cons_succ]
          refine wpT_one (i := 9) (by kernel_rfl) rfl (fun K hK => ?_)
          go_simp
          (with_reducible refine (rproduct_any P Q G p xs rn rc L zs rn lc V HV_ HL hln (Nat.le_refl _) (by omega) HMX Hl hp2 hp hQ _ HSd HLd).mono ?_); rintro e wA ⟨rfl, hbA⟩
          refine hK.out _ _ ?_ (fun hHeld => ?_)
          · exact hS.out _ (Lib.hid hbA)
          clear hK K
          try simp only [List.getElem_toArray, List.getElem_cons_zero, List.getElem_cons_succ, Act.put, List.setIfInBounds_toArray, List.set_cons_zero, List.set_cons_succ]
          have hs7 := hbA.size
          have hs8 : wi.drew.heap.size = wi.heap.size := rfl
          have HOA : Hid (wA.ownsRow W5 3 1 v k ((simK P Q c ys rows zs k).map (Value.int .i64))) := Lib.hid (by
            have h3 := OwnL.keep (w := wi.drew) HO.out hbA
            unfold OwnL at h3
            rwa [HTL.out] at h3)
          refine wpT_one (i := 24) (by kernel_rfl) rfl (fun K hK => ?_)
          go_simp
          (with_reducible refine (rpow_any y ex P pv HPW (by omega) hp (by omega) y1 ex0 (by omega) _).mono ?_); rintro e wB ⟨rfl, rfl⟩
          refine hK.out _ _ ?_ (fun hHeld => ?_)
          · assumption
          clear hK K
          try simp only [List.getElem_toArray, List.getElem_cons_zero, List.getElem_cons_succ, Act.put, List.setIfInBounds_toArray, List.set_cons_zero, List.set_cons_succ]
          refine wpT_one (i := 27) (by kernel_rfl) rfl (fun K hK => ?_)
          go_simp
          (with_reducible refine (rmul_any V pv P t HMU hp q0 q1 p0 p1 _).mono ?_); rintro e wB ⟨rfl, rfl⟩
          refine hK.out _ _ ?_ (fun hHeld => ?_)
          · assumption
          clear hK K
          try simp only [List.getElem_toArray, List.getElem_cons_zero, List.getElem_cons_succ, Act.put, List.setIfInBounds_toArray, List.set_cons_zero, List.set_cons_succ]
          refine wpT_one (i := 28) (by kernel_rfl) rfl (fun K hK => ?_)
          go_simp
          refine hK.out _ _ ?_ (fun hHeld => ?_)
          · exact hS.out _ (Lib.hid (hbA.alloc hbA.size _))
          clear hK K
          try simp only [List.getElem_toArray, List.getElem_cons_zero, List.getElem_cons_succ, Act.put, List.setIfInBounds_toArray, List.set_cons_zero, List.set_cons_succ]
          refine wpT_pass (i := 29) (by kernel_rfl) (by simp) rfl (fun K hK => ?_)
          refine step_append_lies _ (by rfl) _ _ _ (by rfl) W5 3 i0 _ 1 8 Tryd.underlying24 hi hz0 hz1 hz2 rfl (by omega) v k ((simK P Q c ys rows zs k).map (Value.int .i64)) (by rfl) ((HOA.out.alloc _))
            ⟨wA.heap.size, 0, none⟩ 1 1 [.int .i64 t] (by rfl) (by rfl) (World.news_of_block (cs := #[.int .i64 t]) (t := 3) (fr := (0, 0)) (heap_alloc_new wA _)) (by simp [Value.oneCell'])
            (by omega) (by unfold maxLen; omega) (by omega) (by simp; omega) (wA.heap.size + 1) (by simp) ?_; intro gg cap wz hown1 hgrow hat hlt2
          have HPz := Lib.hid (((PB.below (w := wi.drew) HPr.out hbA).below (below_box0 wA _)).grown hgrow hno)
          obtain ⟨a0, f0⟩ := HPz.out.1
          refine hK.out _ _ ?_
          clear hK K
          try simp only [List.getElem_toArray, List.getElem_cons_zero, List.getElem_cons_succ, Act.put, List.setIfInBounds_toArray, List.set_cons_zero, List.set_cons_succ]
          refine wpT_pass (i := 30) (by kernel_rfl) (by simp) rfl (fun K hK => ?_)
          go_simp
          refine hK.out _ _ ?_
          clear hK K
          try simp only [List.getElem_toArray, List.getElem_cons_zero, List.getElem_cons_succ, Act.put, List.setIfInBounds_toArray, List.set_cons_zero, List.set_cons_succ]
          refine wpT_pass (i := 31) (by kernel_rfl) (by simp) rfl (fun K hK => ?_)
          go_simp
          refine hK.out _ _ ?_
          clear hK K
          try simp only [List.getElem_toArray, List.getElem_cons_zero, List.getElem_cons_succ, Act.put, List.setIfInBounds_toArray, List.set_cons_zero, List.set_cons_succ]
          refine wpT_done (by kernel_rfl) ?_ _
          have HO2 : Hid (OwnL wz W5 (.slice (some ⟨gg, 0, none⟩) (k + 1) cap) (simK P Q c ys rows zs (k + 1))) := Lib.hid (by
            rw [HST.out]
            exact OwnL.app HTL.out.symm hown1)
          have HO3 := Lib.hid (HO2.out.set (a := w.heap.size + 3) (j := 0) (u := .slice (some ⟨gg, 0, none⟩) (k + 1) cap) (HO2.out.no (by omega)))
          have HP3 := Lib.hid (HPz.out.set0 (u := .slice (some ⟨gg, 0, none⟩) (k + 1) cap))
          have HZA := Lib.hid ((Sl.below (w := wi.drew) HZr.out hbA).below (below_box0 wA (.cells #[.int .i64 t] 3)))
          have HZ3 := Lib.hid ((HZA.out.grown hgrow (fun b o e _ => by cases e; exact hnz)).set (a := w.heap.size + 3) (j := 0) (v := .slice (some ⟨gg, 0, none⟩) (k + 1) cap) (fun b o e _ => by cases e; omega))
          have HB3 : Hid (Below (w.heap.size + 3) w0 (wz.setCell ⟨w.heap.size + 3, 0, none⟩ (.slice (some ⟨gg, 0, none⟩) (k + 1) cap))) := Lib.hid (by
            refine Below.setCell ?_ (by simp) _
            exact OwnL.below (o := .cells #[.int .i64 t] 3) ((OwnL.keep (w := wi.drew) HO.out hbA).mono (by omega)) (HBr.out.drew.trans (hbA.mono (by omega))) (by omega) (by first | exact hgrow | exact ⟨hgrow.os, hgrow.tape, hgrow.output, hgrow.size, hgrow.block⟩))
          have HS3 : Hid (W5 ≤ (wz.setCell ⟨w.heap.size + 3, 0, none⟩ (.slice (some ⟨gg, 0, none⟩) (k + 1) cap)).heap.size) := Lib.hid (by
            have h5 := hgrow.size
            simp at h5
            simp
            omega)
          clear hown1 hgrow a0 f0
          go_wp2
          go_roundw
          case rel => exact ⟨k + 1, _, by omega, by go_num, HP3, HO3, HZ3, HB3, HS3⟩
          case measure => simp [intOf]; omega
        · obtain rfl : k = n := by omega
          have e5 : simK P Q c ys rows zs k = simR P Q c ys rows zs := by rw [simR, simK, hbn.out]
          have hO := HO.out
          rw [e5] at hO
          have hsl : (simR P Q c ys rows zs).length = k := by rw [simR_length]; exact hbn.out
          obtain ⟨ag, acap, hv, hag, hac⟩ := OwnL.cells hO (by rw [hsl]; exact hnp)
          rw [hsl] at hv
          subst hv
          have HA := Lib.hid (Sl.ofCells hac)
          obtain ⟨⟨e0, f0⟩, ⟨e1, f1⟩, ⟨e2, f2⟩⟩ := HPr.out
          obtain ⟨⟨g0, i0'⟩, ⟨g1, i1'⟩, ⟨g2, i2'⟩⟩ := (kT.out _ HBr).out
          have hbF := HBw.out.trans (HBr.out.mono (show w.heap.size ≤ w.heap.size + 3 by omega))
          clear hO hac hlt e5
          go_wp2
          refine bodyPost_ret (v := prvL (some ⟨ag, 0, none⟩) k acap c (some ⟨zg, 0, none⟩) ln zcap) (by simp [results, Tryd.results22, go_sem, e0, e1, e2, g0, g1, g2]) rfl ⟨_, _, _, _, rfl, ?_, ?_, below_set3' hbF (by omega) _ _ _⟩
          · exact ((HA.out.set (fun b o e _ => by cases e; omega)).set (fun b o e _ => by cases e; omega)).set (fun b o e _ => by cases e; omega)
          · exact ((HZr.out.set (fun b o e _ => by cases e; omega)).set (fun b o e _ => by cases e; omega)).set (fun b o e _ => by cases e; omega)
end Go.Proofs.YtijedphpcocfnaaDoor
