/- Contracts and lemmas: LinP, LinQ, LinS, LinW, LcC, TrI, TrJ, LcD, LinX, LcE, LcG, LcF, EqA, EqB, EqC, EqE, Base, Msg, EscA. -/
import Derived.Deep.Heap
import Derived.Test.YtchcllcbknfikaaGreatDoorTv5
set_option linter.unusedVariables false
set_option linter.unusedSimpArgs false
set_option maxRecDepth 100000
set_option maxHeartbeats 25600000
namespace Go.Proofs.YtchcllcbknfikaaGreatDoor
open Go.RowKit rQ
abbrev iL (pa : Option Addr) (na ca : Nat) (C : Int) (pz : Option Addr) (nz cz : Nat) : Value := .agg #[.slice pa na ca, .int .i64 C, .slice pz nz cz]
abbrev eG (pa : Option Addr) (na ca : Nat) (C : Int) (pz : Option Addr) (nz cz : Nat) : Obj := .cells #[.slice pa na ca, .int .i64 C, .slice pz nz cz] 54
def A7 (w : World) (a : Nat) (x y z : Value) : Prop := w.cell? ⟨a, 0, none⟩ = some x ∧ w.cell? ⟨a, 1, none⟩ = some y ∧ w.cell? ⟨a, 2, none⟩ = some z
theorem A7.below {w w' : World} {a : Nat} {x y z : Value} (h : A7 w a x y z) (hb : Below w.heap.size w w') : A7 w' a x y z :=
 ⟨cell_below h.1 hb, cell_below h.2.1 hb, cell_below h.2.2 hb⟩
theorem Bp (w : World) (T : TypeId) (x y z : Value) : A7 (w.alloc (.cells #[x, y, z] T)) w.heap.size x y z := ⟨World.cell?_alloc_at _ _ _ _ rfl, World.cell?_alloc_at _ _ _ _ rfl, World.cell?_alloc_at _ _ _ _ rfl⟩
theorem TJ (w : World) (o1 o2 : Obj) (T : TypeId) (x y z : Value) : A7 (((w.alloc o1).alloc o2).alloc (.cells #[x, y, z] T)) (w.heap.size + 2) x y z := by
 have e : ((w.alloc o1).alloc o2).heap.size = w.heap.size + 2 := by simp
 rw [← e]
 exact Bp _ _ _ _ _
theorem BS {w : World} {o1 o2 o3 : Obj} : Below w.heap.size w (((w.alloc o1).alloc o2).alloc o3) :=
 (((Below.refl _ _).alloc (Nat.le_refl _) _).alloc (by simp) _).alloc (by simp; omega) _
theorem FM (P Q G : Int) (Y : Option Addr) (ys : List Int) (n yc : Nat) (B : Option Addr) (rows : List Row) (bc : Nat) (A : Option Addr) (al : List Int) (ca : Nat) (C : Int) (Z : Option Addr) (zs : List Int) (nz cz : Nat)
  (jV : Hid (eD P Q G ys rows = true)) (hyn : Hid (ys.length = n)) (hbn : Hid (rows.length = n)) (eX : Hid (al.length = n)) (hzn : Hid (zs.length = nz)) (hlen : zs.length = fZ rows) (Hl : Hid (zs.all (gW Q) = true)) (hc0 : 0 ≤ C) (hc1 : C < Q) (r : Bool) (hr : Hid ((vE P Q C ys rows zs == al) = r))
  (hQ : Q < 9223372036854775808) (w : World) (hv : Hid (Vars w)) (hY : Hid (Sl w Y ys)) (hB : Hid (Rw w B rows)) (hA : Hid (Sl w A al)) (hZ : Hid (Sl w Z zs)) :
  Calls Tryz.prog 222 #[gv P Q G, gQ Y n yc B n bc, iL A n ca C Z nz cz] w (Rt w (.bool r)) := by
 obtain ⟨v1, v2, v3, v4, v5, v6, v7, v8⟩ := bJ jV.out
 have hnp : 0 < n := by rw [← hyn.out]; omega
 have Ym : n ≤ 8 := by rw [← hyn.out]; omega
 have acU : nz ≤ 12 := by rw [← hzn.out]; omega
 have HN : Hid (fZ rows = nz) := aa (hlen.symm.trans hzn.out)
 have hnn : ((n : Int) != (n : Int)) = false := by simp
 have hzz : ((nz : Int) != (nz : Int)) = false := by simp
 have Qc := aa (GX hc0 hc1)
 have hsl : (vE P Q C ys rows zs).length = n := by rw [gG]; exact hbn.out
 clear v1 v2 v3 v4 v5 v6 v7 v8
 obtain ⟨W, hW⟩ : ∃ W, ((w.alloc (bq P Q G)).alloc (jw Y n yc B n bc)).alloc (eG A n ca C Z nz cz) = W := ⟨_, rfl⟩
 have ai : Hid (Below w.heap.size w W) := aa (by rw [← hW]; exact BS)
 have HX0 : Hid (nS W w.heap.size P Q G) := aa (by rw [← hW]; exact ((aW w P Q G).below (af _ _)).below (af _ _))
 have ek : Hid (p_ W (w.heap.size + 1) (.slice Y n yc) (.slice B n bc)) := aa (by rw [← hW]; exact (dN _ _ _ _ _).below (af _ _))
 have HP0 : Hid (A7 W (w.heap.size + 2) (.slice A n ca) (.int .i64 C) (.slice Z nz cz)) := aa (by rw [← hW]; exact TJ w _ _ _ _ _ _)
 have hOV := aa (show ∀ u1 : World, Hid (Below W.heap.size W u1) → Hid (Vars u1) from fun u1 h1 => aa (hv.out.below (ag ai.out h1.out)))
 have hOY := aa (show ∀ u1 : World, Hid (Below W.heap.size W u1) → Hid (Sl u1 Y ys) from fun u1 h1 => aa (hY.out.below (ag ai.out h1.out)))
 have ZR := aa (show ∀ u1 : World, Hid (Below W.heap.size W u1) → Hid (Rw u1 B rows) from fun u1 h1 => aa (hB.out.below (ag ai.out h1.out)))
 have hOA := aa (show ∀ u1 : World, Hid (Below W.heap.size W u1) → Hid (Sl u1 A al) from fun u1 h1 => aa (hA.out.below (ag ai.out h1.out)))
 have hOZ := aa (show ∀ u1 : World, Hid (Below W.heap.size W u1) → Hid (Sl u1 Z zs) from fun u1 h1 => aa (hZ.out.below (ag ai.out h1.out)))
 have hS := aa (show ∀ u1 u2 : World, Hid (Below W.heap.size W u1) → Below u1.heap.size u1 u2 → (u2.cell? ⟨w.heap.size, 0, none⟩ = some (.int .i64 P) ∧ u2.cell? ⟨w.heap.size, 1, none⟩ = some (.int .i64 Q) ∧ u2.cell? ⟨w.heap.size, 2, none⟩ = some (.int .i64 G) ∧ u2.cell? ⟨w.heap.size + 1, 0, none⟩ = some (.slice Y n yc) ∧ u2.cell? ⟨w.heap.size + 1, 1, none⟩ = some (.slice B n bc) ∧ u2.cell? ⟨w.heap.size + 2, 0, none⟩ = some (.slice A n ca) ∧ u2.cell? ⟨w.heap.size + 2, 1, none⟩ = some (.int .i64 C) ∧ u2.cell? ⟨w.heap.size + 2, 2, none⟩ = some (.slice Z nz cz) ∧ Hid (Below W.heap.size W u2)) from fun u1 u2 h1 h2 => have h3 := ag h1.out h2; ⟨(HX0.out.below h3).1, (HX0.out.below h3).2.1, (HX0.out.below h3).2.2, (ek.out.below h3).1, (ek.out.below h3).2, (HP0.out.below h3).1, (HP0.out.below h3).2.1, (HP0.out.below h3).2.2, aa h3⟩)
 have hR : Hid (Below W.heap.size W W) := aa (Below.refl _ _)
 have HW := aa hW
 clear hW hv hY hB hA hZ
 go_in
 go_wp2_with fail
 rw [HW.out]
 go_region_held3 (fun w' => w'.cell? ⟨w.heap.size, 0, none⟩ = some (.int .i64 P) ∧ w'.cell? ⟨w.heap.size, 1, none⟩ = some (.int .i64 Q) ∧ w'.cell? ⟨w.heap.size, 2, none⟩ = some (.int .i64 G) ∧ w'.cell? ⟨w.heap.size + 1, 0, none⟩ = some (.slice Y n yc) ∧ w'.cell? ⟨w.heap.size + 1, 1, none⟩ = some (.slice B n bc) ∧ w'.cell? ⟨w.heap.size + 2, 0, none⟩ = some (.slice A n ca) ∧ w'.cell? ⟨w.heap.size + 2, 1, none⟩ = some (.int .i64 C) ∧ w'.cell? ⟨w.heap.size + 2, 2, none⟩ = some (.slice Z nz cz) ∧ Hid (Below W.heap.size W w'))
  (first | exact hS.out _ _ hR ((Below.refl W.heap.size W).drew) | (go_split_ands; exact hS.out _ _ (by assumption) bM) | (go_split_ands; exact hS.out _ _ (by assumption) (af _ _)) | go_keep)
  ((first
   | (go_at_call 238; (with_reducible refine (jL P Q G Y ys n yc B rows n bc true jV hyn hbn hQ _ ?_ ?_ ?_).mono ?_); (go_split_ands; exact hOV.out _ (by assumption)); (go_split_ands; exact hOY.out _ (by assumption)); (go_split_ands; exact ZR.out _ (by assumption)); rintro e wA ⟨rfl, bM⟩)
   | (go_at_call 239; (with_reducible refine (jS Y n yc B rows n bc nz hbn hnp HN _ ?_).mono ?_); (go_split_ands; exact ZR.out _ (by assumption)); rintro e wA ⟨rfl, bM⟩)
   | (go_at_call 240; (with_reducible refine (j_ P Q G Z zs nz cz true Hl hzn (aa (by omega)) _ ?_).mono ?_); (go_split_ands; exact hOZ.out _ (by assumption)); rintro e wA ⟨rfl, bM⟩)
   | (go_at_call 240; (with_reducible refine (j_ P Q G (some ⟨wA.heap.size, 0, none⟩) [C] 1 1 true Qc (aa rfl) (aa (by omega)) _ ?_).mono ?_); exact aa (gF (tL wA _ C)); rintro e wA ⟨rfl, bM⟩)))
 rename_i hHeld
 obtain ⟨x0, x1, x2, x3, x4, x5, x6, x7, UL⟩ := hHeld
 clear x0 x1 x2 x3 x4 x5 x6 x7
 obtain ⟨W2, hW2⟩ : ∃ x, x = wA := ⟨_, rfl⟩
 go_wp2
 go_region_held3 (fun w' => w'.cell? ⟨w.heap.size, 0, none⟩ = some (.int .i64 P) ∧ w'.cell? ⟨w.heap.size, 1, none⟩ = some (.int .i64 Q) ∧ w'.cell? ⟨w.heap.size, 2, none⟩ = some (.int .i64 G) ∧ w'.cell? ⟨w.heap.size + 1, 0, none⟩ = some (.slice Y n yc) ∧ w'.cell? ⟨w.heap.size + 1, 1, none⟩ = some (.slice B n bc) ∧ w'.cell? ⟨w.heap.size + 2, 0, none⟩ = some (.slice A n ca) ∧ w'.cell? ⟨w.heap.size + 2, 1, none⟩ = some (.int .i64 C) ∧ w'.cell? ⟨w.heap.size + 2, 2, none⟩ = some (.slice Z nz cz) ∧ Hid (Below W.heap.size W w'))
  (first | exact hS.out _ _ UL ((Below.refl _ _).drew) | (go_split_ands; exact hS.out _ _ (by assumption) bM) | go_keep)
  ((first
   | (go_at_call 242; (with_reducible refine (O8 P Q G Y ys yc B rows n bc C Z zs nz cz jV hyn hbn hzn hlen Hl hc0 hc1 hQ _ ?_ ?_ ?_).mono ?_); (go_split_ands; exact hOY.out _ (by assumption)); (go_split_ands; exact ZR.out _ (by assumption)); (go_split_ands; exact hOZ.out _ (by assumption)); rintro e wA ⟨g, cap, rfl, hcA, bM⟩)
   | (go_at_call 241; (with_reducible refine (Tx g n cap (vE P Q C ys rows zs) A al n ca hsl eX hnp (by omega) (by omega) _ hcA ?_).mono ?_); (go_split_ands; exact hOA.out _ (by assumption)); rintro e wA ⟨rfl, bM⟩)))
 rename_i hHeld
 obtain ⟨x0, x1, x2, x3, x4, x5, x6, x7, fA⟩ := hHeld
 have bV := ag ai.out fA.out
 clear x0 x1 x2 x3 x4 x5 x6 x7
 go_wp2
 go_ret
 exact ⟨by first | (rw [hr.out]; done) | (rw [hr.out]; rfl) | (rw [hr.out]; simp) | (simp [hr.out]; done), bV⟩
def Ww (s : Nat) : List Row := [⟨some ⟨s + 1 + 1, 0, none⟩, 1, 1, [2]⟩, ⟨some ⟨s + 1 + 1 + 1, 0, none⟩, 1, 1, [4]⟩]
def UN (w : World) (s : Nat) : Prop := nS w s 23 11 4 ∧ Sl w (some ⟨s + 1, 0, none⟩) [8, 18] ∧ Rw w (some ⟨s + 1 + 1 + 1 + 1, 0, none⟩) (Ww s) ∧ p_ w (s + 1 + 1 + 1 + 1 + 1) (.slice (some ⟨s + 1, 0, none⟩) 2 2) (.slice (some ⟨s + 1 + 1 + 1 + 1, 0, none⟩) 2 2)
theorem UN.below {w w' : World} {s : Nat} (h : UN w s) (hb : Below w.heap.size w w') : UN w' s := ⟨h.1.below hb, h.2.1.below hb, h.2.2.1.below hb, h.2.2.2.below hb⟩
theorem Sl.set {w : World} {A : Option Addr} {xs : List Int} {a : Nat} {j : Nat} {v : Value} (h : Sl w A xs) (hne : ∀ b o, A = some ⟨b, o, none⟩ → 0 < xs.length → b ≠ a) : Sl (w.setCell ⟨a, j, none⟩ v) A xs := fun k hk => by
 obtain ⟨b, o, e, hc⟩ := h k hk
 refine ⟨b, o, e, ?_⟩
 have := hne b o e (by omega)
 rw [World.cell?_setCell_far _ _ _ _ (fun e => this e.symm)]
 exact hc
theorem Jp (P Q G : Int) (Y : Option Addr) (ys : List Int) (n yc : Nat) (B : Option Addr) (rows : List Row) (bc : Nat) (A : Option Addr) (al : List Int) (na ca : Nat) (C : Int) (Z : Option Addr) (zs : List Int) (nz cz : Nat) (jV : Hid (eD P Q G ys rows = true)) (hyn : Hid (ys.length = n)) (hbn : Hid (rows.length = n)) (eX : Hid (al.length = na)) (hzn : Hid (zs.length = nz)) (hna : na < 1000000) (hnz : nz < 1000000) (hQ : Q < 9223372036854775808) (hne : na ≠ n) (w : World) (hv : Hid (Vars w)) (hY : Hid (Sl w Y ys)) (hB : Hid (Rw w B rows)) (hA : Hid (Sl w A al)) (hZ : Hid (Sl w Z zs)) :
  Calls Tryz.prog 222 #[gv P Q G, gQ Y n yc B n bc, iL A na ca C Z nz cz] w (Rt w (.bool false)) := by
 obtain ⟨v1, v2, v3, v4, v5, v6, v7, v8⟩ := bJ jV.out
 have hnp : 0 < n := by rw [← hyn.out]; omega
 obtain ⟨nu, hnu⟩ : ∃ k, fZ rows = k := ⟨_, rfl⟩
 have HN := aa hnu
 clear v1 v2 v3 v4 v5 v6 v7 v8 hnu
 have e1 : ((na : Int) != (n : Int)) = true := by simp; omega
 obtain ⟨w0, HW, ai, kC⟩ := qF (bq P Q G) gq (jw Y n yc B n bc) wI (eG A na ca C Z nz cz) p8 w
 have kV := mkV ai hv
 have kY := mkS ai hY
 have kB := gV (fun u => Rw u B rows) ai hB (·.below)
 have kA := mkS ai hA
 have kZ := mkS ai hZ
 have ah := bS w0
 clear hv hY hB hA hZ
 go_in
 go_wp2_with fail
 rw [HW.out]
 have hO := kC
 refine jq [] ah (fun hHeld => ?_)
 refine aH 0 ?_
 refine aH 1 ?_
 refine bW 2 fun K hK => ?_
 go_simp
 (with_reducible refine (jL P Q G Y ys n yc B rows n bc true jV hyn hbn hQ _ ?_ ?_ ?_).mono ?_); (go_split_ands; exact kV.out _ (by assumption)); (go_split_ands; exact kY.out _ (by assumption)); (go_split_ands; exact kB.out _ (by assumption)); rintro e wA ⟨rfl, bM⟩
 refine hK.out _ _ (bY hHeld bM) (fun hHeld => ?_)
 clear hK K
 try simp only [qq]
 refine aT 3 4 5 6 ?_
 refine aT 7 8 9 10 ?_
 refine aH 11 ?_
 refine aH 12 ?_
 refine aH 13 ?_
 refine dR 14 15 16 17 ?_
 refine jl 18 ?_
 refine jl 19 ?_
 refine aH 20 ?_
 refine aH 21 ?_
 refine dR 22 23 24 25 ?_
 refine jl 26 ?_
 refine jl 27 ?_
 refine aH 28 ?_
 refine aH 29 ?_
 refine dR 30 31 32 33 ?_
 refine jl 34 ?_
 refine aH 35 ?_
 refine gz ?_
 have fA := hHeld
 have bV := ag ai.out fA.out
 go_wp2
 go_ret
 exact ⟨rfl, bV⟩
theorem Jo (P Q G : Int) (Y : Option Addr) (ys : List Int) (n yc : Nat) (B : Option Addr) (rows : List Row) (bc : Nat) (A : Option Addr) (al : List Int) (na ca : Nat) (C : Int) (Z : Option Addr) (zs : List Int) (nz cz : Nat) (jV : Hid (eD P Q G ys rows = true)) (hyn : Hid (ys.length = n)) (hbn : Hid (rows.length = n)) (eX : Hid (al.length = na)) (hzn : Hid (zs.length = nz)) (hna : na < 1000000) (hnz : nz < 1000000) (hQ : Q < 9223372036854775808) (heq : na = n) (hne : nz ≠ fZ rows) (w : World) (hv : Hid (Vars w)) (hY : Hid (Sl w Y ys)) (hB : Hid (Rw w B rows)) (hA : Hid (Sl w A al)) (hZ : Hid (Sl w Z zs)) :
  Calls Tryz.prog 222 #[gv P Q G, gQ Y n yc B n bc, iL A na ca C Z nz cz] w (Rt w (.bool false)) := by
 obtain ⟨v1, v2, v3, v4, v5, v6, v7, v8⟩ := bJ jV.out
 have hnp : 0 < n := by rw [← hyn.out]; omega
 obtain ⟨nu, hnu⟩ : ∃ k, fZ rows = k := ⟨_, rfl⟩
 have HN := aa hnu
 clear v1 v2 v3 v4 v5 v6 v7 v8 hnu
 have e1 : ((na : Int) != (n : Int)) = false := by simp; omega
 have e2 : ((nz : Int) != (nu : Int)) = true := by have := HN.out; simp; omega
 clear heq hne
 obtain ⟨w0, HW, ai, kC⟩ := qF (bq P Q G) gq (jw Y n yc B n bc) wI (eG A na ca C Z nz cz) p8 w
 have kV := mkV ai hv
 have kY := mkS ai hY
 have kB := gV (fun u => Rw u B rows) ai hB (·.below)
 have kA := mkS ai hA
 have kZ := mkS ai hZ
 have ah := bS w0
 clear hv hY hB hA hZ
 go_in
 go_wp2_with fail
 rw [HW.out]
 have hO := kC
 refine jq [] ah (fun hHeld => ?_)
 refine aH 0 ?_
 refine aH 1 ?_
 refine bW 2 fun K hK => ?_
 go_simp
 (with_reducible refine (jL P Q G Y ys n yc B rows n bc true jV hyn hbn hQ _ ?_ ?_ ?_).mono ?_); (go_split_ands; exact kV.out _ (by assumption)); (go_split_ands; exact kY.out _ (by assumption)); (go_split_ands; exact kB.out _ (by assumption)); rintro e wA ⟨rfl, bM⟩
 refine hK.out _ _ (bY hHeld bM) (fun hHeld => ?_)
 clear hK K
 try simp only [qq]
 refine aT 3 4 5 6 ?_
 refine aT 7 8 9 10 ?_
 refine aT 11 12 13 14 ?_
 refine aH 15 ?_
 refine aH 16 ?_
 refine aH 17 ?_
 refine bW 18 fun K hK => ?_
 go_simp
 (with_reducible refine (jS Y n yc B rows n bc nu hbn hnp HN _ ?_).mono ?_); (go_split_ands; exact kB.out _ (by assumption)); rintro e wA ⟨rfl, bM⟩
 refine hK.out _ _ (bY hHeld bM) (fun hHeld => ?_)
 clear hK K
 try simp only [qq]
 refine aH 19 ?_
 refine aH 20 ?_
 refine aH 21 ?_
 refine dR 22 23 24 25 ?_
 refine jl 26 ?_
 refine jl 27 ?_
 refine aH 28 ?_
 refine aH 29 ?_
 refine dR 30 31 32 33 ?_
 refine jl 34 ?_
 refine aH 35 ?_
 refine gz ?_
 have fA := hHeld
 have bV := ag ai.out fA.out
 go_wp2
 go_ret
 exact ⟨rfl, bV⟩
theorem Jn (P Q G : Int) (Y : Option Addr) (ys : List Int) (n yc : Nat) (B : Option Addr) (rows : List Row) (bc : Nat) (A : Option Addr) (al : List Int) (na ca : Nat) (C : Int) (Z : Option Addr) (zs : List Int) (nz cz : Nat) (jV : Hid (eD P Q G ys rows = true)) (hyn : Hid (ys.length = n)) (hbn : Hid (rows.length = n)) (eX : Hid (al.length = na)) (hzn : Hid (zs.length = nz)) (hna : na < 1000000) (hnz : nz < 1000000) (hQ : Q < 9223372036854775808) (heq : na = n) (heq2 : nz = fZ rows) (hc : gW Q C = false) (w : World) (hv : Hid (Vars w)) (hY : Hid (Sl w Y ys)) (hB : Hid (Rw w B rows)) (hA : Hid (Sl w A al)) (hZ : Hid (Sl w Z zs)) :
  Calls Tryz.prog 222 #[gv P Q G, gQ Y n yc B n bc, iL A na ca C Z nz cz] w (Rt w (.bool false)) := by
 obtain ⟨v1, v2, v3, v4, v5, v6, v7, v8⟩ := bJ jV.out
 have hnp : 0 < n := by rw [← hyn.out]; omega
 obtain ⟨nu, hnu⟩ : ∃ k, fZ rows = k := ⟨_, rfl⟩
 have HN := aa hnu
 clear v1 v2 v3 v4 v5 v6 v7 v8 hnu
 have e1 : ((na : Int) != (n : Int)) = false := by simp; omega
 have e2 : ((nz : Int) != (nu : Int)) = false := by have := HN.out; simp; omega
 clear heq heq2
 have Qc : Hid ([C].all (gW Q) = false) := aa (by simpa using hc)
 clear hc
 obtain ⟨w0, HW, ai, kC⟩ := qF (bq P Q G) gq (jw Y n yc B n bc) wI (eG A na ca C Z nz cz) p8 w
 have kV := mkV ai hv
 have kY := mkS ai hY
 have kB := gV (fun u => Rw u B rows) ai hB (·.below)
 have kA := mkS ai hA
 have kZ := mkS ai hZ
 have ah := bS w0
 clear hv hY hB hA hZ
 go_in
 go_wp2_with fail
 rw [HW.out]
 have hO := kC
 refine jq [] ah (fun hHeld => ?_)
 refine aH 0 ?_
 refine aH 1 ?_
 refine bW 2 fun K hK => ?_
 go_simp
 (with_reducible refine (jL P Q G Y ys n yc B rows n bc true jV hyn hbn hQ _ ?_ ?_ ?_).mono ?_); (go_split_ands; exact kV.out _ (by assumption)); (go_split_ands; exact kY.out _ (by assumption)); (go_split_ands; exact kB.out _ (by assumption)); rintro e wA ⟨rfl, bM⟩
 refine hK.out _ _ (bY hHeld bM) (fun hHeld => ?_)
 clear hK K
 try simp only [qq]
 refine aT 3 4 5 6 ?_
 refine aT 7 8 9 10 ?_
 refine aT 11 12 13 14 ?_
 refine aH 15 ?_
 refine aH 16 ?_
 refine aH 17 ?_
 refine bW 18 fun K hK => ?_
 go_simp
 (with_reducible refine (jS Y n yc B rows n bc nu hbn hnp HN _ ?_).mono ?_); (go_split_ands; exact kB.out _ (by assumption)); rintro e wA ⟨rfl, bM⟩
 refine hK.out _ _ (bY hHeld bM) (fun hHeld => ?_)
 clear hK K
 try simp only [qq]
 refine aT 19 20 21 22 ?_
 refine aH 23 ?_
 refine aH 24 ?_
 refine bW 25 fun K hK => ?_
 go_simp
 refine hK.out _ _ (bY hHeld (af _ _)) (fun hHeld => ?_)
 clear hK K
 try simp only [qq]
 refine bW 26 fun K hK => ?_
 go_simp
 (with_reducible refine (j_ P Q G (some ⟨wA.heap.size, 0, none⟩) [C] 1 1 false Qc (aa rfl) (aa (by omega)) _ (aa (gF (tL wA _ C)))).mono ?_); rintro e wB ⟨rfl, bM⟩
 refine hK.out _ _ (bY hHeld bM) (fun hHeld => ?_)
 clear hK K
 try simp only [qq]
 refine aH 27 ?_
 refine aH 28 ?_
 refine aH 29 ?_
 refine dR 30 31 32 33 ?_
 refine jl 34 ?_
 refine aH 35 ?_
 refine gz ?_
 have fA := hHeld
 have bV := ag ai.out fA.out
 go_wp2
 go_ret
 exact ⟨rfl, bV⟩
theorem Jm (P Q G : Int) (Y : Option Addr) (ys : List Int) (n yc : Nat) (B : Option Addr) (rows : List Row) (bc : Nat) (A : Option Addr) (al : List Int) (na ca : Nat) (C : Int) (Z : Option Addr) (zs : List Int) (nz cz : Nat) (jV : Hid (eD P Q G ys rows = true)) (hyn : Hid (ys.length = n)) (hbn : Hid (rows.length = n)) (eX : Hid (al.length = na)) (hzn : Hid (zs.length = nz)) (hna : na < 1000000) (hnz : nz < 1000000) (hQ : Q < 9223372036854775808) (heq : na = n) (heq2 : nz = fZ rows) (hc : gW Q C = true) (Hl : Hid (zs.all (gW Q) = false)) (w : World) (hv : Hid (Vars w)) (hY : Hid (Sl w Y ys)) (hB : Hid (Rw w B rows)) (hA : Hid (Sl w A al)) (hZ : Hid (Sl w Z zs)) :
  Calls Tryz.prog 222 #[gv P Q G, gQ Y n yc B n bc, iL A na ca C Z nz cz] w (Rt w (.bool false)) := by
 obtain ⟨v1, v2, v3, v4, v5, v6, v7, v8⟩ := bJ jV.out
 have hnp : 0 < n := by rw [← hyn.out]; omega
 obtain ⟨nu, hnu⟩ : ∃ k, fZ rows = k := ⟨_, rfl⟩
 have HN := aa hnu
 clear v1 v2 v3 v4 v5 v6 v7 v8 hnu
 have e1 : ((na : Int) != (n : Int)) = false := by simp; omega
 have e2 : ((nz : Int) != (nu : Int)) = false := by have := HN.out; simp; omega
 clear heq heq2
 have Qc : Hid ([C].all (gW Q) = true) := aa (by simpa using hc)
 clear hc
 obtain ⟨w0, HW, ai, kC⟩ := qF (bq P Q G) gq (jw Y n yc B n bc) wI (eG A na ca C Z nz cz) p8 w
 have kV := mkV ai hv
 have kY := mkS ai hY
 have kB := gV (fun u => Rw u B rows) ai hB (·.below)
 have kA := mkS ai hA
 have kZ := mkS ai hZ
 have ah := bS w0
 clear hv hY hB hA hZ
 go_in
 go_wp2_with fail
 rw [HW.out]
 have hO := kC
 refine jq [] ah (fun hHeld => ?_)
 refine aH 0 ?_
 refine aH 1 ?_
 refine bW 2 fun K hK => ?_
 go_simp
 (with_reducible refine (jL P Q G Y ys n yc B rows n bc true jV hyn hbn hQ _ ?_ ?_ ?_).mono ?_); (go_split_ands; exact kV.out _ (by assumption)); (go_split_ands; exact kY.out _ (by assumption)); (go_split_ands; exact kB.out _ (by assumption)); rintro e wA ⟨rfl, bM⟩
 refine hK.out _ _ (bY hHeld bM) (fun hHeld => ?_)
 clear hK K
 try simp only [qq]
 refine aT 3 4 5 6 ?_
 refine aT 7 8 9 10 ?_
 refine aT 11 12 13 14 ?_
 refine aH 15 ?_
 refine aH 16 ?_
 refine aH 17 ?_
 refine bW 18 fun K hK => ?_
 go_simp
 (with_reducible refine (jS Y n yc B rows n bc nu hbn hnp HN _ ?_).mono ?_); (go_split_ands; exact kB.out _ (by assumption)); rintro e wA ⟨rfl, bM⟩
 refine hK.out _ _ (bY hHeld bM) (fun hHeld => ?_)
 clear hK K
 try simp only [qq]
 refine aT 19 20 21 22 ?_
 refine aH 23 ?_
 refine aH 24 ?_
 refine bW 25 fun K hK => ?_
 go_simp
 refine hK.out _ _ (bY hHeld (af _ _)) (fun hHeld => ?_)
 clear hK K
 try simp only [qq]
 refine bW 26 fun K hK => ?_
 go_simp
 (with_reducible refine (j_ P Q G (some ⟨wA.heap.size, 0, none⟩) [C] 1 1 true Qc (aa rfl) (aa (by omega)) _ (aa (gF (tL wA _ C)))).mono ?_); rintro e wB ⟨rfl, bM⟩
 refine hK.out _ _ (bY hHeld bM) (fun hHeld => ?_)
 clear hK K
 try simp only [qq]
 refine aT 27 28 29 30 ?_
 refine aH 31 ?_
 refine aH 32 ?_
 refine bW 33 fun K hK => ?_
 go_simp
 (with_reducible refine (j_ P Q G Z zs nz cz false Hl hzn (aa hnz) _ ?_).mono ?_); (go_split_ands; exact kZ.out _ (by assumption)); rintro e wA ⟨rfl, bM⟩
 refine hK.out _ _ (bY hHeld bM) (fun hHeld => ?_)
 clear hK K
 try simp only [qq]
 refine aH 34 ?_
 refine aH 35 ?_
 refine gz ?_
 have fA := hHeld
 have bV := ag ai.out fA.out
 go_wp2
 go_ret
 exact ⟨rfl, bV⟩
def gM (P Q C : Int) (ys : List Int) (rows : List Row) (al zs : List Int) : Bool := decide (al.length = rows.length) && (decide (zs.length = fZ rows) && (gW Q C && (zs.all (gW Q) && (vE P Q C ys rows zs == al))))
theorem pW {P Q C : Int} {ys : List Int} {rows : List Row} {al zs : List Int} (h : gM P Q C ys rows al zs = true) : al.length = rows.length ∧ zs.length = fZ rows ∧ gW Q C = true ∧ zs.all (gW Q) = true ∧ vE P Q C ys rows zs = al := by
 simp only [gM, Bool.and_eq_true, decide_eq_true_eq] at h
 exact ⟨h.1, h.2.1, h.2.2.1, h.2.2.2.1, by simpa using h.2.2.2.2⟩
theorem DF (P Q G : Int) (Y : Option Addr) (ys : List Int) (n yc : Nat) (B : Option Addr) (rows : List Row) (bc : Nat) (A : Option Addr) (al : List Int) (na ca : Nat) (C : Int) (Z : Option Addr) (zs : List Int) (nz cz : Nat) (jV : Hid (eD P Q G ys rows = true)) (hyn : Hid (ys.length = n)) (hbn : Hid (rows.length = n)) (eX : Hid (al.length = na)) (hzn : Hid (zs.length = nz)) (hna : na < 1000000) (hnz : nz < 1000000) (hQ : Q < 9223372036854775808) (r : Bool) (hr : Hid (gM P Q C ys rows al zs = r)) (w : World) (hv : Hid (Vars w)) (hY : Hid (Sl w Y ys)) (hB : Hid (Rw w B rows)) (hA : Hid (Sl w A al)) (hZ : Hid (Sl w Z zs)) :
  Calls Tryz.prog 222 #[gv P Q G, gQ Y n yc B n bc, iL A na ca C Z nz cz] w (Rt w (.bool r)) := by
 by_cases h1 : na = n
 ·
  by_cases h2 : nz = fZ rows
  ·
   cases h3 : gW Q C with
   | false =>
    obtain rfl : r = false := by rw [← hr.out]; unfold gM; rw [h3]; simp
    exact Jn P Q G Y ys n yc B rows bc A al na ca C Z zs nz cz jV hyn hbn eX hzn hna hnz hQ h1 h2 h3 w hv hY hB hA hZ
   | true =>
    cases h4 : zs.all (gW Q) with
    | false =>
     obtain rfl : r = false := by rw [← hr.out]; unfold gM; rw [h4]; simp
     exact Jm P Q G Y ys n yc B rows bc A al na ca C Z zs nz cz jV hyn hbn eX hzn hna hnz hQ h1 h2 h3 (aa h4) w hv hY hB hA hZ
    | true =>
     subst h1
     refine FM P Q G Y ys na yc B rows bc A al ca C Z zs nz cz jV hyn hbn eX hzn (by rw [hzn.out]; exact h2) (aa h4) (qG h3) (sP h3) r (aa ?_) hQ w hv hY hB hA hZ
     rw [← hr.out]
     unfold gM
     have e1 : al.length = rows.length := eX.out.trans hbn.out.symm
     have e2 : zs.length = fZ rows := hzn.out.trans h2
     rw [decide_eq_true e1, decide_eq_true e2, h3, h4]
     rfl
  ·
   obtain rfl : r = false := by
    rw [← hr.out]; unfold gM
    rw [decide_eq_false (show ¬ zs.length = fZ rows by rw [hzn.out]; exact h2)]; simp
   exact Jo P Q G Y ys n yc B rows bc A al na ca C Z zs nz cz jV hyn hbn eX hzn hna hnz hQ h1 h2 w hv hY hB hA hZ
 ·
  obtain rfl : r = false := by
   rw [← hr.out]; unfold gM
   rw [decide_eq_false (show ¬ al.length = rows.length by rw [eX.out, hbn.out]; exact h1)]; rfl
  exact Jp P Q G Y ys n yc B rows bc A al na ca C Z zs nz cz jV hyn hbn eX hzn hna hnz hQ h1 w hv hY hB hA hZ
theorem Jl (P Q G : Int) (Y : Option Addr) (ys : List Int) (yn yc : Nat) (B : Option Addr) (rows : List Row) (bn bc : Nat) (A : Option Addr) (al : List Int) (na ca : Nat) (C : Int) (Z : Option Addr) (zs : List Int) (nz cz : Nat) (hyn : Hid (ys.length = yn)) (hbn : Hid (rows.length = bn)) (eX : Hid (al.length = na)) (hzn : Hid (zs.length = nz)) (hna : na < 1000000) (hnz : nz < 1000000) (hQ : Q < 9223372036854775808) (jV : Hid (eD P Q G ys rows = false)) (w : World) (hv : Hid (Vars w)) (hY : Hid (Sl w Y ys)) (hB : Hid (Rw w B rows)) (hA : Hid (Sl w A al)) (hZ : Hid (Sl w Z zs)) :
  Calls Tryz.prog 222 #[gv P Q G, gQ Y yn yc B bn bc, iL A na ca C Z nz cz] w (Rt w (.bool false)) := by
 obtain ⟨w0, HW, ai, kC⟩ := qF (bq P Q G) gq (jw Y yn yc B bn bc) wI (eG A na ca C Z nz cz) p8 w
 have kV := mkV ai hv
 have kY := mkS ai hY
 have kB := gV (fun u => Rw u B rows) ai hB (·.below)
 have kA := mkS ai hA
 have kZ := mkS ai hZ
 have ah := bS w0
 clear hv hY hB hA hZ
 go_in
 go_wp2_with fail
 rw [HW.out]
 have hO := kC
 refine jq [] ah (fun hHeld => ?_)
 refine aH 0 ?_
 refine aH 1 ?_
 refine bW 2 fun K hK => ?_
 go_simp
 (with_reducible refine (jL P Q G Y ys yn yc B rows bn bc false jV hyn hbn hQ _ ?_ ?_ ?_).mono ?_); (go_split_ands; exact kV.out _ (by assumption)); (go_split_ands; exact kY.out _ (by assumption)); (go_split_ands; exact kB.out _ (by assumption)); rintro e wA ⟨rfl, bM⟩
 refine hK.out _ _ (bY hHeld bM) (fun hHeld => ?_)
 clear hK K
 try simp only [qq]
 refine aH 3 ?_
 refine aH 4 ?_
 refine dR 5 6 7 8 ?_
 refine jl 9 ?_
 refine jl 10 ?_
 refine jl 11 ?_
 refine aH 12 ?_
 refine aH 13 ?_
 refine dR 14 15 16 17 ?_
 refine jl 18 ?_
 refine jl 19 ?_
 refine aH 20 ?_
 refine aH 21 ?_
 refine dR 22 23 24 25 ?_
 refine jl 26 ?_
 refine jl 27 ?_
 refine aH 28 ?_
 refine aH 29 ?_
 refine dR 30 31 32 33 ?_
 refine jl 34 ?_
 refine aH 35 ?_
 refine gz ?_
 have fA := hHeld
 have bV := ag ai.out fA.out
 go_wp2
 go_ret
 exact ⟨rfl, bV⟩
def qY (P Q G C : Int) (ys : List Int) (rows : List Row) (al zs : List Int) : Bool := eD P Q G ys rows && gM P Q C ys rows al zs
theorem yT (P Q G : Int) (Y : Option Addr) (ys : List Int) (yn yc : Nat) (B : Option Addr) (rows : List Row) (bn bc : Nat) (A : Option Addr) (al : List Int) (na ca : Nat) (C : Int) (Z : Option Addr) (zs : List Int) (nz cz : Nat) (hyn : Hid (ys.length = yn)) (hbn : Hid (rows.length = bn)) (eX : Hid (al.length = na)) (hzn : Hid (zs.length = nz)) (hna : na < 1000000) (hnz : nz < 1000000) (hQ : Q < 9223372036854775808) (r : Bool) (hr : Hid (qY P Q G C ys rows al zs = r)) (w : World) (hv : Hid (Vars w)) (hY : Hid (Sl w Y ys)) (hB : Hid (Rw w B rows)) (hA : Hid (Sl w A al)) (hZ : Hid (Sl w Z zs)) :
  Calls Tryz.prog 222 #[gv P Q G, gQ Y yn yc B bn bc, iL A na ca C Z nz cz] w (Rt w (.bool r)) := by
 cases hg : eD P Q G ys rows with
 | false =>
  obtain rfl : r = false := by rw [← hr.out, qY, hg]; rfl
  exact Jl P Q G Y ys yn yc B rows bn bc A al na ca C Z zs nz cz hyn hbn eX hzn hna hnz hQ (aa hg) w hv hY hB hA hZ
 | true =>
  have he : bn = yn := by rw [← hbn.out, ← hyn.out]; exact (bJ hg).2.2.2.1
  subst he
  exact DF P Q G Y ys bn yc B rows bc A al na ca C Z zs nz cz (aa hg) hyn hbn eX hzn hna hnz hQ r (aa (by rw [← hr.out, qY, hg]; rfl)) w hv hY hB hA hZ
theorem IQ {P Q G : Int} (h : aV P Q G = true) : sV [P, Q, G] := by
 obtain ⟨h1, h2, h3, h4⟩ := bH h
 have h5 : 2 ≤ G ∧ G < P := by simp [aV] at h; exact ⟨h.2.2.2.2.2.2.1, h.2.2.2.2.2.2.2.1⟩
 refine ⟨by simp, fun x hx => ?_⟩
 simp at hx
 rcases hx with rfl | rfl | rfl <;> omega
theorem Hq {P Q : Int} {l : List Int} (hP : P < 2305843009213693952) (h : l.all (aG P Q) = true) (hl : l.length ≤ 1000) : sV l :=
 ⟨hl, fun x hx => by
  have h1 := fE (List.all_eq_true.1 h x hx)
  have h2 := fF (List.all_eq_true.1 h x hx)
  omega⟩
theorem CQ {P Q G : Int} {ys : List Int} {rows : List Row} {w : World} {B : Option Addr} (h : eD P Q G ys rows = true) (hB : Rw w B rows) :
  sV [P, Q, G] ∧ sV ys ∧ ∀ k, k < rows.length → sV (rows.getD k dh).xs := by
 obtain ⟨v1, v2, v3, v4, v5, v6, v7, v8⟩ := bJ h
 obtain ⟨h1, h2, h3, h4⟩ := bH v1
 refine ⟨IQ v1, Hq h2 v5 (by omega), fun k hk => ?_⟩
 have hr := pq v8 hk
 have hl := (hB k hk).2.1
 simp only [mo, Bool.and_eq_true, decide_eq_true_eq] at hr
 exact Hq h2 hr.2 (by omega)
theorem Db {P Q C : Int} {ys : List Int} {rows : List Row} {zs : List Int} (hP0 : 2 ≤ P) (hP : P < 2305843009213693952) (hl : rows.length ≤ 1000) : sV (vE P Q C ys rows zs) :=
 ⟨by rw [gG]; exact hl, fun x hx => by
  obtain ⟨i, _, rfl⟩ := List.mem_map.1 hx
  unfold yA
  have h1 := Int.emod_nonneg (dH P 1 (rows.getD i dh).xs zs * pw (ys.getD i 0) ((Q - C) % Q) P) (show P ≠ 0 by omega)
  have h2 := Int.emod_lt_of_pos (dH P 1 (rows.getD i dh).xs zs * pw (ys.getD i 0) ((Q - C) % Q) P) (show 0 < P by omega)
  omega⟩
def vD (P Q G C : Int) (lb ys : List Int) (rows : List Row) (al zs : List Int) : Bool := qY P Q G C ys rows al zs && (gI lb && (zb P Q G lb ys rows al == C))
theorem Sq (P Q G : Int) (Y : Option Addr) (ys : List Int) (yn yc : Nat) (B : Option Addr) (rows : List Row) (bn bc : Nat) (A : Option Addr) (al : List Int) (na ca : Nat) (C : Int) (Z : Option Addr) (zs : List Int) (nz cz : Nat) (hyn : Hid (ys.length = yn)) (hbn : Hid (rows.length = bn)) (eX : Hid (al.length = na)) (hzn : Hid (zs.length = nz)) (hna : na < 1000000) (hnz : nz < 1000000) (hQ : Q < 9223372036854775808) (s : ByteArray) (hs : s.size ≤ 1000) (HC : Hid (qY P Q G C ys rows al zs = false)) (w : World) (hv : Hid (Vars w)) (hd : Hid (bF w)) (hY : Hid (Sl w Y ys)) (hB : Hid (Rw w B rows)) (hA : Hid (Sl w A al)) (hZ : Hid (Sl w Z zs)) :
  Calls Tryz.prog 201 #[gv P Q G, gQ Y yn yc B bn bc, .string s, iL A na ca C Z nz cz] w (Rt w (.bool false)) := by
 obtain ⟨w0, HW, ai, kC⟩ := qF (bq P Q G) gq (jw Y yn yc B bn bc) wI (eG A na ca C Z nz cz) p8 w
 have kV := mkV ai hv
 have kY := mkS ai hY
 have kB := gV (fun u => Rw u B rows) ai hB (·.below)
 have kA := mkS ai hA
 have kZ := mkS ai hZ
 have kD := r_ ai hd
 have ah := bS w0
 clear hv hY hB hA hZ hd
 go_in
 go_wp2_with fail
 rw [HW.out]
 have zc := kC.out _ ah
 go_wp2_with fail
 clear zc
 refine eB kC ah (yT P Q G Y ys yn yc B rows bn bc A al na ca C Z zs nz cz hyn hbn eX hzn hna hnz hQ false HC _ (kV.out _ ah) (kY.out _ ah) (kB.out _ ah) (kA.out _ ah) (kZ.out _ ah)) fun w1 aD zc => ?_
 go_wp2
 go_ret
 exact ⟨rfl, fe ai aD⟩
theorem Sn (P Q G : Int) (Y : Option Addr) (ys : List Int) (yn yc : Nat) (B : Option Addr) (rows : List Row) (bn bc : Nat) (A : Option Addr) (al : List Int) (na ca : Nat) (C : Int) (Z : Option Addr) (zs : List Int) (nz cz : Nat) (hyn : Hid (ys.length = yn)) (hbn : Hid (rows.length = bn)) (eX : Hid (al.length = na)) (hzn : Hid (zs.length = nz)) (hna : na < 1000000) (hnz : nz < 1000000) (hQ : Q < 9223372036854775808) (s : ByteArray) (hs : s.size ≤ 1000) (HC : Hid (qY P Q G C ys rows al zs = true)) (hr : Hid (gI (aU s) = false)) (D8 : bn ≤ 900) (w : World) (hv : Hid (Vars w)) (hd : Hid (bF w)) (hY : Hid (Sl w Y ys)) (hB : Hid (Rw w B rows)) (hA : Hid (Sl w A al)) (hZ : Hid (Sl w Z zs)) :
  Calls Tryz.prog 201 #[gv P Q G, gQ Y yn yc B bn bc, .string s, iL A na ca C Z nz cz] w (Rt w (.bool false)) := by
 obtain ⟨w0, HW, ai, kC⟩ := qF (bq P Q G) gq (jw Y yn yc B bn bc) wI (eG A na ca C Z nz cz) p8 w
 have kV := mkV ai hv
 have kY := mkS ai hY
 have kB := gV (fun u => Rw u B rows) ai hB (·.below)
 have kA := mkS ai hA
 have kZ := mkS ai hZ
 have kD := r_ ai hd
 have ah := bS w0
 clear hv hY hB hA hZ hd
 go_in
 go_wp2_with fail
 rw [HW.out]
 have zc := kC.out _ ah
 go_wp2_with fail
 clear zc
 refine eB kC ah (yT P Q G Y ys yn yc B rows bn bc A al na ca C Z zs nz cz hyn hbn eX hzn hna hnz hQ true HC _ (kV.out _ ah) (kY.out _ ah) (kB.out _ ah) (kA.out _ ah) (kZ.out _ ah)) fun w1 aD zc => ?_
 go_wp2_with fail
 clear zc
 refine eB kC aD (Jq P Q G Y ys yn yc B rows bn bc A al na ca s hs hr hbn D8 _ (kB.out _ aD)) fun w2 aN zc => ?_
 go_wp2
 go_ret
 exact ⟨rfl, fe ai aN⟩
theorem Sm (P Q G : Int) (Y : Option Addr) (ys : List Int) (yn yc : Nat) (B : Option Addr) (rows : List Row) (bn bc : Nat) (A : Option Addr) (al : List Int) (na ca : Nat) (C : Int) (Z : Option Addr) (zs : List Int) (nz cz : Nat) (hyn : Hid (ys.length = yn)) (hbn : Hid (rows.length = bn)) (eX : Hid (al.length = na)) (hzn : Hid (zs.length = nz)) (hna : na < 1000000) (hnz : nz < 1000000) (hQ : Q < 9223372036854775808) (s : ByteArray) (hs : s.size ≤ 1000) (HC : Hid (qY P Q G C ys rows al zs = true)) (hr : Hid (gI (aU s) = true)) (D8 : bn ≤ 900) (Ls : Hid (sV [P, Q, G])) (Lp : Hid (sV ys)) (Lt : Hid (sV al)) (Lr : Hid (∀ k, k < rows.length → sV (rows.getD k dh).xs)) (QG : 2 ≤ Q) (QF : Q < 2305843009213693952) (V : Int) (HV : Kp (zb P Q G (aU s) ys rows al = V)) (w : World) (hv : Hid (Vars w)) (hd : Hid (bF w)) (hY : Hid (Sl w Y ys)) (hB : Hid (Rw w B rows)) (hA : Hid (Sl w A al)) (hZ : Hid (Sl w Z zs)) :
  Calls Tryz.prog 201 #[gv P Q G, gQ Y yn yc B bn bc, .string s, iL A na ca C Z nz cz] w (Rt w (.bool (V == C))) := by
 obtain ⟨w0, HW, ai, kC⟩ := qF (bq P Q G) gq (jw Y yn yc B bn bc) wI (eG A na ca C Z nz cz) p8 w
 have kV := mkV ai hv
 have kY := mkS ai hY
 have kB := gV (fun u => Rw u B rows) ai hB (·.below)
 have kA := mkS ai hA
 have kZ := mkS ai hZ
 have kD := r_ ai hd
 have ah := bS w0
 clear hv hY hB hA hZ hd
 go_in
 go_wp2_with fail
 rw [HW.out]
 have zc := kC.out _ ah
 go_wp2_with fail
 clear zc
 refine eB kC ah (yT P Q G Y ys yn yc B rows bn bc A al na ca C Z zs nz cz hyn hbn eX hzn hna hnz hQ true HC _ (kV.out _ ah) (kY.out _ ah) (kB.out _ ah) (kA.out _ ah) (kZ.out _ ah)) fun w1 aD zc => ?_
 go_wp2_with fail
 clear zc
 refine eB kC aD (LH P Q G Y ys yn yc B rows bn bc A al na ca s hs hr hyn hbn eX D8 Ls Lp Lt Lr QG QF V HV _ (kD.out _ aD) (kY.out _ aD) (kB.out _ aD) (kA.out _ aD)) fun w2 aN zc => ?_
 go_wp2
 go_ret
 exact ⟨rfl, fe ai aN⟩
theorem LD (P Q G : Int) (Y : Option Addr) (ys : List Int) (yn yc : Nat) (B : Option Addr) (rows : List Row) (bn bc : Nat) (A : Option Addr) (al : List Int) (na ca : Nat) (C : Int) (Z : Option Addr) (zs : List Int) (nz cz : Nat) (hyn : Hid (ys.length = yn)) (hbn : Hid (rows.length = bn)) (eX : Hid (al.length = na)) (hzn : Hid (zs.length = nz)) (hna : na < 1000000) (hnz : nz < 1000000) (hQ : Q < 9223372036854775808) (s : ByteArray) (hs : s.size ≤ 1000) (r : Bool) (hr : Kp (vD P Q G C (aU s) ys rows al zs = r)) (w : World) (hv : Hid (Vars w)) (hd : Hid (bF w)) (hY : Hid (Sl w Y ys)) (hB : Hid (Rw w B rows)) (hA : Hid (Sl w A al)) (hZ : Hid (Sl w Z zs)) :
  Calls Tryz.prog 201 #[gv P Q G, gQ Y yn yc B bn bc, .string s, iL A na ca C Z nz cz] w (Rt w (.bool r)) := by
 cases hc : qY P Q G C ys rows al zs with
 | false =>
  obtain rfl : r = false := by rw [← hr.1, vD, hc]; rfl
  exact Sq P Q G Y ys yn yc B rows bn bc A al na ca C Z zs nz cz hyn hbn eX hzn hna hnz hQ s hs (aa hc) w hv hd hY hB hA hZ
 | true =>
  have hcc := hc
  simp only [qY, Bool.and_eq_true] at hcc
  obtain ⟨hg, hcb⟩ := hcc
  obtain ⟨v1, v2, v3, v4, v5, v6, v7, v8⟩ := bJ hg
  obtain ⟨p1, p2, p3, p4⟩ := bH v1
  obtain ⟨Ls, Lp, Lr⟩ := CQ hg hB.out
  have D8 : bn ≤ 900 := by rw [← hbn.out]; omega
  have Lt : sV al := by rw [← (pW hcb).2.2.2.2]; exact Db p1 p2 (by omega)
  cases hlb : gI (aU s) with
  | false =>
   obtain rfl : r = false := by rw [← hr.1, vD, hlb, Bool.false_and, Bool.and_false]
   exact Sn P Q G Y ys yn yc B rows bn bc A al na ca C Z zs nz cz hyn hbn eX hzn hna hnz hQ s hs (aa hc) (aa hlb) D8 w hv hd hY hB hA hZ
  | true =>
   obtain ⟨V, hV⟩ : ∃ V, zb P Q G (aU s) ys rows al = V := ⟨_, rfl⟩
   obtain rfl : (V == C) = r := by rw [← hr.1, vD, hc, hlb, hV]; rfl
   exact Sm P Q G Y ys yn yc B rows bn bc A al na ca C Z zs nz cz hyn hbn eX hzn hna hnz hQ s hs (aa hc) (aa hlb) D8 (aa Ls) (aa Lp) (aa Lt) (aa Lr) (by omega) (by omega) V ⟨hV⟩ w hv hd hY hB hA hZ
theorem BB {s : ByteArray} (h : gI (aU s) = true) : 1 ≤ s.size := by
 rw [gI, bz] at h
 simp at h
 exact h.1.1
theorem Ga {h : List Int} (hl : h.length = 32) (hb : az h = true) {s : ByteArray} (hs0 : 1 ≤ s.size) (hs : s.size ≤ 1000) {item : It} (hf : fits 7 item) : fits 8 (.lst [.byt h, .byt (aU s), item]) := by
 refine ⟨by simp, fun x hx => ?_⟩
 rcases (by simpa using hx : x = .byt h ∨ x = .byt (aU s) ∨ x = item) with rfl | rfl | rfl
 · exact ⟨⟨by rw [hl]; decide, by rw [hl]; decide⟩, hb⟩
 · exact ⟨⟨by rw [bz]; omega, by rw [bz]; omega⟩, iM s⟩
 · exact hf
theorem Ea {h : List Int} (hl : h.length = 32) (hb : az h = true) {s : ByteArray} (hs0 : 1 ≤ s.size) (hs : s.size ≤ 1000) : fits 8 (.lst [.byt h, .byt (aU s)]) := by
 refine ⟨by simp, fun x hx => ?_⟩
 rcases (by simpa using hx : x = .byt h ∨ x = .byt (aU s)) with rfl | rfl
 · exact ⟨⟨by rw [hl]; decide, by rw [hl]; decide⟩, hb⟩
 · exact ⟨⟨by rw [bz]; omega, by rw [bz]; omega⟩, iM s⟩
theorem JA {h : List Int} (hl : h.length = 32) {s : ByteArray} (hs : s.size ≤ 1000) {item : It} (hle : (enc item).length ≤ 14000) : (enc (.lst [.byt h, .byt (aU s), item])).length ≤ 16384 := by
 rw [eH]
 simp only [eZ, h_, List.length_cons, List.length_append, dV, hl, bz, List.length_nil]
 omega
theorem F_ {h : List Int} (hl : h.length = 32) {s : ByteArray} (hs : s.size ≤ 1000) : (enc (.lst [.byt h, .byt (aU s)])).length ≤ 16384 := by
 rw [eH]
 simp only [eZ, h_, List.length_cons, List.length_append, dV, hl, bz, List.length_nil]
 omega
theorem A9 {P : Program} {S : World → Prop} {o : Oper} {a : Act} (t : TypeId) (l : List (Nat × Operand)) (ho : o.op = .build t l.toArray) (cells : Array Value)
  (hf : P.built t (l.map fun x => (x.1, a.eval x.2)) = some cells) : ∀ w, S w → (execOp a.eval o).run P w = .ok (.value (.agg cells)) w := by
 intro w _
 have e : (l.toArray.map fun (x : Nat × Operand) => (x.1, a.eval x.2)).toList = l.map fun x => (x.1, a.eval x.2) := by simp
 unfold execOp
 simp only [ho]
 have h := run_build w t (l.toArray.map fun (x : Nat × Operand) => (x.1, a.eval x.2)) cells (by rw [e]; exact hf)
 simp only [Sem.run_bind, h, Result.andThen_ok, Sem.run_pure]
theorem yI (h : List Int) (hl : Hid (h.length = 32)) (hb : Hid (az h = true)) (c : Int) (hc0 : 0 ≤ c) (hc1 : c < 1000) (s : ByteArray) (hs : s.size ≤ 1000) (hr : Hid (gI (aU s) = true)) (item : It) (cI : Ic) (w : World) (hI : Hid (nO w item cI)) (hfi : Hid (fits 7 item)) (hle : Hid ((enc item).length ≤ 14000)) :
  Calls Tryz.prog 248 #[.agg (di h c), .string s, .agg #[.int .i64 cI.kind, .int .i64 cI.n, .slice cI.B cI.nb cI.cb, .slice cI.L cI.nl cI.cl]] w (Rt w (xR (EC h (aU s) item) (c + 1) 0)) := by
 have hs0 : 1 ≤ s.size := BB hr.out
 obtain ⟨W, hW⟩ : ∃ W, ((w.alloc (.cells (di h c) 237)).alloc (.cells #[.int .i64 cI.kind, .int .i64 cI.n, .slice cI.B cI.nb cI.cb, .slice cI.L cI.nl cI.cl] 117)).alloc (.cells #[.int .u8 0, .int .u8 0, .int .u8 0, .int .u8 0, .int .u8 0, .int .u8 0, .int .u8 0, .int .u8 0, .int .u8 0, .int .u8 0, .int .u8 0, .int .u8 0, .int .u8 0, .int .u8 0, .int .u8 0, .int .u8 0, .int .u8 0, .int .u8 0, .int .u8 0, .int .u8 0, .int .u8 0, .int .u8 0, .int .u8 0, .int .u8 0, .int .u8 0, .int .u8 0, .int .u8 0, .int .u8 0, .int .u8 0, .int .u8 0, .int .u8 0, .int .u8 0, .int .i64 0] 237) = W := ⟨_, rfl⟩
 have bQ : Hid (Below w.heap.size w W) := aa (by rw [← hW]; exact ag (aI (Below.refl _ _)) (af _ _))
 have HT0 : Hid (dK W w.heap.size h c) := aa (by rw [← hW]; exact ((dK.new _ _ _).below (af _ _)).below (af _ _))
 have XR : Hid (W.heap[w.heap.size + 1]? = some (.cells #[.int .i64 cI.kind, .int .i64 cI.n, .slice cI.B cI.nb cI.cb, .slice cI.L cI.nl cI.cl] 117 (0, 0))) := aa (by rw [← hW, ← (show (w.alloc (.cells (di h c) 237)).heap.size = w.heap.size + 1 by simp)]; exact heap_alloc2_old _ _ _)
 have ek : Hid (dK W (w.heap.size + 1 + 1) (dD 32) 0) := aa (by rw [← hW, II, show w.heap.size + 1 + 1 = (w.alloc (.cells (di h c) 237)).heap.size + 1 by simp]; exact heap_alloc2_new _ _ _)
 have lG : Hid (W.heap.size = w.heap.size + 3) := aa (by rw [← hW]; simp)
 have XN := aa (hI.out.kept bQ.out)
 have UF : Hid (Four W (w.heap.size + 1) 0 cI) := aa (pR XR.out)
 have HW := aa hW
 clear hW
 go_in
 go_upto_region 1 with (fail)
 rw [HW.out]
 clear HW
 go_wp2_with ((with_reducible show wpList _ _ _ (⟨some 10, _, _, _, _, _⟩ :: _) _ _); refine wpList_load_row rfl 237 _ rfl w.heap.size rfl _ _ _ _ HT0.out Tryz.underlying237 rfl (aO hl.out) ?_)
 refine (vV h hl c hc0 (by omega) _).mono ?_
 rintro e w1 ⟨rfl, hb1⟩
 have HB1 := aa (ag bQ.out hb1)
 have HT1 := aa (HT0.out.below hb1)
 have HI1 := aa (XN.out.kept hb1)
 have HR1 := aa (ek.out.below hb1)
 have HF1 := aa (UF.out.below hb1)
 clear hb1 HT0 XN ek XR bQ UF
 go_wp2_with fail
 refine (pE s hs true hr _).mono ?_
 rintro e w2 ⟨rfl, rfl⟩
 obtain ⟨f0, f1, f2, f3⟩ := HF1.out
 go_wp2_with ((with_reducible show wpList _ _ _ (⟨some 19, _, _, _, _, _⟩ :: _) _ _); refine wpList_load_row rfl 237 _ rfl w.heap.size rfl _ _ _ _ HT1.out Tryz.underlying237 rfl (aO hl.out) ?_)
 clear f0 f1 f2 f3
 obtain ⟨W3, hW3⟩ : ∃ u, w1.alloc (.cells #[.int .i64 cI.kind, .int .i64 cI.n, .slice cI.B cI.nb cI.cb, .slice cI.L cI.nl cI.cl] 117) = u := ⟨_, rfl⟩
 have XY : Hid (Four W3 w1.heap.size 0 cI) := aa (by rw [← hW3]; exact pR (heap_alloc_new _ _))
 have hb3 : Below w1.heap.size w1 W3 := by rw [← hW3]; exact af _ _
 rw [hW3]
 have HI3 := aa (HI1.out.kept hb3)
 refine (OI h hl hb c s hs0 hs item cI w1.heap.size 1 W3 XY HI3).mono ?_
 rintro e w4 ⟨cf, rfl, hcf, hb4⟩
 have JN := aa ((HT1.out.below hb3).below hb4)
 have HR4 := aa ((HR1.out.below hb3).below hb4)
 have jF := aa (ag (ag HB1.out hb3) hb4)
 have HC4 := aa hcf
 rw [show cf.val = .agg cf.cs from rfl]
 clear hb3 hb4 hW3 XY HI3 HT1 HR1 HB1 HF1 HI1 hcf
 go_upto_region 4 with ((with_reducible show wpList _ _ _ (⟨none, _, _, _, _, _⟩ :: _) _ _); refine wpList_store_row rfl 117 _ _ rfl w4.heap.size cf.cs rfl rfl _ _ (heap_alloc_new _ _) (b_ _) rfl (je _) ?_)
 rw [World.setRow_alloc_new]
 try simp only [Act.put]
 have JP : Hid ((w4.alloc (.cells cf.cs 117)).heap[w4.heap.size]? = some (.cells cf.cs 117 (0, 0))) := aa (heap_alloc_new _ _)
 have NR := aa (JN.out.below (af w4 (.cells cf.cs 117)))
 have tO := aa (HR4.out.below (af w4 (.cells cf.cs 117)))
 have l8 := aa (ag jF.out (af w4 (.cells cf.cs 117)))
 have Qj := aa (HC4.out.kept (af w4 (.cells cf.cs 117)))
 have YC : Hid (w4.heap.size < (w4.alloc (.cells cf.cs 117)).heap.size) := aa (by simp)
 obtain ⟨W5, Mt⟩ : ∃ u, w4.alloc (.cells cf.cs 117) = u := ⟨_, rfl⟩
 rw [Mt] at JP NR tO l8 Qj YC ⊢
 clear Mt JN HR4 jF HC4
 obtain ⟨bt, hbt⟩ : ∃ b, w4.heap.size = b := ⟨_, rfl⟩
 rw [hbt] at JP YC ⊢
 clear hbt
 go_wp2_with ((with_reducible show wpList _ _ _ (⟨some 24, _, _, _, _, _⟩ :: _) _ _); refine wpList_load_row rfl 117 _ rfl bt rfl _ _ _ _ JP.out Tryz.underlying117 rfl (b_ _) ?_)
 have jC : Hid (fits 8 (.lst [.byt h, .byt (aU s), item])) := aa (Ga hl.out hb.out hs0 hs hfi.out)
 have HLEN : Hid ((enc (.lst [.byt h, .byt (aU s), item])).length ≤ 16384) := aa (JA hl.out hs hle.out)
 rw [show (Value.agg cf.cs) = cf.val from rfl]
 refine (Bg _ cf _ jC.out Qj.out).mono ?_
 rintro e w6 ⟨rfl, hb6⟩
 have zP := aa (NR.out.below hb6)
 have Ny := aa (tO.out.below hb6)
 have sN := aa (ag l8.out hb6)
 have HC6 := aa (Qj.out.kept hb6)
 have YN := aa ((hb6.block _ YC.out).trans JP.out)
 clear hb6 NR tO l8 Qj JP YC
 rw [show cf.val = .agg cf.cs from rfl]
 go_wp2_with ((with_reducible show wpList _ _ _ (⟨some 28, _, _, _, _, _⟩ :: _) _ _); refine wpList_load_row rfl 117 _ rfl bt rfl _ _ _ _ YN.out Tryz.underlying117 rfl (b_ _) ?_)
 rw [show (Value.agg cf.cs) = cf.val from rfl]
 refine (uz 8 _ cf _ jC.out HC6.out HLEN.out).mono ?_
 rintro e w7 ⟨v7, rfl, Zr, Cw⟩
 obtain ⟨E, hE⟩ : ∃ E, enc (.lst [.byt h, .byt (aU s), item]) = E := ⟨_, rfl⟩
 have JR : Hid (az E = true) := aa (by rw [← hE]; exact jO jC.out)
 have vC : Hid (0 < E.length ∧ E.length ≤ 16384) := aa (by rw [← hE]; exact ⟨nD _, HLEN.out⟩)
 rw [hE] at Zr
 obtain ⟨g7, Gq, e7, hg7, -, -, V4⟩ := Zr.cells vC.out.1
 obtain ⟨n7, Zt⟩ : ∃ n, E.length = n := ⟨_, rfl⟩
 rw [Zt] at e7 vC
 subst e7
 have HN7 := aa Zt
 have Xv := aa V4
 have Xf := aa (zP.out.below Cw)
 have Uj := aa (Ny.out.below Cw)
 have zT := aa (ag sN.out Cw)
 have GG : Kp (enc (.lst [.byt h, .byt (aU s), item]) = E) := ⟨hE⟩
 clear hE V4 Zr Cw Zt jC HLEN zP Ny sN HC6 YN
 rw [show cf.val = .agg cf.cs from rfl]
 obtain ⟨he0, he1⟩ := vC.out
 have hcn : ¬ (c = 1000) := by omega
 have hwr : IntKind.i64.wrap (c + 1) = c + 1 := IntWalk.i64_in _ (by omega)
 have hnb : decide ((16384 : Int) < (n7 : Int)) = false := by simp; omega
 have hcnt := Xf.out.count hl.out
 go_wp2_with fail
 clear hcnt
 refine bD (S := fun w' => w'.cell? ⟨w.heap.size, 32, none⟩ = some (.int .i64 c)) (E := [6, 7]) (by kernel_rfl) (((Xf.out.below (Below.refl _ _).drew)).count hl.out) (fun hHeld => ?_)
 refine bN 0 ?_
 refine bN 2 ?_
 refine bN 3 ?_
 refine bN 4 ?_
 refine bW 1 fun K hK => ?_
 go_simp
 refine (kg C8 (by decide) (by decide) g7 0 Gq E n7 HN7 he0 (by omega) JR _ (aa (Xv.out.below (Below.refl _ _).drew))).mono ?_
 rintro e w8 ⟨rfl, ZM⟩
 have NT := aa ((Uj.out.below (Below.refl _ _).drew).below ZM)
 have HT8 := aa ((Xf.out.below (Below.refl _ _).drew).below ZM)
 have zw := aa (ag (ag zT.out (Below.refl _ _).drew) ZM)
 obtain ⟨R, hR⟩ : ∃ R, tagged (aU C8) E = R := ⟨_, rfl⟩
 have hRl : R.length = 32 := by rw [← hR]; exact dF _ _
 have NU : Kp (EC h (aU s) item = R) := ⟨by rw [EC, GG.1]; exact hR⟩
 have fo := aa hRl
 rw [hR]
 clear hR hRl
 refine hK.out _ _ ?_ (fun hHeld => ?_)
 · exact HT8.out.count hl.out
 clear hK K
 try simp only [qq]
 refine Bc 5 (.agg (di R (c + 1))) rfl (A9 237 _ rfl _ (Nb R fo.out (c + 1))) ?_
 refine mR 6 fun K hK => ?_
 rw [show (if Region.wanted _ _ = true then _ else _ : Prop) = _ from if_pos rfl]
 refine wp_store_row 237 _ _ rfl (w.heap.size + 1 + 1) (di R (c + 1)) rfl rfl 237 _ NT.out (aO fo.out) (fq rfl fo.out) (dS _ _) ?_
 refine hK.out _ _ ?_
 clear hK K
 try simp only [qq]
 refine mR 7 fun K hK => ?_
 go_simp
 refine hK.out _ _ ?_
 clear hK K
 try simp only [qq]
 refine gz ?_
 have HRR : Hid (dK (w8.setRow (w.heap.size + 1 + 1) (di R (c + 1))) (w.heap.size + 1 + 1) R (c + 1)) := aa NT.out.setRow
 have fA : Below w.heap.size w (w8.setRow (w.heap.size + 1 + 1) (di R (c + 1))) := aj zw.out (by omega)
 go_wp2
 exact bodyPost_ret (v := xR R (c + 1) 0) (cK (p := 6) (q := 7) (ty := 237) rfl _ _ ⟨w.heap.size + 1 + 1, 0, none⟩ _ _ rfl rfl (run_loadVar_row _ _ _ _ _ _ _ HRR.out Tryz.underlying237 rfl (aO fo.out))) rfl ⟨by rw [NU.1], fA⟩
theorem K8 (h : List Int) (hl : Hid (h.length = 32)) (hb : Hid (az h = true)) (c : Int) (hc0 : 0 ≤ c) (hc1 : c < 1000) (s : ByteArray) (hs : s.size ≤ 1000) (hr : Hid (gI (aU s) = true)) (A : Option Addr) (l : List Int) (n cA : Nat) (hn : Hid (l.length = n)) (hbig : n ≤ 1000) (w : World) (hS : Hid (Sl w A l)) (hfi : Hid (fits 7 (.lst (l.map .int)))) (hle : Hid ((enc (.lst (l.map .int))).length ≤ 14000)) :
  Calls Tryz.prog 230 #[.agg (di h c), .string s, .slice A n cA] w (Rt w (xR (EC h (aU s) (.lst (l.map .int))) (c + 1) 0)) := by
 obtain ⟨W, hW⟩ : ∃ W, (w.alloc (.cells (di h c) 237)).alloc (.cells #[.int .u8 0, .int .u8 0, .int .u8 0, .int .u8 0, .int .u8 0, .int .u8 0, .int .u8 0, .int .u8 0, .int .u8 0, .int .u8 0, .int .u8 0, .int .u8 0, .int .u8 0, .int .u8 0, .int .u8 0, .int .u8 0, .int .u8 0, .int .u8 0, .int .u8 0, .int .u8 0, .int .u8 0, .int .u8 0, .int .u8 0, .int .u8 0, .int .u8 0, .int .u8 0, .int .u8 0, .int .u8 0, .int .u8 0, .int .u8 0, .int .u8 0, .int .u8 0, .int .i64 0] 237) = W := ⟨_, rfl⟩
 have bQ : Hid (Below w.heap.size w W) := aa (by rw [← hW]; exact aI (Below.refl _ _))
 have HT0 : Hid (dK W w.heap.size h c) := aa (by rw [← hW]; exact heap_alloc2_old _ _ _)
 have ek : Hid (dK W (w.heap.size + 1) (dD 32) 0) := aa (by rw [← hW, II]; exact heap_alloc2_new _ _ _)
 have Uc := aa (hS.out.below bQ.out)
 have HW := aa hW
 clear hW
 go_in
 go_upto_region 1 with (fail)
 rw [HW.out]
 clear HW
 have nW := aa ((Below.refl W.heap.size W).drew)
 have zO := aa (HT0.out.below nW.out)
 have Xw := aa (ek.out.below nW.out)
 have Xk := aa (Uc.out.below nW.out)
 have HB3 := aa (ag bQ.out nW.out)
 obtain ⟨Wd, hWd⟩ : ∃ u, W.drew = u := ⟨_, rfl⟩
 refine bD (S := fun w' => w'.heap[w.heap.size]? = some (.cells (di h c) 237 (0, 0))) (E := [7, 8]) (by kernel_rfl) (zO.out) (fun hHeld => ?_)
 refine Bc 0 (.agg (di h c)) rfl (fI 237 _ rfl w.heap.size rfl _ _ _ _ (fun _ h => h) Tryz.underlying237 rfl (aO hl.out)) ?_
 refine bN 1 ?_
 refine bN 2 ?_
 refine bW 3 fun K hK => ?_
 go_simp
 try rw [hWd]
 rw [hWd] at nW zO Xw Xk HB3
 refine (I5 A l n cA hn (by omega) _ Xk).mono ?_
 rintro e w4 ⟨cI, rfl, Pz, hb4⟩
 refine hK.out _ _ ?_ (fun hHeld => ?_)
 · exact zO.out.below hb4
 clear hK K
 try simp only [qq]
 refine bW 4 fun K hK => ?_
 go_simp
 rw [show cI.val = (.agg #[.int .i64 cI.kind, .int .i64 cI.n, .slice cI.B cI.nb cI.cb, .slice cI.L cI.nl cI.cl] : Value) from rfl]
 refine (yI h hl hb c hc0 hc1 s hs hr _ cI _ (aa Pz) hfi hle).mono ?_
 rintro e w5 ⟨rfl, hb5⟩
 have tO := aa ((Xw.out.below hb4).below hb5)
 have l8 := aa (ag (ag HB3.out hb4) hb5)
 obtain ⟨R, hR⟩ : ∃ R, EC h (aU s) (.lst (l.map .int)) = R := ⟨_, rfl⟩
 have hRl : R.length = 32 := by rw [← hR]; exact nG _ _ _
 have HN : Kp (EC h (aU s) (.lst (l.map .int)) = R) := ⟨hR⟩
 have fo := aa hRl
 rw [hR, show xR R (c + 1) 0 = .tuple #[.agg (di R (c + 1)), .int .i64 0] from rfl]
 refine hK.out _ _ ?_ (fun hHeld => ?_)
 · exact (zO.out.below hb4).below hb5
 clear hK K
 try simp only [qq]
 refine bN 5 ?_
 refine bN 6 ?_
 refine mR 7 fun K hK => ?_
 rw [show (if Region.wanted _ _ = true then _ else _ : Prop) = _ from if_pos rfl]
 refine wp_store_row 237 _ _ rfl (w.heap.size + 1) (di R (c + 1)) rfl rfl 237 _ tO.out (aO fo.out) (fq rfl fo.out) (dS _ _) ?_
 refine hK.out _ _ ?_
 clear hK K
 try simp only [qq]
 refine mR 8 fun K hK => ?_
 go_simp
 refine hK.out _ _ ?_
 clear hK K
 try simp only [qq]
 refine gz ?_
 have HRR : Hid (dK (w5.setRow (w.heap.size + 1) (di R (c + 1))) (w.heap.size + 1) R (c + 1)) := aa tO.out.setRow
 have fA : Below w.heap.size w (w5.setRow (w.heap.size + 1) (di R (c + 1))) := aj l8.out (by omega)
 clear hR hRl hb4 hb5 Pz l8 tO hWd
 go_wp2
 exact bodyPost_ret (v := xR R (c + 1) 0) (cK (p := 6) (q := 7) (ty := 237) rfl _ _ ⟨w.heap.size + 1, 0, none⟩ _ _ rfl rfl (run_loadVar_row _ _ _ _ _ _ _ HRR.out Tryz.underlying237 rfl (aO fo.out))) rfl ⟨by rw [HN.out], fA⟩
theorem Ld (h : List Int) (hl : Hid (h.length = 32)) (hb : Hid (az h = true)) (c : Int) (hc0 : 0 ≤ c) (hc1 : c < 1000) (s : ByteArray) (hs : s.size ≤ 1000) (hr : Hid (gI (aU s) = true)) (q : Int) (hq1 : 2 ≤ q) (hq2 : q < 2305843009213693952) (w : World) :
  Calls Tryz.prog 231 #[.agg (di h c), .string s, .int .i64 q] w (Rt w (U_ (QS q h (aU s)) (c + 1) (AO q h (aU s)) 0)) := by
 have hs0 : 1 ≤ s.size := BB hr.out
 obtain ⟨W, hW⟩ : ∃ W, (w.alloc (.cells (di h c) 237)).alloc (.cells #[.int .u8 0, .int .u8 0, .int .u8 0, .int .u8 0, .int .u8 0, .int .u8 0, .int .u8 0, .int .u8 0, .int .u8 0, .int .u8 0, .int .u8 0, .int .u8 0, .int .u8 0, .int .u8 0, .int .u8 0, .int .u8 0, .int .u8 0, .int .u8 0, .int .u8 0, .int .u8 0, .int .u8 0, .int .u8 0, .int .u8 0, .int .u8 0, .int .u8 0, .int .u8 0, .int .u8 0, .int .u8 0, .int .u8 0, .int .u8 0, .int .u8 0, .int .u8 0, .int .i64 0] 237) = W := ⟨_, rfl⟩
 have bQ : Hid (Below w.heap.size w W) := aa (by rw [← hW]; exact aI (Below.refl _ _))
 have HT0 : Hid (dK W w.heap.size h c) := aa (by rw [← hW]; exact heap_alloc2_old _ _ _)
 have ek : Hid (dK W (w.heap.size + 1) (dD 32) 0) := aa (by rw [← hW, II]; exact heap_alloc2_new _ _ _)
 have HW := aa hW
 have hcn : ¬ (c = 1000) := by omega
 have hqa : ¬ (q < 2) := by omega
 have hqb : ¬ (2305843009213693952 ≤ q) := by omega
 clear hW
 go_in
 go_upto_region 1 with (fail)
 rw [HW.out]
 clear HW
 go_wp2_with ((with_reducible show wpList _ _ _ (⟨some 12, _, _, _, _, _⟩ :: _) _ _); refine wpList_load_row rfl 237 _ rfl w.heap.size rfl _ _ _ _ HT0.out Tryz.underlying237 rfl (aO hl.out) ?_)
 refine (vV h hl c hc0 (by omega) _).mono ?_
 rintro e w1 ⟨rfl, hb1⟩
 have HB1 := aa (ag bQ.out hb1)
 have HT1 := aa (HT0.out.below hb1)
 have HR1 := aa (ek.out.below hb1)
 clear hb1 HT0 ek bQ
 go_wp2_with fail
 refine (pE s hs true hr _).mono ?_
 rintro e w2 ⟨rfl, rfl⟩
 have hcnt := HT1.out.count hl.out
 go_wp2_with ((with_reducible show wpList _ _ _ (⟨some 32, _, _, _, _, _⟩ :: _) _ _); refine wpList_load_row rfl 237 _ rfl w.heap.size rfl _ _ _ _ HT1.out Tryz.underlying237 rfl (aO hl.out) ?_)
 clear hcnt
 refine (OJ h hl hb c s hs0 hs _).mono ?_
 rintro e w2 ⟨cf, rfl, hcf, hb2⟩
 have jC : Hid (fits 8 (.lst [.byt h, .byt (aU s)])) := aa (Ea hl.out hb.out hs0 hs)
 have HLEN : Hid ((enc (.lst [.byt h, .byt (aU s)])).length ≤ 16384) := aa (F_ hl.out hs)
 have HT2 := aa (HT1.out.below hb2)
 have HR2 := aa (HR1.out.below hb2)
 have HB2 := aa (ag HB1.out hb2)
 have A8 := aa hcf
 rw [show cf.val = .agg cf.cs from rfl]
 clear hb2 HT1 HR1 HB1 hcf
 go_wp2_with fail
 rw [show (Value.agg cf.cs) = cf.val from rfl]
 refine (uz 8 _ cf _ jC.out A8.out HLEN.out).mono ?_
 rintro e w3 ⟨v3, rfl, ho3, hb3⟩
 obtain ⟨E, hE⟩ : ∃ E, enc (.lst [.byt h, .byt (aU s)]) = E := ⟨_, rfl⟩
 have JR : Hid (az E = true) := aa (by rw [← hE]; exact jO jC.out)
 have vC : Hid (0 < E.length ∧ E.length ≤ 16384) := aa (by rw [← hE]; exact ⟨nD _, HLEN.out⟩)
 rw [hE] at ho3
 obtain ⟨g3, mV, e3, hg3, -, -, Po⟩ := ho3.cells vC.out.1
 obtain ⟨n3, Zv⟩ : ∃ n, E.length = n := ⟨_, rfl⟩
 rw [Zv] at e3 vC
 subst e3
 have HN3 := aa Zv
 have Qd := aa Po
 have HT3 := aa (HT2.out.below hb3)
 have HR3 := aa (HR2.out.below hb3)
 have HB3 := aa (ag HB2.out hb3)
 have GG : Kp (enc (.lst [.byt h, .byt (aU s)]) = E) := ⟨hE⟩
 clear hE Po ho3 hb3 Zv jC HLEN HT2 HR2 HB2 A8
 rw [show cf.val = .agg cf.cs from rfl]
 obtain ⟨he0, he1⟩ := vC.out
 go_wp2_with fail
 refine (kg CZ (by decide) (by decide) g3 0 mV E n3 HN3 he0 (by omega) JR _ Qd).mono ?_
 rintro e w4 ⟨rfl, hb4⟩
 have JN := aa (HT3.out.below hb4)
 have HR4 := aa (HR3.out.below hb4)
 have jF := aa (ag HB3.out hb4)
 obtain ⟨R, hR⟩ : ∃ R, tagged (aU CZ) E = R := ⟨_, rfl⟩
 have hRl : R.length = 32 := by rw [← hR]; exact dF _ _
 have Ip : Hid (az R = true) := aa (by rw [← hR]; exact iJ _)
 have HN : Kp (WL h (aU s) = R) := ⟨by rw [WL, GG.1]; exact hR⟩
 have fo := aa hRl
 rw [hR]
 clear hb4 hR hRl HT3 HR3 HB3
 go_wp2_with fail
 refine (Di R fo Ip q (by omega) hq2 _).mono ?_
 rintro e w6 ⟨rfl, hb6⟩
 have zP := aa (JN.out.below hb6)
 have Ny := aa (HR4.out.below hb6)
 have sN := aa (ag jF.out hb6)
 obtain ⟨n, hn⟩ : ∃ n, FH q R = n := ⟨_, rfl⟩
 have hn0 : 0 ≤ n ∧ n < q := by rw [← hn]; exact xE (by omega) 16
 obtain ⟨hn1, hn2⟩ := hn0
 have NU : Kp (AO q h (aU s) = n) := ⟨by rw [AO, HN.1]; exact hn⟩
 rw [hn]
 clear hb6 hn JN HR4 jF
 go_wp2_with ((with_reducible show wpList _ _ _ (⟨some 40, _, _, _, _, _⟩ :: _) _ _); refine wpList_load_row rfl 237 _ rfl w.heap.size rfl _ _ _ _ zP.out Tryz.underlying237 rfl (aO hl.out) ?_)
 refine (yI h hl hb c hc0 hc1 s hs hr (.int n) ⟨1, n, none, 0, 0, none, 0, 0⟩ _ (aa (.int n _ rfl rfl rfl rfl)) (aa ⟨by omega, by omega⟩) (aa (by rw [lS, List.length_cons, fH]; decide))).mono ?_
 rintro e w7 ⟨rfl, Cw⟩
 have Uj := aa (Ny.out.below Cw)
 have zT := aa (ag sN.out Cw)
 obtain ⟨G, hG⟩ : ∃ G, EC h (aU s) (.int n) = G := ⟨_, rfl⟩
 have JQ : Hid (G.length = 32) := aa (by rw [← hG]; exact nG _ _ _)
 have HNG : Kp (QS q h (aU s) = G) := ⟨by rw [QS, NU.1]; exact hG⟩
 rw [hG, show xR G (c + 1) 0 = .tuple #[.agg (di G (c + 1)), .int .i64 0] from rfl]
 clear Cw hG Ny sN zP
 go_upto_region 9 with ((with_reducible show wpList _ _ _ (⟨none, _, _, _, _, _⟩ :: _) _ _); refine wpList_store_row rfl 237 _ _ rfl w7.heap.size (di G (c + 1)) rfl rfl _ _ (heap_alloc_new _ _) (aO JQ.out) (fq (h := dD 32) (c := 0) rfl JQ.out) (dS _ _) ?_)
 rw [World.setRow_alloc_new]
 try simp only [Act.put]
 have XL : Hid (dK (w7.alloc (.cells (di G (c + 1)) 237)) w7.heap.size G (c + 1)) := aa (dK.new _ _ _)
 have NT := aa (Uj.out.below (af w7 (.cells (di G (c + 1)) 237)))
 have zw := aa (ag zT.out (af w7 (.cells (di G (c + 1)) 237)))
 obtain ⟨W8, QE⟩ : ∃ u, w7.alloc (.cells (di G (c + 1)) 237) = u := ⟨_, rfl⟩
 rw [QE] at XL NT zw ⊢
 clear QE Uj zT
 go_wp2_with (first
  | ((with_reducible show wpList _ _ _ (⟨some 47, _, _, _, _, _⟩ :: _) _ _); refine wpList_load_row rfl 237 _ rfl w7.heap.size rfl _ _ _ _ XL.out Tryz.underlying237 rfl (aO JQ.out) ?_)
  | ((with_reducible show wpList _ _ _ (⟨none, _, _, _, _, _⟩ :: _) _ _); refine wpList_store_row rfl 237 _ _ rfl (w.heap.size + 1) (di G (c + 1)) rfl rfl _ _ NT.out (aO JQ.out) (fq rfl JQ.out) (dS _ _) ?_))
 have HRR : Hid (dK (W8.setRow (w.heap.size + 1) (di G (c + 1))) (w.heap.size + 1) G (c + 1)) := aa NT.out.setRow
 have fA : Below w.heap.size w (W8.setRow (w.heap.size + 1) (di G (c + 1))) := aj zw.out (by omega)
 exact bodyPost_ret (v := U_ G (c + 1) n 0) (g_ (p := 6) (q := 7) (r := 8) (ty := 237) rfl _ _ ⟨w.heap.size + 1, 0, none⟩ _ _ _ rfl rfl rfl (run_loadVar_row _ _ _ _ _ _ _ HRR.out Tryz.underlying237 rfl (aO JQ.out))) rfl ⟨by rw [HNG.out, NU.out], fA⟩
def Xa (W : World) (a : Nat) (h : List Int) (c : Int) (u : World) : Prop := dK u a h c ∧ Below W.heap.size W u
theorem Xa.step {W : World} {a : Nat} {h h' : List Int} {c c' : Int} {u u' : World} (hI : Xa W a h c u) (hb : Below u.heap.size u u') (hWa : W.heap.size ≤ a) : Xa W a h' c' (u'.setRow a (di h' c')) :=
 ⟨(hI.1.below hb).setRow, aj (ag hI.2 hb) hWa⟩
theorem uu (W : World) (a : Nat) (h : List Int) (hst : Hid (rX h)) (c : Int) (hc0 : 0 ≤ c) (hc1 : c < 1000) (s : ByteArray) (hs : s.size ≤ 1000) (hr : Hid (gI (aU s) = true)) (A : Option Addr) (l : List Int) (n cA : Nat) (hn : Hid (l.length = n)) (hok : Hid (sV l)) (u : World) (hS : Hid (Sl u A l)) :
  Calls Tryz.prog 230 #[.agg (di h c), .string s, .slice A n cA] u fun e u' => e = .returned (xR (iB h (aU s) l) (c + 1) 0) ∧ Below u.heap.size u u' :=
 K8 h (aa hst.out.1) (aa hst.out.2) c hc0 hc1 s hs hr A l n cA hn (by rw [← hn.out]; exact hok.out.1) u hS hok.out.fits hok.out.len
theorem Fp (P Q G : Int) (Y : Option Addr) (ys : List Int) (yn yc : Nat) (B : Option Addr) (rows : List Row) (bn bc : Nat) (A : Option Addr) (al : List Int) (na ca : Nat) (s : ByteArray) (hs : s.size ≤ 1000) (hr : Hid (gI (aU s) = true))
  (hyn : Hid (ys.length = yn)) (hbn : Hid (rows.length = bn)) (hna : Hid (al.length = na)) (D8 : bn ≤ 900) (Ls : Hid (sV [P, Q, G])) (Lp : Hid (sV ys)) (Lt : Hid (sV al)) (Lr : Hid (∀ k, k < rows.length → sV (rows.getD k dh).xs))
  (QG : 2 ≤ Q) (QF : Q < 2305843009213693952) (V : Int) (hV : Kp (zb P Q G (aU s) ys rows al = V)) (w : World) (hY : Hid (Sl w Y ys)) (hB : Hid (Rw w B rows)) (hA : Hid (Sl w A al)) :
  Calls Tryz.prog 207 #[gv P Q G, .agg #[.slice Y yn yc, .slice B bn bc], .string s, .slice A na ca] w (Rt w (.int .i64 V)) := by
 obtain ⟨W, hW⟩ : ∃ W, (w.alloc (bq P Q G)).alloc (.cells #[.slice Y yn yc, .slice B bn bc] 189) = W := ⟨_, rfl⟩
 have bQ : Hid (Below w.heap.size w W) := aa (by rw [← hW]; exact aI (Below.refl _ _))
 have UD : Hid (nS W w.heap.size P Q G) := aa (by rw [← hW]; exact (aW w P Q G).below (af _ _))
 have Ui : Hid (p_ W (w.heap.size + 1) (.slice Y yn yc) (.slice B bn bc)) := aa (by rw [← hW]; exact dN w _ _ _ _)
 have HYY := aa (hY.out.below bQ.out)
 have IE := aa (hB.out.below bQ.out)
 have HAA := aa (hA.out.below bQ.out)
 have HW := aa hW
 clear hW hY hB hA
 go_in
 go_upto_region 1 with (fail)
 rw [HW.out]
 clear HW
 go_wp2_with fail
 refine (KY s hs (BB hr.out) _).mono ?_
 rintro e w1 ⟨rfl, hb1⟩
 obtain ⟨S0, hS0⟩ : ∃ S, newL (aU s) = S := ⟨_, rfl⟩
 have Io : Hid (rX S0) := aa (by rw [← hS0]; exact Kw _)
 have qy : Kp (AO Q (iB (gZ (iB (iB S0 (aU lN) [P, Q, G]) (aU LJ) ys) rows) (aU dZ) al) (aU qp) = V) := ⟨by rw [← hS0]; exact hV.1⟩
 rw [hS0]
 have EX := aa Io.out.1
 have HB1 := aa hb1
 clear hb1 hS0 hV
 go_upto_region 2 with ((with_reducible show wpList _ _ _ (⟨none, _, _, _, _, _⟩ :: _) _ _); refine wpList_store_row rfl 237 _ _ rfl w1.heap.size (di S0 0) rfl rfl _ _ (heap_alloc_new _ _) (aO EX.out) (fq (h := dD 32) (c := 0) rfl EX.out) (dS _ _) ?_)
 rw [World.setRow_alloc_new]
 try simp only [Act.put]
 have hI2 : Xa W w1.heap.size S0 0 (w1.alloc (.cells (di S0 0) 237)) := ⟨dK.new _ _ _, ag HB1.out (af _ _)⟩
 obtain ⟨W2, hW2⟩ : ∃ u, w1.alloc (.cells (di S0 0) 237) = u := ⟨_, rfl⟩
 obtain ⟨a, ha⟩ : ∃ a, w1.heap.size = a := ⟨_, rfl⟩
 have hWa : W.heap.size ≤ a := by rw [← ha]; exact HB1.out.size
 rw [hW2] at hI2 ⊢
 rw [ha] at hI2 ⊢
 have HI2 := aa hI2
 clear hW2 hI2 ha HB1
 have HT2 := aa HI2.out.1
 obtain ⟨c0, c1, c2⟩ := UD.out.below HI2.out.2
 go_wp2_with ((with_reducible show wpList _ _ _ (⟨some 17, _, _, _, _, _⟩ :: _) _ _); refine wpList_load_row rfl 237 _ rfl a rfl _ _ _ _ HT2.out Tryz.underlying237 rfl (aO EX.out) ?_)
 refine (uu W a S0 Io 0 (by omega) (by omega) lN (by decide) DJ (some ⟨W2.heap.size, 0, none⟩) [P, Q, G] 3 3 (aa rfl) Ls _ (aa (gF (Ib W2 _ P Q G)))).mono ?_
 rintro e w3 ⟨rfl, hb3⟩
 obtain ⟨S1, hS1⟩ : ∃ S, iB S0 (aU lN) [P, Q, G] = S := ⟨_, rfl⟩
 have YI : Hid (rX S1) := aa (by rw [← hS1]; exact qE _ _ _)
 have ry : Kp (AO Q (iB (gZ (iB S1 (aU LJ) ys) rows) (aU dZ) al) (aU qp) = V) := ⟨by rw [← hS1]; exact qy.1⟩
 rw [hS1, show xR S1 (0 + 1) 0 = .tuple #[.agg (di S1 1), .int .i64 0] from rfl]
 have Ta := ag (af W2 (.cells #[.int .i64 P, .int .i64 Q, .int .i64 G] 3)) hb3
 have HT3 := aa (HI2.out.1.below Ta)
 have Ka := aa YI.out.1
 have HI3 := aa (HI2.out.step (h' := S1) (c' := 1) Ta hWa)
 clear hb3 Ta hS1 qy c0 c1 c2 HI2 HT2
 go_upto_region 3 with ((with_reducible show wpList _ _ _ (⟨none, _, _, _, _, _⟩ :: _) _ _); refine wpList_store_row rfl 237 _ _ rfl a (di S1 1) rfl rfl _ _ HT3.out (aO Ka.out) (fq EX.out Ka.out) (dS _ _) ?_)
 obtain ⟨W3, hW3⟩ : ∃ u, w3.setRow a (di S1 1) = u := ⟨_, rfl⟩
 rw [hW3] at HI3 ⊢
 clear hW3 HT3
 have HT3 := aa HI3.out.1
 obtain ⟨d0, d1⟩ := Ui.out.below HI3.out.2
 go_wp2_with ((with_reducible show wpList _ _ _ (⟨some 29, _, _, _, _, _⟩ :: _) _ _); refine wpList_load_row rfl 237 _ rfl a rfl _ _ _ _ HT3.out Tryz.underlying237 rfl (aO Ka.out) ?_)
 refine (uu W a S1 YI 1 (by omega) (by omega) LJ (by decide) VM Y ys yn yc hyn Lp _ (aa (HYY.out.below HI3.out.2))).mono ?_
 rintro e w4 ⟨rfl, hb4⟩
 obtain ⟨S2, hS2⟩ : ∃ S, iB S1 (aU LJ) ys = S := ⟨_, rfl⟩
 have HS2 : Hid (rX S2) := aa (by rw [← hS2]; exact qE _ _ _)
 have xq : Kp (AO Q (iB (gZ S2 rows) (aU dZ) al) (aU qp) = V) := ⟨by rw [← hS2]; exact ry.1⟩
 rw [hS2, show xR S2 (1 + 1) 0 = .tuple #[.agg (di S2 2), .int .i64 0] from rfl]
 have JN := aa (HI3.out.1.below hb4)
 have HL2 := aa HS2.out.1
 have HI4 := aa (HI3.out.step (h' := S2) (c' := 2) hb4 hWa)
 clear hb4 hS2 ry d0 d1 HI3 HT3
 go_upto_region 4 with ((with_reducible show wpList _ _ _ (⟨none, _, _, _, _, _⟩ :: _) _ _); refine wpList_store_row rfl 237 _ _ rfl a (di S2 2) rfl rfl _ _ JN.out (aO HL2.out) (fq Ka.out HL2.out) (dS _ _) ?_)
 obtain ⟨W4, hW4⟩ : ∃ u, w4.setRow a (di S2 2) = u := ⟨_, rfl⟩
 rw [hW4] at HI4 ⊢
 clear hW4 JN
 obtain ⟨S3, Tf⟩ : ∃ S, gZ S2 rows = S := ⟨_, rfl⟩
 have HR3 : Kp (gZ S2 (rows.drop 0) = S3) := ⟨Tf⟩
 have xm : Kp (AO Q (iB S3 (aU dZ) al) (aU qp) = V) := ⟨by rw [← Tf]; exact xq.1⟩
 clear Tf xq
 go_wp2_with fail
 go_loopw [10] (fun i u => ∃ (k : Nat) (S : List Int) (c : Int), k ≤ bn ∧ i = .int .i64 k ∧ Hid (c = 2 + (k : Int)) ∧ Hid (rX S) ∧ Kp (gZ S (rows.drop k) = S3) ∧ Hid (Xa W a S c u)) (fun i _ => bn - (intOf i).toNat)
 case atStart => exact ⟨0, S2, 2, by omega, rfl, aa (by simp), HS2, HR3, HI4⟩
 case round =>
  obtain ⟨k, S, c, hk, rfl, HC, HS, HR, HI⟩ := hrel
  have hcl : 0 ≤ c ∧ c < 1000 := by have := HC.out; omega
  obtain ⟨hcl0, V7⟩ := hcl
  obtain ⟨c2, hc2⟩ : ∃ x, c + 1 = x := ⟨_, rfl⟩
  have A8 : Hid (c + 1 = c2) := aa hc2
  clear hc2
  obtain ⟨d0, d1⟩ := Ui.out.below HI.out.2
  have HL := aa HS.out.1
  by_cases hlt : k < bn
  ·
   have hkl : k < rows.length := by rw [hbn.out]; exact hlt
   obtain ⟨⟨b, o, hA, hi0⟩, hok⟩ := IE.out.below HI.out.2 k hkl
   subst hA
   have Nw := Kp.mk ((wH (h := S) hkl).symm.trans HR.1)
   have nV := aa (Lr.out k hkl)
   obtain ⟨R, hR⟩ : ∃ R, rows.getD k dh = R := ⟨_, rfl⟩
   rw [hR] at hi0 hok Nw nV
   obtain ⟨p, rn, rc, xs⟩ := R
   have HXL := aa hok.1
   have HX := aa hok.2
   dsimp only [Row.val] at hi0 Nw nV
   have YE := aa HI.out.1
   clear hR hok hkl
   go_wp2_with fail
   have zO := aa (YE.out.below (Below.refl _ _).drew)
   have hS0 : wr.drew.heap[a]? = some (.cells (di S c) 237 (0, 0)) ∧ wr.drew.cell? ⟨w.heap.size + 1, 0, none⟩ = some (.slice Y yn yc) ∧ wr.drew.cell? ⟨w.heap.size + 1, 1, none⟩ = some (.slice (some ⟨b, o, none⟩) bn bc) ∧ wr.drew.cell? ⟨b, o + k, none⟩ = some (.slice p rn rc) := ⟨zO.out, d0, d1, hi0⟩
   refine bD (S := fun w' => w'.heap[a]? = some (.cells (di S c) 237 (0, 0)) ∧ w'.cell? ⟨w.heap.size + 1, 0, none⟩ = some (.slice Y yn yc) ∧ w'.cell? ⟨w.heap.size + 1, 1, none⟩ = some (.slice (some ⟨b, o, none⟩) bn bc) ∧ w'.cell? ⟨b, o + k, none⟩ = some (.slice p rn rc)) (E := [8, 9, 10]) (by kernel_rfl) (hS0) (fun hHeld => ?_)
   refine Bc 0 (.agg (di S c)) rfl (fI 237 _ rfl a rfl _ _ _ _ (fun _ h => h.1) Tryz.underlying237 rfl (aO HL.out)) ?_
   refine bN 1 ?_
   refine bN 2 ?_
   refine bN 3 ?_
   refine bN 4 ?_
   refine bN 5 ?_
   refine bW 6 fun K hK => ?_
   go_simp
   refine (uu W a S HS c hcl0 V7 ni (by decide) DK p xs rn rc HXL nV _ (aa (HX.out.below (Below.refl _ _).drew))).mono ?_
   rintro e w6 ⟨rfl, hb6⟩
   obtain ⟨S', hS'⟩ : ∃ S', iB S (aU ni) xs = S' := ⟨_, rfl⟩
   have U0 : Hid (rX S') := aa (by rw [← hS']; exact qE _ _ _)
   have HRR : Kp (gZ S' (rows.drop (k + 1)) = S3) := ⟨by rw [← hS']; exact Nw.1⟩
   rw [hS', A8.out, show xR S' c2 0 = .tuple #[.agg (di S' c2), .int .i64 0] from rfl]
   have U3 := aa U0.out.1
   have zP := aa (zO.out.below hb6)
   have HW6 : Hid (w6.cell? ⟨w.heap.size + 1, 0, none⟩ = some (.slice Y yn yc) ∧ w6.cell? ⟨w.heap.size + 1, 1, none⟩ = some (.slice (some ⟨b, o, none⟩) bn bc) ∧ w6.cell? ⟨b, o + k, none⟩ = some (.slice p rn rc)) := aa ⟨cell_below hS0.2.1 hb6, cell_below hS0.2.2.1 hb6, cell_below hS0.2.2.2 hb6⟩
   replace hb6 := ag ((Below.refl wr.heap.size wr).drew) hb6
   clear hS'
   refine hK.out _ _ ?_ (fun hHeld => ?_)
   · exact ⟨zP.out, HW6.out⟩
   clear hK K
   try simp only [qq]
   refine bN 7 ?_
   refine CL (i1 := 8) (i2 := 9) (by kernel_rfl) (by simp) (by simp) rfl rfl (fun K hK => ?_) (fun K hK => ?_)
   ·
    go_simp
    refine hK.out _ _ ?_
    clear hK K
    try simp only [qq]
    refine CL (i1 := 9) (i2 := 10) (by kernel_rfl) (by simp) (by simp) rfl rfl (fun K hK => ?_) (fun K hK => ?_)
    ·
     go_simp
     refine hK.out _ _ ?_
     clear hK K
     try simp only [qq]
     refine mR 10 fun K hK => ?_
     rw [show (if Region.wanted _ _ = true then _ else _ : Prop) = _ from if_pos rfl]
     refine wp_store_row 237 _ _ rfl a (di S' c2) rfl rfl 237 _ zP.out (aO U3.out) (fq HL.out U3.out) (dS _ _) ?_
     refine hK.out _ _ ?_
     clear hK K
     try simp only [qq]
     refine gz ?_
     have Cf := aa (HI.out.step (h' := S') (c' := c2) hb6 hWa)
     obtain ⟨W6, F3⟩ : ∃ u, w6.setRow a (di S' c2) = u := ⟨_, rfl⟩
     rw [F3] at Cf ⊢
     have X6 : Hid (c2 = 2 + ((k + 1 : Nat) : Int)) := aa (by have := HC.out; have := A8.out; omega)
     clear hb6 F3 hS0 hi0 d0 d1 zP Nw
     go_wp2
     go_roundw
     case rel => exact ⟨k + 1, S', c2, by omega, by go_num, X6, U0, HRR, Cf⟩
     case measure => simp [intOf]; omega
    ·
     rw [show (if Region.wanted _ _ = true then _ else _ : Prop) = _ from if_pos rfl]
     refine wp_store_row 237 _ _ rfl a (di S' c2) rfl rfl 237 _ zP.out (aO U3.out) (fq HL.out U3.out) (dS _ _) ?_
     refine hK.out _ _ ?_
     clear hK K
     try simp only [qq]
     refine mR 9 fun K hK => ?_
     go_simp
     refine hK.out _ _ ?_
     clear hK K
     try simp only [qq]
     refine gz ?_
     have Cf := aa (HI.out.step (h' := S') (c' := c2) hb6 hWa)
     obtain ⟨W6, F3⟩ : ∃ u, w6.setRow a (di S' c2) = u := ⟨_, rfl⟩
     rw [F3] at Cf ⊢
     have X6 : Hid (c2 = 2 + ((k + 1 : Nat) : Int)) := aa (by have := HC.out; have := A8.out; omega)
     clear hb6 F3 hS0 hi0 d0 d1 zP Nw
     go_wp2
     go_roundw
     case rel => exact ⟨k + 1, S', c2, by omega, by go_num, X6, U0, HRR, Cf⟩
     case measure => simp [intOf]; omega
   ·
    go_simp
    refine hK.out _ _ ?_
    clear hK K
    try simp only [qq]
    refine mR 8 fun K hK => ?_
    go_simp
    refine hK.out _ _ ?_
    clear hK K
    try simp only [qq]
    refine mR 10 fun K hK => ?_
    rw [show (if Region.wanted _ _ = true then _ else _ : Prop) = _ from if_pos rfl]
    refine wp_store_row 237 _ _ rfl a (di S' c2) rfl rfl 237 _ zP.out (aO U3.out) (fq HL.out U3.out) (dS _ _) ?_
    refine hK.out _ _ ?_
    clear hK K
    try simp only [qq]
    refine gz ?_
    have Cf := aa (HI.out.step (h' := S') (c' := c2) hb6 hWa)
    obtain ⟨W6, F3⟩ : ∃ u, w6.setRow a (di S' c2) = u := ⟨_, rfl⟩
    rw [F3] at Cf ⊢
    have X6 : Hid (c2 = 2 + ((k + 1 : Nat) : Int)) := aa (by have := HC.out; have := A8.out; omega)
    clear hb6 F3 hS0 hi0 d0 d1 zP Nw
    go_wp2
    go_roundw
    case rel => exact ⟨k + 1, S', c2, by omega, by go_num, X6, U0, HRR, Cf⟩
    case measure => simp [intOf]; omega
  ·
   obtain rfl : k = bn := by omega
   have hd : rows.drop k = [] := List.drop_of_length_le (by rw [hbn.out]; exact Nat.le_refl _)
   have QZ : Kp (S = S3) := ⟨by have h := HR.1; rwa [hd] at h⟩
   have tN : Kp (AO Q (iB S (aU dZ) al) (aU qp) = V) := ⟨by rw [QZ.1]; exact xm.1⟩
   clear hd HR QZ xm hlt
   have YE := aa HI.out.1
   go_wp2_with ((with_reducible show wpList _ _ _ (⟨some 53, _, _, _, _, _⟩ :: _) _ _); refine wpList_load_row rfl 237 _ rfl a rfl _ _ _ _ YE.out Tryz.underlying237 rfl (aO HL.out) ?_)
   refine (uu W a S HS c hcl0 V7 dZ (by decide) Aq A al na ca hna Lt _ (aa (HAA.out.below HI.out.2))).mono ?_
   rintro e w6 ⟨rfl, hb6⟩
   obtain ⟨S4, Px⟩ : ∃ S', iB S (aU dZ) al = S' := ⟨_, rfl⟩
   have xU : Hid (rX S4) := aa (by rw [← Px]; exact qE _ _ _)
   have HV5 : Kp (AO Q S4 (aU qp) = V) := ⟨by rw [← Px]; exact tN.1⟩
   rw [Px, A8.out, show xR S4 c2 0 = .tuple #[.agg (di S4 c2), .int .i64 0] from rfl]
   have Ux := aa xU.out.1
   have zP := aa (HI.out.1.below hb6)
   have Cf := aa (HI.out.step (h' := S4) (c' := c2) hb6 hWa)
   clear hb6 Px tN HI YE d0 d1
   go_upto_region 9 with ((with_reducible show wpList _ _ _ (⟨none, _, _, _, _, _⟩ :: _) _ _); refine wpList_store_row rfl 237 _ _ rfl a (di S4 c2) rfl rfl _ _ zP.out (aO Ux.out) (fq HL.out Ux.out) (dS _ _) ?_)
   obtain ⟨W6, F3⟩ : ∃ u, w6.setRow a (di S4 c2) = u := ⟨_, rfl⟩
   rw [F3] at Cf ⊢
   clear F3 zP
   obtain ⟨g0, g1, g2⟩ := UD.out.below Cf.out.2
   have Xf := aa Cf.out.1
   go_wp2_with ((with_reducible show wpList _ _ _ (⟨some 59, _, _, _, _, _⟩ :: _) _ _); refine wpList_load_row rfl 237 _ rfl a rfl _ _ _ _ Xf.out Tryz.underlying237 rfl (aO Ux.out) ?_)
   refine (Ld S4 Ux (aa xU.out.2) c2 (by have := A8.out; omega) (by have := HC.out; have := A8.out; omega) qp (by decide) Qx Q QG QF _).mono ?_
   rintro e w7 ⟨rfl, Cw⟩
   obtain ⟨G4, hG4⟩ : ∃ G4, QS Q S4 (aU qp) = G4 := ⟨_, rfl⟩
   have Qh : Hid (G4.length = 32) := aa (by rw [← hG4]; exact nG _ _ _)
   obtain ⟨c3, hc3⟩ : ∃ x, c2 + 1 = x := ⟨_, rfl⟩
   rw [hG4, HV5.1, hc3, show U_ G4 c3 V 0 = .tuple #[.agg (di G4 c3), .int .i64 V, .int .i64 0] from rfl]
   clear hc3
   have zT := aa (ag bQ.out (ag Cf.out.2 Cw))
   clear Cw hG4 g0 g1 g2
   go_upto_region 10 with ((with_reducible show wpList _ _ _ (⟨none, _, _, _, _, _⟩ :: _) _ _); refine wpList_store_row rfl 237 _ _ rfl w7.heap.size (di G4 c3) rfl rfl _ _ (heap_alloc_new _ _) (aO Qh.out) (fq (h := dD 32) (c := 0) rfl Qh.out) (dS _ _) ?_)
   rw [World.setRow_alloc_new]
   try simp only [Act.put]
   have Yr := ag zT.out (af w7 (.cells (di G4 c3) 237))
   go_wp2
   go_ret
   exact ⟨rfl, Yr⟩
theorem VJ (x y P : Int) : (x % P) * y % P = x * y % P := by rw [Int.mul_emod, Int.emod_emod, ← Int.mul_emod]
theorem VI (x y P : Int) : x * (y % P) % P = x * y % P := by rw [Int.mul_emod, Int.emod_emod, ← Int.mul_emod]
theorem OT {P Q y n : Int} (hP : 2 ≤ P) (hQ : 1 ≤ Q) (hn0 : 0 ≤ n) (hn1 : n < Q) (hy : aG P Q y = true) : pw y n P * pw y ((Q - n) % Q) P % P = 1 := by
 have hyQ : pw y Q P = 1 := pI hy
 rw [← Lh hP hQ (by omega) hyQ, ← Fw _ _ _ _ hn0 (by omega)]
 have e : n + (Q - n) = Q := by omega
 rw [e, hyQ]
theorem Vt (P Q G : Int) (Y : Option Addr) (ys : List Int) (yn yc : Nat) (B : Option Addr) (rows : List Row) (bn bc : Nat) (A : Option Addr) (al : List Int) (na ca : Nat) (C : Int) (Z : Option Addr) (zs : List Int) (nz cz : Nat) (hyn : Hid (ys.length = yn)) (hbn : Hid (rows.length = bn)) (eX : Hid (al.length = na)) (hzn : Hid (zs.length = nz)) (hna : na < 1000000) (hnz : nz < 1000000) (hQ : Q < 9223372036854775808) (jV : Hid (eD P Q G ys rows = false)) (w : World) (hY : Hid (Sl w Y ys)) (hB : Hid (Rw w B rows)) (hA : Hid (Sl w A al)) (hZ : Hid (Sl w Z zs)) :
  Calls Tryz.prog 205 #[gv P Q G, gQ Y yn yc B bn bc, iL A na ca C Z nz cz] w (Rt w (.bool false)) := by
 obtain ⟨w0, HW, ai, kC⟩ := qF (bq P Q G) gq (jw Y yn yc B bn bc) wI (eG A na ca C Z nz cz) p8 w
 have kY := mkS ai hY
 have kB := gV (fun u => Rw u B rows) ai hB (·.below)
 have kA := mkS ai hA
 have kZ := mkS ai hZ
 have ah := bS w0
 clear hY hB hA hZ
 go_in
 go_wp2_with fail
 rw [HW.out]
 have hO := kC
 refine jq [] ah (fun hHeld => ?_)
 refine aH 0 ?_
 refine aH 1 ?_
 refine bW 2 fun K hK => ?_
 go_simp
 (with_reducible refine (iK P Q G Y ys yn yc B rows bn bc false jV hyn hbn hQ _ ?_ ?_).mono ?_); (go_split_ands; exact kY.out _ (by assumption)); (go_split_ands; exact kB.out _ (by assumption)); rintro e wA ⟨rfl, bM⟩
 refine hK.out _ _ (bY hHeld bM) (fun hHeld => ?_)
 clear hK K
 try simp only [qq]
 refine aH 3 ?_
 refine aH 4 ?_
 refine dR 5 6 7 8 ?_
 refine jl 9 ?_
 refine jl 10 ?_
 refine jl 11 ?_
 refine aH 12 ?_
 refine aH 13 ?_
 refine dR 14 15 16 17 ?_
 refine jl 18 ?_
 refine jl 19 ?_
 refine aH 20 ?_
 refine aH 21 ?_
 refine dR 22 23 24 25 ?_
 refine jl 26 ?_
 refine aH 27 ?_
 refine aH 28 ?_
 refine dR 29 30 31 32 ?_
 refine jl 33 ?_
 refine jl 34 ?_
 refine aH 35 ?_
 refine gz ?_
 have fA := hHeld
 have bV := ag ai.out fA.out
 go_wp2
 go_ret
 exact ⟨rfl, bV⟩
theorem Vy (P Q G : Int) (Y : Option Addr) (ys : List Int) (n yc : Nat) (B : Option Addr) (rows : List Row) (bc : Nat) (A : Option Addr) (al : List Int) (na ca : Nat) (C : Int) (Z : Option Addr) (zs : List Int) (nz cz : Nat) (jV : Hid (eD P Q G ys rows = true)) (hyn : Hid (ys.length = n)) (hbn : Hid (rows.length = n)) (eX : Hid (al.length = na)) (hzn : Hid (zs.length = nz)) (hna : na < 1000000) (hnz : nz < 1000000) (hQ : Q < 9223372036854775808) (hne : na ≠ n) (w : World) (hY : Hid (Sl w Y ys)) (hB : Hid (Rw w B rows)) (hA : Hid (Sl w A al)) (hZ : Hid (Sl w Z zs)) :
  Calls Tryz.prog 205 #[gv P Q G, gQ Y n yc B n bc, iL A na ca C Z nz cz] w (Rt w (.bool false)) := by
 obtain ⟨v1, v2, v3, v4, v5, v6, v7, v8⟩ := bJ jV.out
 have hnp : 0 < n := by rw [← hyn.out]; omega
 obtain ⟨nu, hnu⟩ : ∃ k, fZ rows = k := ⟨_, rfl⟩
 have HN := aa hnu
 clear v1 v2 v3 v4 v5 v6 v7 v8 hnu
 have e1 : ((na : Int) != (n : Int)) = true := by simp; omega
 obtain ⟨w0, HW, ai, kC⟩ := qF (bq P Q G) gq (jw Y n yc B n bc) wI (eG A na ca C Z nz cz) p8 w
 have kY := mkS ai hY
 have kB := gV (fun u => Rw u B rows) ai hB (·.below)
 have kA := mkS ai hA
 have kZ := mkS ai hZ
 have ah := bS w0
 clear hY hB hA hZ
 go_in
 go_wp2_with fail
 rw [HW.out]
 have hO := kC
 refine jq [] ah (fun hHeld => ?_)
 refine aH 0 ?_
 refine aH 1 ?_
 refine bW 2 fun K hK => ?_
 go_simp
 (with_reducible refine (iK P Q G Y ys n yc B rows n bc true jV hyn hbn hQ _ ?_ ?_).mono ?_); (go_split_ands; exact kY.out _ (by assumption)); (go_split_ands; exact kB.out _ (by assumption)); rintro e wA ⟨rfl, bM⟩
 refine hK.out _ _ (bY hHeld bM) (fun hHeld => ?_)
 clear hK K
 try simp only [qq]
 refine aT 3 4 5 6 ?_
 refine aT 7 8 9 10 ?_
 refine aH 11 ?_
 refine aH 12 ?_
 refine aH 13 ?_
 refine dR 14 15 16 17 ?_
 refine jl 18 ?_
 refine jl 19 ?_
 refine aH 20 ?_
 refine aH 21 ?_
 refine dR 22 23 24 25 ?_
 refine jl 26 ?_
 refine aH 27 ?_
 refine aH 28 ?_
 refine dR 29 30 31 32 ?_
 refine jl 33 ?_
 refine jl 34 ?_
 refine aH 35 ?_
 refine gz ?_
 have fA := hHeld
 have bV := ag ai.out fA.out
 go_wp2
 go_ret
 exact ⟨rfl, bV⟩
theorem Vx (P Q G : Int) (Y : Option Addr) (ys : List Int) (n yc : Nat) (B : Option Addr) (rows : List Row) (bc : Nat) (A : Option Addr) (al : List Int) (na ca : Nat) (C : Int) (Z : Option Addr) (zs : List Int) (nz cz : Nat) (jV : Hid (eD P Q G ys rows = true)) (hyn : Hid (ys.length = n)) (hbn : Hid (rows.length = n)) (eX : Hid (al.length = na)) (hzn : Hid (zs.length = nz)) (hna : na < 1000000) (hnz : nz < 1000000) (hQ : Q < 9223372036854775808) (heq : na = n) (hne : nz ≠ fZ rows) (w : World) (hY : Hid (Sl w Y ys)) (hB : Hid (Rw w B rows)) (hA : Hid (Sl w A al)) (hZ : Hid (Sl w Z zs)) :
  Calls Tryz.prog 205 #[gv P Q G, gQ Y n yc B n bc, iL A na ca C Z nz cz] w (Rt w (.bool false)) := by
 obtain ⟨v1, v2, v3, v4, v5, v6, v7, v8⟩ := bJ jV.out
 have hnp : 0 < n := by rw [← hyn.out]; omega
 obtain ⟨nu, hnu⟩ : ∃ k, fZ rows = k := ⟨_, rfl⟩
 have HN := aa hnu
 clear v1 v2 v3 v4 v5 v6 v7 v8 hnu
 have e1 : ((na : Int) != (n : Int)) = false := by simp; omega
 have e2 : ((nz : Int) != (nu : Int)) = true := by have := HN.out; simp; omega
 clear heq hne
 obtain ⟨w0, HW, ai, kC⟩ := qF (bq P Q G) gq (jw Y n yc B n bc) wI (eG A na ca C Z nz cz) p8 w
 have kY := mkS ai hY
 have kB := gV (fun u => Rw u B rows) ai hB (·.below)
 have kA := mkS ai hA
 have kZ := mkS ai hZ
 have ah := bS w0
 clear hY hB hA hZ
 go_in
 go_wp2_with fail
 rw [HW.out]
 have hO := kC
 refine jq [] ah (fun hHeld => ?_)
 refine aH 0 ?_
 refine aH 1 ?_
 refine bW 2 fun K hK => ?_
 go_simp
 (with_reducible refine (iK P Q G Y ys n yc B rows n bc true jV hyn hbn hQ _ ?_ ?_).mono ?_); (go_split_ands; exact kY.out _ (by assumption)); (go_split_ands; exact kB.out _ (by assumption)); rintro e wA ⟨rfl, bM⟩
 refine hK.out _ _ (bY hHeld bM) (fun hHeld => ?_)
 clear hK K
 try simp only [qq]
 refine aT 3 4 5 6 ?_
 refine aT 7 8 9 10 ?_
 refine aT 11 12 13 14 ?_
 refine aH 15 ?_
 refine aH 16 ?_
 refine aH 17 ?_
 refine bW 18 fun K hK => ?_
 go_simp
 (with_reducible refine (fM Y n yc B rows n bc nu hbn hnp HN _ ?_).mono ?_); (go_split_ands; exact kB.out _ (by assumption)); rintro e wA ⟨rfl, bM⟩
 refine hK.out _ _ (bY hHeld bM) (fun hHeld => ?_)
 clear hK K
 try simp only [qq]
 refine aH 19 ?_
 refine aH 20 ?_
 refine aH 21 ?_
 refine dR 22 23 24 25 ?_
 refine jl 26 ?_
 refine aH 27 ?_
 refine aH 28 ?_
 refine dR 29 30 31 32 ?_
 refine jl 33 ?_
 refine jl 34 ?_
 refine aH 35 ?_
 refine gz ?_
 have fA := hHeld
 have bV := ag ai.out fA.out
 go_wp2
 go_ret
 exact ⟨rfl, bV⟩
theorem Vw (P Q G : Int) (Y : Option Addr) (ys : List Int) (n yc : Nat) (B : Option Addr) (rows : List Row) (bc : Nat) (A : Option Addr) (al : List Int) (na ca : Nat) (C : Int) (Z : Option Addr) (zs : List Int) (nz cz : Nat) (jV : Hid (eD P Q G ys rows = true)) (hyn : Hid (ys.length = n)) (hbn : Hid (rows.length = n)) (eX : Hid (al.length = na)) (hzn : Hid (zs.length = nz)) (hna : na < 1000000) (hnz : nz < 1000000) (hQ : Q < 9223372036854775808) (heq : na = n) (heq2 : nz = fZ rows) (TS : Hid (zs.all (gW Q) = false)) (w : World) (hY : Hid (Sl w Y ys)) (hB : Hid (Rw w B rows)) (hA : Hid (Sl w A al)) (hZ : Hid (Sl w Z zs)) :
  Calls Tryz.prog 205 #[gv P Q G, gQ Y n yc B n bc, iL A na ca C Z nz cz] w (Rt w (.bool false)) := by
 obtain ⟨v1, v2, v3, v4, v5, v6, v7, v8⟩ := bJ jV.out
 have hnp : 0 < n := by rw [← hyn.out]; omega
 obtain ⟨nu, hnu⟩ : ∃ k, fZ rows = k := ⟨_, rfl⟩
 have HN := aa hnu
 clear v1 v2 v3 v4 v5 v6 v7 v8 hnu
 have e1 : ((na : Int) != (n : Int)) = false := by simp; omega
 have e2 : ((nz : Int) != (nu : Int)) = false := by have := HN.out; simp; omega
 clear heq heq2
 obtain ⟨w0, HW, ai, kC⟩ := qF (bq P Q G) gq (jw Y n yc B n bc) wI (eG A na ca C Z nz cz) p8 w
 have kY := mkS ai hY
 have kB := gV (fun u => Rw u B rows) ai hB (·.below)
 have kA := mkS ai hA
 have kZ := mkS ai hZ
 have ah := bS w0
 clear hY hB hA hZ
 go_in
 go_wp2_with fail
 rw [HW.out]
 have hO := kC
 refine jq [] ah (fun hHeld => ?_)
 refine aH 0 ?_
 refine aH 1 ?_
 refine bW 2 fun K hK => ?_
 go_simp
 (with_reducible refine (iK P Q G Y ys n yc B rows n bc true jV hyn hbn hQ _ ?_ ?_).mono ?_); (go_split_ands; exact kY.out _ (by assumption)); (go_split_ands; exact kB.out _ (by assumption)); rintro e wA ⟨rfl, bM⟩
 refine hK.out _ _ (bY hHeld bM) (fun hHeld => ?_)
 clear hK K
 try simp only [qq]
 refine aT 3 4 5 6 ?_
 refine aT 7 8 9 10 ?_
 refine aT 11 12 13 14 ?_
 refine aH 15 ?_
 refine aH 16 ?_
 refine aH 17 ?_
 refine bW 18 fun K hK => ?_
 go_simp
 (with_reducible refine (fM Y n yc B rows n bc nu hbn hnp HN _ ?_).mono ?_); (go_split_ands; exact kB.out _ (by assumption)); rintro e wA ⟨rfl, bM⟩
 refine hK.out _ _ (bY hHeld bM) (fun hHeld => ?_)
 clear hK K
 try simp only [qq]
 refine aT 19 20 21 22 ?_
 refine aH 23 ?_
 refine aH 24 ?_
 refine bW 25 fun K hK => ?_
 go_simp
 (with_reducible refine (jv P Q G Z zs nz cz false TS hzn hnz _ ?_).mono ?_); (go_split_ands; exact kZ.out _ (by assumption)); rintro e wA ⟨rfl, bM⟩
 refine hK.out _ _ (bY hHeld bM) (fun hHeld => ?_)
 clear hK K
 try simp only [qq]
 refine aH 26 ?_
 refine aH 27 ?_
 refine aH 28 ?_
 refine dR 29 30 31 32 ?_
 refine jl 33 ?_
 refine jl 34 ?_
 refine aH 35 ?_
 refine gz ?_
 have fA := hHeld
 have bV := ag ai.out fA.out
 go_wp2
 go_ret
 exact ⟨rfl, bV⟩
theorem Vv (P Q G : Int) (Y : Option Addr) (ys : List Int) (n yc : Nat) (B : Option Addr) (rows : List Row) (bc : Nat) (A : Option Addr) (al : List Int) (na ca : Nat) (C : Int) (Z : Option Addr) (zs : List Int) (nz cz : Nat) (jV : Hid (eD P Q G ys rows = true)) (hyn : Hid (ys.length = n)) (hbn : Hid (rows.length = n)) (eX : Hid (al.length = na)) (hzn : Hid (zs.length = nz)) (hna : na < 1000000) (hnz : nz < 1000000) (hQ : Q < 9223372036854775808) (heq : na = n) (heq2 : nz = fZ rows) (TS : Hid (zs.all (gW Q) = true)) (hc : gW Q C = false) (w : World) (hY : Hid (Sl w Y ys)) (hB : Hid (Rw w B rows)) (hA : Hid (Sl w A al)) (hZ : Hid (Sl w Z zs)) :
  Calls Tryz.prog 205 #[gv P Q G, gQ Y n yc B n bc, iL A na ca C Z nz cz] w (Rt w (.bool false)) := by
 obtain ⟨v1, v2, v3, v4, v5, v6, v7, v8⟩ := bJ jV.out
 have hnp : 0 < n := by rw [← hyn.out]; omega
 obtain ⟨nu, hnu⟩ : ∃ k, fZ rows = k := ⟨_, rfl⟩
 have HN := aa hnu
 clear v1 v2 v3 v4 v5 v6 v7 v8 hnu
 have e1 : ((na : Int) != (n : Int)) = false := by simp; omega
 have e2 : ((nz : Int) != (nu : Int)) = false := by have := HN.out; simp; omega
 have Qc : Hid ([C].all (gW Q) = false) := aa (by simpa using hc)
 clear heq heq2 hc
 obtain ⟨w0, HW, ai, kC⟩ := qF (bq P Q G) gq (jw Y n yc B n bc) wI (eG A na ca C Z nz cz) p8 w
 have kY := mkS ai hY
 have kB := gV (fun u => Rw u B rows) ai hB (·.below)
 have kA := mkS ai hA
 have kZ := mkS ai hZ
 have ah := bS w0
 clear hY hB hA hZ
 go_in
 go_wp2_with fail
 rw [HW.out]
 have hO := kC
 refine jq [] ah (fun hHeld => ?_)
 refine aH 0 ?_
 refine aH 1 ?_
 refine bW 2 fun K hK => ?_
 go_simp
 (with_reducible refine (iK P Q G Y ys n yc B rows n bc true jV hyn hbn hQ _ ?_ ?_).mono ?_); (go_split_ands; exact kY.out _ (by assumption)); (go_split_ands; exact kB.out _ (by assumption)); rintro e wA ⟨rfl, bM⟩
 refine hK.out _ _ (bY hHeld bM) (fun hHeld => ?_)
 clear hK K
 try simp only [qq]
 refine aT 3 4 5 6 ?_
 refine aT 7 8 9 10 ?_
 refine aT 11 12 13 14 ?_
 refine aH 15 ?_
 refine aH 16 ?_
 refine aH 17 ?_
 refine bW 18 fun K hK => ?_
 go_simp
 (with_reducible refine (fM Y n yc B rows n bc nu hbn hnp HN _ ?_).mono ?_); (go_split_ands; exact kB.out _ (by assumption)); rintro e wA ⟨rfl, bM⟩
 refine hK.out _ _ (bY hHeld bM) (fun hHeld => ?_)
 clear hK K
 try simp only [qq]
 refine aT 19 20 21 22 ?_
 refine aH 23 ?_
 refine aH 24 ?_
 refine bW 25 fun K hK => ?_
 go_simp
 (with_reducible refine (jv P Q G Z zs nz cz true TS hzn hnz _ ?_).mono ?_); (go_split_ands; exact kZ.out _ (by assumption)); rintro e wA ⟨rfl, bM⟩
 refine hK.out _ _ (bY hHeld bM) (fun hHeld => ?_)
 clear hK K
 try simp only [qq]
 refine aT 26 27 28 29 ?_
 refine aH 30 ?_
 refine aH 31 ?_
 refine bW 32 fun K hK => ?_
 go_simp
 refine hK.out _ _ (bY hHeld (af _ _)) (fun hHeld => ?_)
 clear hK K
 try simp only [qq]
 refine bW 33 fun K hK => ?_
 go_simp
 (with_reducible refine (jv P Q G (some ⟨wA.heap.size, 0, none⟩) [C] 1 1 false Qc (aa rfl) (by omega) _ (aa (gF (tL wA _ C)))).mono ?_); rintro e wB ⟨rfl, bM⟩
 refine hK.out _ _ (bY hHeld bM) (fun hHeld => ?_)
 clear hK K
 try simp only [qq]
 refine aH 34 ?_
 refine aH 35 ?_
 refine gz ?_
 have fA := hHeld
 have bV := ag ai.out fA.out
 go_wp2
 go_ret
 exact ⟨rfl, bV⟩
def nK (P Q C : Int) (ys : List Int) (rows : List Row) (al zs : List Int) (i : Nat) : Bool := aG P Q (al.getD i 0) && (dH P 1 (rows.getD i dh).xs zs == al.getD i 0 * pw (ys.getD i 0) C P % P)
theorem Ak {P Q : Int} (hP : 2 ≤ P) (hQ : 1 ≤ Q) : ∀ (xs es : List Int) (acc : Int), aG P Q acc = true → xs.all (aG P Q) = true → es.all (gW Q) = true → aG P Q (dH P acc xs es) = true
 | [], es, acc, h, _, _ => by cases es <;> exact h
 | x :: xs, [], acc, h, _, _ => h
 | x :: xs, e :: es, acc, h, h1, h2 => by
  simp only [List.all_cons, Bool.and_eq_true] at h1 h2
  exact Ak hP hQ xs es _ (xH hP hQ h (vM hP hQ (qG h2.1) h1.1)) h1.2 h2.2
theorem Eo {P Q G C : Int} {ys : List Int} {rows : List Row} {al zs : List Int} (hv : eD P Q G ys rows = true) (hl : al.length = rows.length) (hz : zs.length = fZ rows) (hzs : zs.all (gW Q) = true) (hc : gW Q C = true) :
  gM P Q C ys rows al zs = true ↔ ∀ i, i < rows.length → nK P Q C ys rows al zs i = true := by
 obtain ⟨v1, v2, v3, v4, v5, v6, v7, v8⟩ := bJ hv
 obtain ⟨hp2, hp, hq3, Av⟩ := bH v1
 have hC : 0 ≤ C ∧ C < Q := by simp [gW] at hc; exact hc
 have key : ∀ i, i < rows.length → (nK P Q C ys rows al zs i = true ↔ yA P Q C ys rows zs i = al.getD i 0) := by
  intro i hi
  have hy : aG P Q (ys.getD i 0) = true := ig v5 (by omega)
  have hr := pq v8 hi
  simp only [mo, Bool.and_eq_true] at hr
  have hm := Ak (P := P) (Q := Q) hp2 (by omega) (rows.getD i dh).xs zs 1 (Bv hp2) hr.2 hzs
  have hu := OT hp2 (by omega) hC.1 hC.2 hy
  unfold nK yA
  obtain ⟨p, V5⟩ : ∃ p, dH P 1 (rows.getD i dh).xs zs = p := ⟨_, rfl⟩
  obtain ⟨u, hpu⟩ : ∃ u, pw (ys.getD i 0) C P = u := ⟨_, rfl⟩
  obtain ⟨t, hpt⟩ : ∃ t, pw (ys.getD i 0) ((Q - C) % Q) P = t := ⟨_, rfl⟩
  obtain ⟨a, ha⟩ : ∃ a, al.getD i 0 = a := ⟨_, rfl⟩
  have hmt : aG P Q t = true := by rw [← hpt]; exact vM hp2 (by omega) (Int.emod_nonneg _ (by omega)) hy
  rw [hpu, hpt] at hu
  rw [V5] at hm ⊢
  rw [hpu, hpt, ha]
  have p1 := fE hm
  have p2 := fF hm
  constructor
  ·
   intro h
   simp only [Bool.and_eq_true, beq_iff_eq] at h
   have a1 := fE h.1
   have a2 := fF h.1
   rw [h.2, VJ, Int.mul_assoc, ← VI, hu, Int.mul_one]
   exact Int.emod_eq_of_lt (by omega) a2
  ·
   intro h
   have hma : aG P Q a = true := by rw [← h]; exact xH hp2 (by omega) hm hmt
   simp only [Bool.and_eq_true, beq_iff_eq]
   refine ⟨hma, ?_⟩
   rw [← h, VJ, Int.mul_assoc, Int.mul_comm t u, ← VI, hu, Int.mul_one]
   exact (Int.emod_eq_of_lt (by omega) p2).symm
 constructor
 ·
  intro h i hi
  have hs := (pW h).2.2.2.2
  rw [key i hi, ← hs, yz hi]
 ·
  intro h
  have hs : vE P Q C ys rows zs = al := by
   apply List.ext_getElem (by rw [gG, hl])
   intro i h1 h2
   have e1 := (key i (by rw [gG] at h1; exact h1)).1 (h i (by rw [gG] at h1; exact h1))
   have e2 := yz (P := P) (Q := Q) (c := C) (ys := ys) (zs := zs) (rows := rows) (show i < rows.length by rw [gG] at h1; exact h1)
   rw [List.getD_eq_getElem?_getD, List.getElem?_eq_getElem h1] at e2
   rw [List.getD_eq_getElem?_getD, List.getElem?_eq_getElem h2] at e1
   simp only [Option.getD_some] at e1 e2
   rw [e2, e1]
  simp only [gM, Bool.and_eq_true, decide_eq_true_eq]
  exact ⟨hl, hz, hc, hzs, by rw [hs]; simp⟩
theorem Vu (P Q G : Int) (Y : Option Addr) (ys : List Int) (n yc : Nat) (B : Option Addr) (rows : List Row) (bc : Nat) (A : Option Addr) (al : List Int) (na ca : Nat) (C : Int) (Z : Option Addr) (zs : List Int) (nz cz : Nat) (jV : Hid (eD P Q G ys rows = true)) (hyn : Hid (ys.length = n)) (hbn : Hid (rows.length = n)) (eX : Hid (al.length = na)) (hzn : Hid (zs.length = nz)) (hna : na < 1000000) (hnz : nz < 1000000) (hQ : Q < 9223372036854775808) (heq : na = n) (heq2 : nz = fZ rows) (TS : Hid (zs.all (gW Q) = true)) (hc : gW Q C = true) (r : Bool) (hr : Hid (gM P Q C ys rows al zs = r)) (w : World) (hY : Hid (Sl w Y ys)) (hB : Hid (Rw w B rows)) (hA : Hid (Sl w A al)) (hZ : Hid (Sl w Z zs)) :
  Calls Tryz.prog 205 #[gv P Q G, gQ Y n yc B n bc, iL A na ca C Z nz cz] w (Rt w (.bool r)) := by
 have XO : Hid (gM P Q C ys rows al zs = true ↔ ∀ i, i < rows.length → nK P Q C ys rows al zs i = true) := aa (Eo jV.out (by rw [eX.out, hbn.out, heq]) (by rw [hzn.out, heq2]) TS.out hc)
 have hC : 0 ≤ C ∧ C < Q := by simp [gW] at hc; exact hc
 obtain ⟨hC0, hC1⟩ := hC
 obtain ⟨v1, v2, v3, v4, v5, v6, v7, v8⟩ := bJ jV.out
 obtain ⟨hp2, hp, hq3, Av⟩ := bH v1
 have HYM := aa v5
 have Ip : Hid (rows.all (mo P Q nz) = true) := aa (by rw [heq2]; exact v8)
 have Ym : n ≤ 8 := by rw [← hyn.out]; exact v3
 clear v1 v2 v3 v4 v5 v6 v7 v8
 obtain ⟨v1, v2, v3, v4, v5, v6, v7, v8⟩ := bJ jV.out
 have hnp : 0 < n := by rw [← hyn.out]; omega
 obtain ⟨nu, hnu⟩ : ∃ k, fZ rows = k := ⟨_, rfl⟩
 have HN := aa hnu
 clear v1 v2 v3 v4 v5 v6 v7 v8 hnu
 have e1 : ((na : Int) != (n : Int)) = false := by simp; omega
 have e2 : ((nz : Int) != (nu : Int)) = false := by have := HN.out; simp; omega
 have Qc : Hid ([C].all (gW Q) = true) := aa (by simpa using hc)
 have HEQ := aa heq
 clear heq heq2 hc
 obtain ⟨w0, HW, ai, kC⟩ := qF (bq P Q G) gq (jw Y n yc B n bc) wI (eG A na ca C Z nz cz) p8 w
 have kY := mkS ai hY
 have kB := gV (fun u => Rw u B rows) ai hB (·.below)
 have kA := mkS ai hA
 have kZ := mkS ai hZ
 have ah := bS w0
 clear hY hB hA hZ
 go_in
 go_wp2_with fail
 rw [HW.out]
 have hS := aa (show ∀ u1 u2 : World, Hid (Below w0.heap.size w0 u1) → Below u1.heap.size u1 u2 → (u2.cell? ⟨w.heap.size, 0, none⟩ = some (.int .i64 P) ∧ u2.cell? ⟨w.heap.size, 1, none⟩ = some (.int .i64 Q) ∧ u2.cell? ⟨w.heap.size, 2, none⟩ = some (.int .i64 G) ∧ u2.cell? ⟨w.heap.size + 1, 0, none⟩ = some (.slice Y n yc) ∧ u2.cell? ⟨w.heap.size + 1, 1, none⟩ = some (.slice B n bc) ∧ u2.cell? ⟨w.heap.size + 2, 0, none⟩ = some (.slice A na ca) ∧ u2.cell? ⟨w.heap.size + 2, 1, none⟩ = some (.int .i64 C) ∧ u2.cell? ⟨w.heap.size + 2, 2, none⟩ = some (.slice Z nz cz) ∧ Hid (Below w0.heap.size w0 u2)) from fun u1 u2 h1 h2 => by
  have h3 := aa (ag h1.out h2)
  obtain ⟨y0, y1, y2, y3, y4, y5, y6, y7⟩ := kC.out _ h3
  exact ⟨y0, y1, y2, y3, y4, y5, y6, y7, h3⟩)
 refine bD (S := fun w' => w'.cell? ⟨w.heap.size, 0, none⟩ = some (.int .i64 P) ∧ w'.cell? ⟨w.heap.size, 1, none⟩ = some (.int .i64 Q) ∧ w'.cell? ⟨w.heap.size, 2, none⟩ = some (.int .i64 G) ∧ w'.cell? ⟨w.heap.size + 1, 0, none⟩ = some (.slice Y n yc) ∧ w'.cell? ⟨w.heap.size + 1, 1, none⟩ = some (.slice B n bc) ∧ w'.cell? ⟨w.heap.size + 2, 0, none⟩ = some (.slice A na ca) ∧ w'.cell? ⟨w.heap.size + 2, 1, none⟩ = some (.int .i64 C) ∧ w'.cell? ⟨w.heap.size + 2, 2, none⟩ = some (.slice Z nz cz) ∧ Hid (Below w0.heap.size w0 w')) (E := []) (by kernel_rfl) (hS.out _ _ ah ((Below.refl _ _).drew)) (fun hHeld => ?_)
 refine bN 0 ?_
 refine bN 1 ?_
 refine bW 2 fun K hK => ?_
 go_simp
 (with_reducible refine (iK P Q G Y ys n yc B rows n bc true jV hyn hbn hQ _ ?_ ?_).mono ?_); (go_split_ands; exact kY.out _ (by assumption)); (go_split_ands; exact kB.out _ (by assumption)); rintro e wA ⟨rfl, bM⟩
 refine hK.out _ _ ?_ (fun hHeld => ?_)
 · (go_split_ands; exact hS.out _ _ (by assumption) bM)
 clear hK K
 try simp only [qq]
 refine bN 3 ?_
 refine bN 4 ?_
 refine bN 5 ?_
 refine bN 6 ?_
 refine bN 7 ?_
 refine bN 8 ?_
 refine bN 9 ?_
 refine bN 10 ?_
 refine bN 11 ?_
 refine bN 12 ?_
 refine bN 13 ?_
 refine bN 14 ?_
 refine bN 15 ?_
 refine bN 16 ?_
 refine bN 17 ?_
 refine bW 18 fun K hK => ?_
 go_simp
 (with_reducible refine (fM Y n yc B rows n bc nu hbn hnp HN _ ?_).mono ?_); (go_split_ands; exact kB.out _ (by assumption)); rintro e wA ⟨rfl, bM⟩
 refine hK.out _ _ ?_ (fun hHeld => ?_)
 · (go_split_ands; exact hS.out _ _ (by assumption) bM)
 clear hK K
 try simp only [qq]
 refine bN 19 ?_
 refine bN 20 ?_
 refine bN 21 ?_
 refine bN 22 ?_
 refine bN 23 ?_
 refine bN 24 ?_
 refine bW 25 fun K hK => ?_
 go_simp
 (with_reducible refine (jv P Q G Z zs nz cz true TS hzn hnz _ ?_).mono ?_); (go_split_ands; exact kZ.out _ (by assumption)); rintro e wA ⟨rfl, bM⟩
 refine hK.out _ _ ?_ (fun hHeld => ?_)
 · (go_split_ands; exact hS.out _ _ (by assumption) bM)
 clear hK K
 try simp only [qq]
 refine bN 26 ?_
 refine bN 27 ?_
 refine bN 28 ?_
 refine bN 29 ?_
 refine bN 30 ?_
 refine bN 31 ?_
 refine bW 32 fun K hK => ?_
 go_simp
 refine hK.out _ _ ?_ (fun hHeld => ?_)
 · (go_split_ands; exact hS.out _ _ (by assumption) (af _ _))
 clear hK K
 try simp only [qq]
 refine bW 33 fun K hK => ?_
 go_simp
 (with_reducible refine (jv P Q G (some ⟨wA.heap.size, 0, none⟩) [C] 1 1 true Qc (aa rfl) (by omega) _ (aa (gF (tL wA _ C)))).mono ?_); rintro e wB ⟨rfl, bM⟩
 refine hK.out _ _ ?_ (fun hHeld => ?_)
 · (go_split_ands; exact hS.out _ _ (by assumption) bM)
 clear hK K
 try simp only [qq]
 refine bN 34 ?_
 refine bN 35 ?_
 refine gz ?_
 obtain ⟨x0, x1, x2, x3, x4, x5, x6, x7, aD⟩ := hHeld
 go_wp2_with fail
 clear x0 x1 x2 x3 x4 x5 x6 x7 hS
 go_loopw [7] (fun i u => ∃ k : Nat, k ≤ n ∧ i = .int .i64 k ∧ Hid (∀ j, j < k → nK P Q C ys rows al zs j = true) ∧ Hid (Below w0.heap.size w0 u)) (fun i _ => n - (intOf i).toNat)
 case atStart => exact ⟨0, by omega, rfl, aa (fun j hj => absurd hj (Nat.not_lt_zero _)), aD⟩
 case round =>
  obtain ⟨k, hk, rfl, oM, au⟩ := hrel
  obtain ⟨y0, y1, y2, y3, y4, y5, y6, y7⟩ := kC.out _ au
  by_cases hlt : k < n
  ·
   have hka : k < al.length := by have := HEQ.out; have := eX.out; omega
   have ac6 : k < na := by have := HEQ.out; omega
   have hky : k < ys.length := by rw [hyn.out]; exact hlt
   have hkr : k < rows.length := by rw [hbn.out]; exact hlt
   obtain ⟨ba, oa, hAA, ia⟩ := (kA.out _ au).out k hka
   obtain ⟨by', oy, hYY, iy⟩ := (kY.out _ au).out k hky
   obtain ⟨⟨br, or', hBB, ir⟩, hok⟩ := (kB.out _ au).out k hkr
   subst hAA
   subst hYY
   subst hBB
   have hrc : nK P Q C ys rows al zs k = (aG P Q (al.getD k 0) && (dH P 1 (rows.getD k dh).xs zs == al.getD k 0 * pw (ys.getD k 0) C P % P)) := rfl
   have FW := ig HYM.out hky
   have hrb := pq Ip.out hkr
   have XU : Hid (nK P Q C ys rows al zs k = false → r = false) := aa (fun h => by
    rw [← hr.out]
    cases hcb : gM P Q C ys rows al zs with
    | false => rfl
    | true =>
     have h2 := XO.out.1 hcb k hkr
     rw [h] at h2
     cases h2)
   have XE : Hid (nK P Q C ys rows al zs k = true → ∀ j, j < k + 1 → nK P Q C ys rows al zs j = true) := aa (fun h j hj => by
    by_cases hjk : j = k
    · subst hjk; exact h
    · exact oM.out j (by omega))
   obtain ⟨a, haa⟩ : ∃ a, al.getD k 0 = a := ⟨_, rfl⟩
   obtain ⟨y, hyy⟩ : ∃ a, ys.getD k 0 = a := ⟨_, rfl⟩
   obtain ⟨RR, hRR⟩ : ∃ R, rows.getD k dh = R := ⟨_, rfl⟩
   rw [haa] at ia hrc
   rw [hyy] at iy hrc FW
   rw [hRR] at ir hok hrc hrb
   obtain ⟨p, rn, rc, xs⟩ := RR
   simp only [mo, Bool.and_eq_true, decide_eq_true_eq] at hrb
   obtain ⟨hrn, hmx⟩ := hrb
   subst hrn
   have HXL := aa hok.1
   have HXS : Hid (Sl wr p xs) := aa hok.2
   have HMX := aa hmx
   dsimp only [Row.val] at ir hrc
   have HMY := aa FW
   have hs2 := aa (show ∀ u1 u2 : World, Hid (Below wr.heap.size wr u1) → Below u1.heap.size u1 u2 → (u2.cell? ⟨w.heap.size, 0, none⟩ = some (.int .i64 P) ∧ u2.cell? ⟨w.heap.size, 1, none⟩ = some (.int .i64 Q) ∧ u2.cell? ⟨w.heap.size, 2, none⟩ = some (.int .i64 G) ∧ u2.cell? ⟨w.heap.size + 1, 0, none⟩ = some (.slice (some ⟨by', oy, none⟩) n yc) ∧ u2.cell? ⟨w.heap.size + 1, 1, none⟩ = some (.slice (some ⟨br, or', none⟩) n bc) ∧ u2.cell? ⟨w.heap.size + 2, 0, none⟩ = some (.slice (some ⟨ba, oa, none⟩) na ca) ∧ u2.cell? ⟨w.heap.size + 2, 1, none⟩ = some (.int .i64 C) ∧ u2.cell? ⟨w.heap.size + 2, 2, none⟩ = some (.slice Z rn cz) ∧ u2.cell? ⟨ba, oa + k, none⟩ = some (.int .i64 a) ∧ u2.cell? ⟨by', oy + k, none⟩ = some (.int .i64 y) ∧ u2.cell? ⟨br, or' + k, none⟩ = some (.slice p rn rc) ∧ Hid (Below wr.heap.size wr u2)) from fun u1 u2 h1 h2 => by
    have h3 := ag h1.out h2
    exact ⟨cell_below y0 h3, cell_below y1 h3, cell_below y2 h3, cell_below y3 h3, cell_below y4 h3, cell_below y5 h3, cell_below y6 h3, cell_below y7 h3, cell_below ia h3, cell_below iy h3, cell_below ir h3, aa h3⟩)
   have kX := aa (show ∀ u : World, Hid (Below wr.heap.size wr u) → Hid (Sl u p xs) from fun u h => aa (HXS.out.below h.out))
   have kZ2 := aa (show ∀ u : World, Hid (Below wr.heap.size wr u) → Hid (Sl u Z zs) from fun u h => kZ.out _ (aa (ag au.out h.out)))
   have abf : Hid (Below wr.heap.size wr wr) := aa (Below.refl _ _)
   have HRC := aa hrc
   clear haa hyy hRR hok hmx FW hrc
   go_wp2_with fail
   clear y0 y1 y2 y3 y4 y5 y6 y7 ia iy ir
   obtain ⟨m, hm⟩ : ∃ m, aG P Q a = m := ⟨_, rfl⟩
   have HM := aa hm
   clear hm
   refine bD (S := fun w' => w'.cell? ⟨w.heap.size, 0, none⟩ = some (.int .i64 P) ∧ w'.cell? ⟨w.heap.size, 1, none⟩ = some (.int .i64 Q) ∧ w'.cell? ⟨w.heap.size, 2, none⟩ = some (.int .i64 G) ∧ w'.cell? ⟨w.heap.size + 1, 0, none⟩ = some (.slice (some ⟨by', oy, none⟩) n yc) ∧ w'.cell? ⟨w.heap.size + 1, 1, none⟩ = some (.slice (some ⟨br, or', none⟩) n bc) ∧ w'.cell? ⟨w.heap.size + 2, 0, none⟩ = some (.slice (some ⟨ba, oa, none⟩) na ca) ∧ w'.cell? ⟨w.heap.size + 2, 1, none⟩ = some (.int .i64 C) ∧ w'.cell? ⟨w.heap.size + 2, 2, none⟩ = some (.slice Z rn cz) ∧ w'.cell? ⟨ba, oa + k, none⟩ = some (.int .i64 a) ∧ w'.cell? ⟨by', oy + k, none⟩ = some (.int .i64 y) ∧ w'.cell? ⟨br, or' + k, none⟩ = some (.slice p rn rc) ∧ Hid (Below wr.heap.size wr w')) (E := []) (by kernel_rfl) (hs2.out _ _ abf ((Below.refl _ _).drew)) (fun hHeld => ?_)
   refine bN 0 ?_
   refine bN 1 ?_
   refine bN 2 ?_
   refine bN 3 ?_
   refine bN 4 ?_
   refine bN 5 ?_
   refine bW 6 fun K hK => ?_
   go_simp
   (with_reducible refine (aP P Q G a m HM hp (by omega) hQ _).mono ?_); rintro e wA ⟨rfl, bM⟩
   refine hK.out _ _ ?_ (fun hHeld => ?_)
   · exact hs2.out _ _ (hHeld.2.2.2.2.2.2.2.2.2.2.2) bM
   clear hK K
   try simp only [qq]
   refine bN 7 ?_
   refine gz ?_
   obtain ⟨x0, x1, x2, x3, x4, x5, x6, x7, x8, x9, Vf, sN⟩ := hHeld
   clear x0 x1 x2 x3 x4 x5 x6 x7 x8 x9 Vf
   have ZL := sN.out
   cases hmc : m with
   | false =>
    obtain rfl : r = false := XU.out (by rw [HRC.out, HM.out, hmc]; rfl)
    have bV := ag ai.out (ag au.out sN.out)
    go_wp2
    go_ret
    exact ⟨rfl, bV⟩
   | true =>
    have hma : aG P Q a = true := HM.out.trans hmc
    have a1 := fE hma
    have a2 := fF hma
    have b1 := fE HMY.out
    have b2 := fF HMY.out
    obtain ⟨u, hu⟩ : ∃ u, pw y C P = u := ⟨_, rfl⟩
    obtain ⟨u0, u1⟩ : 0 ≤ u ∧ u < P := by rw [← hu]; exact vW _ _ _ (by omega)
    obtain ⟨v, hv'⟩ : ∃ v, a * u % P = v := ⟨_, rfl⟩
    obtain ⟨q, hq'⟩ : ∃ q, dH P 1 xs zs = q := ⟨_, rfl⟩
    have HU := aa hu
    have HV := aa hv'
    have HQ := aa hq'
    have Xx : Hid (nK P Q C ys rows al zs k = (q == v)) := aa (by rw [HRC.out, hma, hu, hv', hq', Bool.true_and])
    clear hu hv' hq' hma ZL
    go_wp2_with fail
    refine bD (S := fun w' => w'.cell? ⟨w.heap.size, 0, none⟩ = some (.int .i64 P) ∧ w'.cell? ⟨w.heap.size, 1, none⟩ = some (.int .i64 Q) ∧ w'.cell? ⟨w.heap.size, 2, none⟩ = some (.int .i64 G) ∧ w'.cell? ⟨w.heap.size + 1, 0, none⟩ = some (.slice (some ⟨by', oy, none⟩) n yc) ∧ w'.cell? ⟨w.heap.size + 1, 1, none⟩ = some (.slice (some ⟨br, or', none⟩) n bc) ∧ w'.cell? ⟨w.heap.size + 2, 0, none⟩ = some (.slice (some ⟨ba, oa, none⟩) na ca) ∧ w'.cell? ⟨w.heap.size + 2, 1, none⟩ = some (.int .i64 C) ∧ w'.cell? ⟨w.heap.size + 2, 2, none⟩ = some (.slice Z rn cz) ∧ w'.cell? ⟨ba, oa + k, none⟩ = some (.int .i64 a) ∧ w'.cell? ⟨by', oy + k, none⟩ = some (.int .i64 y) ∧ w'.cell? ⟨br, or' + k, none⟩ = some (.slice p rn rc) ∧ Hid (Below wr.heap.size wr w')) (E := []) (by kernel_rfl) (hs2.out _ _ sN ((Below.refl _ _).drew)) (fun hHeld => ?_)
    refine bN 0 ?_
    refine bN 1 ?_
    refine bN 2 ?_
    refine bN 3 ?_
    refine bN 4 ?_
    refine bN 5 ?_
    refine bN 6 ?_
    refine bN 7 ?_
    refine bN 8 ?_
    refine bN 9 ?_
    refine bN 10 ?_
    refine bN 11 ?_
    refine bN 12 ?_
    refine bN 13 ?_
    refine bN 15 ?_
    refine bN 16 ?_
    refine bW 14 fun K hK => ?_
    go_simp
    (with_reducible refine (ko y C P u HU (by omega) hp (by omega) b2 hC0 (by omega) _).mono ?_); rintro e wA ⟨rfl, rfl⟩
    refine hK.out _ _ ?_ (fun hHeld => ?_)
    · exact hs2.out _ _ (hHeld.2.2.2.2.2.2.2.2.2.2.2) (Below.refl _ _)
    clear hK K
    try simp only [qq]
    refine bW 17 fun K hK => ?_
    go_simp
    (with_reducible refine (fB a u P v HV hp (by omega) a2 u0 u1 _).mono ?_); rintro e wA ⟨rfl, rfl⟩
    refine hK.out _ _ ?_ (fun hHeld => ?_)
    · exact hs2.out _ _ (hHeld.2.2.2.2.2.2.2.2.2.2.2) (Below.refl _ _)
    clear hK K
    try simp only [qq]
    refine bN 18 ?_
    refine gz ?_
    obtain ⟨x0, x1, x2, x3, x4, x5, x6, x7, x8, x9, Vf, zw⟩ := hHeld
    clear x0 x1 x2 x3 x4 x5 x6 x7 x8 x9 Vf
    go_wp2_with fail
    refine bD (S := fun w' => w'.cell? ⟨w.heap.size, 0, none⟩ = some (.int .i64 P) ∧ w'.cell? ⟨w.heap.size, 1, none⟩ = some (.int .i64 Q) ∧ w'.cell? ⟨w.heap.size, 2, none⟩ = some (.int .i64 G) ∧ w'.cell? ⟨w.heap.size + 1, 0, none⟩ = some (.slice (some ⟨by', oy, none⟩) n yc) ∧ w'.cell? ⟨w.heap.size + 1, 1, none⟩ = some (.slice (some ⟨br, or', none⟩) n bc) ∧ w'.cell? ⟨w.heap.size + 2, 0, none⟩ = some (.slice (some ⟨ba, oa, none⟩) na ca) ∧ w'.cell? ⟨w.heap.size + 2, 1, none⟩ = some (.int .i64 C) ∧ w'.cell? ⟨w.heap.size + 2, 2, none⟩ = some (.slice Z rn cz) ∧ w'.cell? ⟨ba, oa + k, none⟩ = some (.int .i64 a) ∧ w'.cell? ⟨by', oy + k, none⟩ = some (.int .i64 y) ∧ w'.cell? ⟨br, or' + k, none⟩ = some (.slice p rn rc) ∧ Hid (Below wr.heap.size wr w')) (E := []) (by kernel_rfl) (hs2.out _ _ zw ((Below.refl _ _).drew)) (fun hHeld => ?_)
    refine bN 0 ?_
    refine bN 1 ?_
    refine bN 2 ?_
    refine bN 3 ?_
    refine bN 4 ?_
    refine bN 5 ?_
    refine bN 6 ?_
    refine bN 7 ?_
    refine bN 9 ?_
    refine bW 8 fun K hK => ?_
    go_simp
    (with_reducible refine (Bh P Q G p xs rn rc Z zs rn cz q HQ HXL hzn (Nat.le_refl _) (by omega) HMX TS hp2 hp hQ _ ?_ ?_).mono ?_); (exact kX.out _ (hHeld.2.2.2.2.2.2.2.2.2.2.2)); (exact kZ2.out _ (hHeld.2.2.2.2.2.2.2.2.2.2.2)); rintro e wA ⟨rfl, bM⟩
    refine hK.out _ _ ?_ (fun hHeld => ?_)
    · exact hs2.out _ _ (hHeld.2.2.2.2.2.2.2.2.2.2.2) bM
    clear hK K
    try simp only [qq]
    refine bN 10 ?_
    refine gz ?_
    obtain ⟨x0, x1, x2, x3, x4, x5, x6, x7, x8, x9, Vf, CG⟩ := hHeld
    clear x0 x1 x2 x3 x4 x5 x6 x7 x8 x9 Vf
    cases UU : q == v with
    | false =>
     obtain rfl : r = false := XU.out (by rw [Xx.out, UU])
     have hne : (q != v) = true := by simp only [bne, UU, Bool.not_false]
     have bV := ag ai.out (ag au.out CG.out)
     go_wp2
     go_ret
     exact ⟨rfl, bV⟩
    | true =>
     have hne : (q != v) = false := by simp only [bne, UU, Bool.not_true]
     have Yc := aa (XE.out (by rw [Xx.out, UU]))
     have X_ := aa (ag au.out CG.out)
     go_wp2
     go_roundw
     case rel => exact ⟨k + 1, by omega, by go_num, Yc, X_⟩
     case measure => simp [intOf]; omega
  ·
   obtain rfl : k = n := by omega
   obtain rfl : r = true := by
    rw [← hr.out]
    exact XO.out.2 (fun i hi => oM.out i (by rw [hbn.out] at hi; exact hi))
   have bV := ag ai.out au.out
   go_wp2
   go_ret
   exact ⟨rfl, bV⟩
theorem sQ (P Q G : Int) (Y : Option Addr) (ys : List Int) (yn yc : Nat) (B : Option Addr) (rows : List Row) (bn bc : Nat) (A : Option Addr) (al : List Int) (na ca : Nat) (C : Int) (Z : Option Addr) (zs : List Int) (nz cz : Nat) (hyn : Hid (ys.length = yn)) (hbn : Hid (rows.length = bn)) (eX : Hid (al.length = na)) (hzn : Hid (zs.length = nz)) (hna : na < 1000000) (hnz : nz < 1000000) (hQ : Q < 9223372036854775808) (r : Bool) (hr : Hid (qY P Q G C ys rows al zs = r)) (w : World) (hY : Hid (Sl w Y ys)) (hB : Hid (Rw w B rows)) (hA : Hid (Sl w A al)) (hZ : Hid (Sl w Z zs)) :
  Calls Tryz.prog 205 #[gv P Q G, gQ Y yn yc B bn bc, iL A na ca C Z nz cz] w (Rt w (.bool r)) := by
 cases hg : eD P Q G ys rows with
 | false =>
  obtain rfl : r = false := by rw [← hr.out, qY, hg]; rfl
  exact Vt P Q G Y ys yn yc B rows bn bc A al na ca C Z zs nz cz hyn hbn eX hzn hna hnz hQ (aa hg) w hY hB hA hZ
 | true =>
  have he : bn = yn := by rw [← hbn.out, ← hyn.out]; exact (bJ hg).2.2.2.1
  subst he
  have hr' : gM P Q C ys rows al zs = r := by rw [← hr.out, qY, hg]; rfl
  by_cases h1 : na = bn
  ·
   by_cases h2 : nz = fZ rows
   ·
    cases h3 : zs.all (gW Q) with
    | false =>
     obtain rfl : r = false := by rw [← hr']; unfold gM; rw [h3]; simp
     exact Vw P Q G Y ys bn yc B rows bc A al na ca C Z zs nz cz (aa hg) hyn hbn eX hzn hna hnz hQ h1 h2 (aa h3) w hY hB hA hZ
    | true =>
     cases h4 : gW Q C with
     | false =>
      obtain rfl : r = false := by rw [← hr']; unfold gM; rw [h4]; simp
      exact Vv P Q G Y ys bn yc B rows bc A al na ca C Z zs nz cz (aa hg) hyn hbn eX hzn hna hnz hQ h1 h2 (aa h3) h4 w hY hB hA hZ
     | true => exact Vu P Q G Y ys bn yc B rows bc A al na ca C Z zs nz cz (aa hg) hyn hbn eX hzn hna hnz hQ h1 h2 (aa h3) h4 r (aa hr') w hY hB hA hZ
   ·
    obtain rfl : r = false := by rw [← hr']; unfold gM; rw [hzn.out, decide_eq_false h2]; simp
    exact Vx P Q G Y ys bn yc B rows bc A al na ca C Z zs nz cz (aa hg) hyn hbn eX hzn hna hnz hQ h1 h2 w hY hB hA hZ
  ·
   obtain rfl : r = false := by rw [← hr']; unfold gM; rw [eX.out, hbn.out, decide_eq_false h1]; simp
   exact Vy P Q G Y ys bn yc B rows bc A al na ca C Z zs nz cz (aa hg) hyn hbn eX hzn hna hnz hQ h1 w hY hB hA hZ
theorem Rx (P Q G : Int) (Y : Option Addr) (ys : List Int) (yn yc : Nat) (B : Option Addr) (rows : List Row) (bn bc : Nat) (A : Option Addr) (al : List Int) (na ca : Nat) (C : Int) (Z : Option Addr) (zs : List Int) (nz cz : Nat) (hyn : Hid (ys.length = yn)) (hbn : Hid (rows.length = bn)) (eX : Hid (al.length = na)) (hzn : Hid (zs.length = nz)) (hna : na < 1000000) (hnz : nz < 1000000) (hQ : Q < 9223372036854775808) (s : ByteArray) (hs : s.size ≤ 1000) (HC : Hid (qY P Q G C ys rows al zs = false)) (w : World) (hY : Hid (Sl w Y ys)) (hB : Hid (Rw w B rows)) (hA : Hid (Sl w A al)) (hZ : Hid (Sl w Z zs)) :
  Calls Tryz.prog 173 #[gv P Q G, gQ Y yn yc B bn bc, .string s, iL A na ca C Z nz cz] w (Rt w (.bool false)) := by
 obtain ⟨w0, HW, ai, kC⟩ := qF (bq P Q G) gq (jw Y yn yc B bn bc) wI (eG A na ca C Z nz cz) p8 w
 have kY := mkS ai hY
 have kB := gV (fun u => Rw u B rows) ai hB (·.below)
 have kA := mkS ai hA
 have kZ := mkS ai hZ
 have ah := bS w0
 clear hY hB hA hZ
 go_in
 go_wp2_with fail
 rw [HW.out]
 have hO := kC
 refine jq [] ah (fun hHeld => ?_)
 refine aH 0 ?_
 refine aH 1 ?_
 refine aH 2 ?_
 refine bW 3 fun K hK => ?_
 go_simp
 (with_reducible refine (sQ P Q G Y ys yn yc B rows bn bc A al na ca C Z zs nz cz hyn hbn eX hzn hna hnz hQ false HC _ ?_ ?_ ?_ ?_).mono ?_); (go_split_ands; exact kY.out _ (by assumption)); (go_split_ands; exact kB.out _ (by assumption)); (go_split_ands; exact kA.out _ (by assumption)); (go_split_ands; exact kZ.out _ (by assumption)); rintro e wA ⟨rfl, bM⟩
 refine hK.out _ _ (bY hHeld bM) (fun hHeld => ?_)
 clear hK K
 try simp only [qq]
 refine aH 4 ?_
 refine jl 5 ?_
 refine jl 6 ?_
 refine aH 7 ?_
 refine aH 8 ?_
 refine dR 9 10 11 12 ?_
 refine dR 13 14 15 16 ?_
 refine jl 17 ?_
 refine aH 18 ?_
 refine aH 19 ?_
 refine gz ?_
 have fA := hHeld
 have bV := ag ai.out fA.out
 go_wp2
 go_ret
 exact ⟨rfl, bV⟩
theorem Rv (P Q G : Int) (Y : Option Addr) (ys : List Int) (yn yc : Nat) (B : Option Addr) (rows : List Row) (bn bc : Nat) (A : Option Addr) (al : List Int) (na ca : Nat) (C : Int) (Z : Option Addr) (zs : List Int) (nz cz : Nat) (hyn : Hid (ys.length = yn)) (hbn : Hid (rows.length = bn)) (eX : Hid (al.length = na)) (hzn : Hid (zs.length = nz)) (hna : na < 1000000) (hnz : nz < 1000000) (hQ : Q < 9223372036854775808) (s : ByteArray) (hs : s.size ≤ 1000) (HC : Hid (qY P Q G C ys rows al zs = true)) (hr : Hid (gI (aU s) = false)) (w : World) (hY : Hid (Sl w Y ys)) (hB : Hid (Rw w B rows)) (hA : Hid (Sl w A al)) (hZ : Hid (Sl w Z zs)) :
  Calls Tryz.prog 173 #[gv P Q G, gQ Y yn yc B bn bc, .string s, iL A na ca C Z nz cz] w (Rt w (.bool false)) := by
 obtain ⟨w0, HW, ai, kC⟩ := qF (bq P Q G) gq (jw Y yn yc B bn bc) wI (eG A na ca C Z nz cz) p8 w
 have kY := mkS ai hY
 have kB := gV (fun u => Rw u B rows) ai hB (·.below)
 have kA := mkS ai hA
 have kZ := mkS ai hZ
 have ah := bS w0
 clear hY hB hA hZ
 go_in
 go_wp2_with fail
 rw [HW.out]
 have hO := kC
 refine jq [] ah (fun hHeld => ?_)
 refine aH 0 ?_
 refine aH 1 ?_
 refine aH 2 ?_
 refine bW 3 fun K hK => ?_
 go_simp
 (with_reducible refine (sQ P Q G Y ys yn yc B rows bn bc A al na ca C Z zs nz cz hyn hbn eX hzn hna hnz hQ true HC _ ?_ ?_ ?_ ?_).mono ?_); (go_split_ands; exact kY.out _ (by assumption)); (go_split_ands; exact kB.out _ (by assumption)); (go_split_ands; exact kA.out _ (by assumption)); (go_split_ands; exact kZ.out _ (by assumption)); rintro e wA ⟨rfl, bM⟩
 refine hK.out _ _ (bY hHeld bM) (fun hHeld => ?_)
 clear hK K
 try simp only [qq]
 refine aH 4 ?_
 refine aH 5 ?_
 refine bW 6 fun K hK => ?_
 go_simp
 (with_reducible refine (pE s hs false hr _).mono ?_); rintro e wB ⟨rfl, rfl⟩
 refine hK.out _ _ hHeld (fun hHeld => ?_)
 clear hK K
 try simp only [qq]
 refine aH 7 ?_
 refine aH 8 ?_
 refine dR 9 10 11 12 ?_
 refine dR 13 14 15 16 ?_
 refine jl 17 ?_
 refine aH 18 ?_
 refine aH 19 ?_
 refine gz ?_
 have fA := hHeld
 have bV := ag ai.out fA.out
 go_wp2
 go_ret
 exact ⟨rfl, bV⟩
theorem Ru (P Q G : Int) (Y : Option Addr) (ys : List Int) (yn yc : Nat) (B : Option Addr) (rows : List Row) (bn bc : Nat) (A : Option Addr) (al : List Int) (na ca : Nat) (C : Int) (Z : Option Addr) (zs : List Int) (nz cz : Nat) (hyn : Hid (ys.length = yn)) (hbn : Hid (rows.length = bn)) (eX : Hid (al.length = na)) (hzn : Hid (zs.length = nz)) (hna : na < 1000000) (hnz : nz < 1000000) (hQ : Q < 9223372036854775808) (s : ByteArray) (hs : s.size ≤ 1000) (HC : Hid (qY P Q G C ys rows al zs = true)) (hr : Hid (gI (aU s) = true)) (D8 : bn ≤ 900) (Ls : Hid (sV [P, Q, G])) (Lp : Hid (sV ys)) (Lt : Hid (sV al)) (Lr : Hid (∀ k, k < rows.length → sV (rows.getD k dh).xs)) (QG : 2 ≤ Q) (QF : Q < 2305843009213693952) (V : Int) (HV : Kp (zb P Q G (aU s) ys rows al = V)) (w : World) (hY : Hid (Sl w Y ys)) (hB : Hid (Rw w B rows)) (hA : Hid (Sl w A al)) (hZ : Hid (Sl w Z zs)) :
  Calls Tryz.prog 173 #[gv P Q G, gQ Y yn yc B bn bc, .string s, iL A na ca C Z nz cz] w (Rt w (.bool (C == V))) := by
 obtain ⟨w0, HW, ai, kC⟩ := qF (bq P Q G) gq (jw Y yn yc B bn bc) wI (eG A na ca C Z nz cz) p8 w
 have kY := mkS ai hY
 have kB := gV (fun u => Rw u B rows) ai hB (·.below)
 have kA := mkS ai hA
 have kZ := mkS ai hZ
 have ah := bS w0
 clear hY hB hA hZ
 go_in
 go_wp2_with fail
 rw [HW.out]
 have hO := kC
 refine jq [] ah (fun hHeld => ?_)
 refine aH 0 ?_
 refine aH 1 ?_
 refine aH 2 ?_
 refine bW 3 fun K hK => ?_
 go_simp
 (with_reducible refine (sQ P Q G Y ys yn yc B rows bn bc A al na ca C Z zs nz cz hyn hbn eX hzn hna hnz hQ true HC _ ?_ ?_ ?_ ?_).mono ?_); (go_split_ands; exact kY.out _ (by assumption)); (go_split_ands; exact kB.out _ (by assumption)); (go_split_ands; exact kA.out _ (by assumption)); (go_split_ands; exact kZ.out _ (by assumption)); rintro e wA ⟨rfl, bM⟩
 refine hK.out _ _ (bY hHeld bM) (fun hHeld => ?_)
 clear hK K
 try simp only [qq]
 refine aH 4 ?_
 refine aH 5 ?_
 refine bW 6 fun K hK => ?_
 go_simp
 (with_reducible refine (pE s hs true hr _).mono ?_); rintro e wB ⟨rfl, rfl⟩
 refine hK.out _ _ hHeld (fun hHeld => ?_)
 clear hK K
 try simp only [qq]
 refine aT 7 8 9 10 ?_
 refine aT 11 12 13 14 ?_
 refine aH 15 ?_
 refine bW 16 fun K hK => ?_
 go_simp
 (with_reducible refine (Fp P Q G Y ys yn yc B rows bn bc A al na ca s hs hr hyn hbn eX D8 Ls Lp Lt Lr QG QF V HV _ ?_ ?_ ?_).mono ?_); (go_split_ands; exact kY.out _ (by assumption)); (go_split_ands; exact kB.out _ (by assumption)); (go_split_ands; exact kA.out _ (by assumption)); rintro e wA ⟨rfl, bM⟩
 refine hK.out _ _ (bY hHeld bM) (fun hHeld => ?_)
 clear hK K
 try simp only [qq]
 refine aH 17 ?_
 refine aH 18 ?_
 refine aH 19 ?_
 refine gz ?_
 have fA := hHeld
 have bV := ag ai.out fA.out
 go_wp2
 go_ret
 exact ⟨rfl, bV⟩
theorem KJ (P Q G : Int) (Y : Option Addr) (ys : List Int) (yn yc : Nat) (B : Option Addr) (rows : List Row) (bn bc : Nat) (A : Option Addr) (al : List Int) (na ca : Nat) (C : Int) (Z : Option Addr) (zs : List Int) (nz cz : Nat) (hyn : Hid (ys.length = yn)) (hbn : Hid (rows.length = bn)) (eX : Hid (al.length = na)) (hzn : Hid (zs.length = nz)) (hna : na < 1000000) (hnz : nz < 1000000) (hQ : Q < 9223372036854775808) (s : ByteArray) (hs : s.size ≤ 1000) (r : Bool) (hr : Kp (vD P Q G C (aU s) ys rows al zs = r)) (w : World) (hY : Hid (Sl w Y ys)) (hB : Hid (Rw w B rows)) (hA : Hid (Sl w A al)) (hZ : Hid (Sl w Z zs)) :
  Calls Tryz.prog 173 #[gv P Q G, gQ Y yn yc B bn bc, .string s, iL A na ca C Z nz cz] w (Rt w (.bool r)) := by
 cases hc : qY P Q G C ys rows al zs with
 | false =>
  obtain rfl : r = false := by rw [← hr.1, vD, hc]; rfl
  exact Rx P Q G Y ys yn yc B rows bn bc A al na ca C Z zs nz cz hyn hbn eX hzn hna hnz hQ s hs (aa hc) w hY hB hA hZ
 | true =>
  have hcc := hc
  simp only [qY, Bool.and_eq_true] at hcc
  obtain ⟨hg, hcb⟩ := hcc
  obtain ⟨v1, v2, v3, v4, v5, v6, v7, v8⟩ := bJ hg
  obtain ⟨p1, p2, p3, p4⟩ := bH v1
  obtain ⟨Ls, Lp, Lr⟩ := CQ hg hB.out
  have D8 : bn ≤ 900 := by rw [← hbn.out]; omega
  have Lt : sV al := by rw [← (pW hcb).2.2.2.2]; exact Db p1 p2 (by omega)
  cases hlb : gI (aU s) with
  | false =>
   obtain rfl : r = false := by rw [← hr.1, vD, hlb, Bool.false_and, Bool.and_false]
   exact Rv P Q G Y ys yn yc B rows bn bc A al na ca C Z zs nz cz hyn hbn eX hzn hna hnz hQ s hs (aa hc) (aa hlb) w hY hB hA hZ
  | true =>
   obtain ⟨V, hV⟩ : ∃ V, zb P Q G (aU s) ys rows al = V := ⟨_, rfl⟩
   obtain rfl : (C == V) = r := by
    rw [← hr.1, vD, hc, hlb, hV, Bool.true_and, Bool.true_and, Bool.eq_iff_iff]
    simp only [beq_iff_eq]
    exact eq_comm
   exact Ru P Q G Y ys yn yc B rows bn bc A al na ca C Z zs nz cz hyn hbn eX hzn hna hnz hQ s hs (aa hc) (aa hlb) D8 (aa Ls) (aa Lp) (aa Lt) (aa Lr) (by omega) (by omega) V ⟨hV⟩ w hY hB hA hZ
theorem Ee (P Q G : Int) (b : Nat) (n c : Nat) (hv0 : Hid (aV P Q G = false)) (hQ : Q < 9223372036854775808) (w : World) (hv : Hid (Vars w)) :
  Calls Tryz.prog 200 #[gv P Q G, .slice (some ⟨b, 0, none⟩) n c] w (Rt w (.int .i64 1)) := by
 have HB0 := aa (aW w P Q G)
 have qy := aa (hv.out.below (af w (bq P Q G)))
 go_in
 go_wp2_with fail
 refine (dB P Q G false hv0 hQ _ qy).mono ?_
 rintro e w1 ⟨rfl, hb0⟩
 have hb1 := ag (af _ _) hb0
 clear hb0
 go_wp2
 go_ret
 exact ⟨rfl, hb1⟩
theorem BQ (P Q G : Int) (b : Nat) (xs : List Int) (c : Nat) (hlen : xs.length < 1000) (r : Int) (hr : Hid ((if xs.all (aG P Q) = true then 0 else 2) = r)) (hv0 : Hid (aV P Q G = true)) (hQ : Q < 9223372036854775808) (w : World) (hv : Hid (Vars w)) (hc : Hid (Cells w b xs)) :
  Calls Tryz.prog 200 #[gv P Q G, .slice (some ⟨b, 0, none⟩) xs.length c] w (Rt w (.int .i64 r)) := by
 obtain ⟨hp2, hp, hq3, Av⟩ := bH hv0.out
 have HB0 := aa (aW w P Q G)
 have qy := aa (hv.out.below (af w (bq P Q G)))
 have tQ := aa (hc.out.below (af w (bq P Q G)))
 obtain ⟨n, hn⟩ : ∃ n, xs.length = n := ⟨_, rfl⟩
 rw [hn] at hlen ⊢
 have HN := aa hn
 clear hn
 go_in
 go_wp2_with fail
 refine (dB P Q G true hv0 hQ _ qy).mono ?_
 rintro e w1 ⟨rfl, hb0⟩
 have HB1 := aa (ag (af _ _) hb0)
 have Yb := aa hb0
 have Qi := aa (HB0.out.below hb0)
 have HC1 := aa (tQ.out.below hb0)
 clear hb0
 go_wp2
 go_loopw [12] (fun i wr => ∃ k : Nat, k ≤ n ∧ i = .int .i64 k ∧ Hid (xs.all (aG P Q) = (xs.drop k).all (aG P Q)) ∧ Hid (Below w1.heap.size w1 wr)) (fun i _ => n - (intOf i).toNat)
 case atStart => exact ⟨0, by omega, rfl, aa rfl, aa (Below.refl _ _)⟩
 case round =>
  obtain ⟨k, hk, rfl, HR, au⟩ := hrel
  by_cases hlt : k < n
  ·
   have hkl : k < xs.length := by rw [HN.out]; exact hlt
   have hi := HC1.out.below au.out k hkl
   obtain ⟨c0, c1, c2⟩ := Qi.out.below au.out
   cases hm : aG P Q (xs.getD k 0) with
   | true =>
    have HS : Hid (xs.all (aG P Q) = (xs.drop (k + 1)).all (aG P Q)) := aa (HR.out.trans (jT hkl hm))
    obtain ⟨x, hx⟩ : ∃ x, xs.getD k 0 = x := ⟨_, rfl⟩
    rw [hx] at hi hm
    have HM := aa hm
    clear hx hm HR hkl
    go_wp2_with fail
    refine (dU P Q G x true (aa (by rw [uT, hv0.out, HM.out]; rfl)) hQ _ (aa (qy.out.below (ag Yb.out au.out)))).mono ?_
    rintro e w2 ⟨rfl, hb0⟩
    have HB2 := aa (ag au.out hb0)
    clear hb0
    go_wp2
    go_roundw
    case rel => exact ⟨k + 1, by omega, by go_num, HS, HB2⟩
    case measure => simp [intOf]; omega
   | false =>
    obtain rfl : r = 2 := by rw [← hr.out, HR.out, lT hkl hm]; rfl
    obtain ⟨x, hx⟩ : ∃ x, xs.getD k 0 = x := ⟨_, rfl⟩
    rw [hx] at hi hm
    have HM := aa hm
    clear hx hm HR hkl
    go_wp2_with fail
    refine (dU P Q G x false (aa (by rw [uT, hv0.out, HM.out]; rfl)) hQ _ (aa (qy.out.below (ag Yb.out au.out)))).mono ?_
    rintro e w2 ⟨rfl, hb0⟩
    have HB2 := aa (ag (ag HB1.out au.out) hb0)
    clear hb0
    go_wp2
    go_ret
    exact ⟨rfl, HB2.out⟩
  ·
   obtain rfl : k = n := by omega
   obtain rfl : r = 0 := by rw [← hr.out, HR.out, ← HN.out]; simp
   have HB2 := aa (ag HB1.out au.out)
   clear HR
   go_wp2
   go_ret
   exact ⟨rfl, HB2.out⟩
theorem wE (P Q G : Int) (b : Nat) (xs : List Int) (n c : Nat) (hn : Hid (xs.length = n)) (hlen : n < 1000) (r : Int) (hr : Hid (jE P Q G xs = r)) (hQ : Q < 9223372036854775808) (w : World) (hv : Hid (Vars w)) (hc : Hid (Cells w b xs)) :
  Calls Tryz.prog 200 #[gv P Q G, .slice (some ⟨b, 0, none⟩) n c] w (Rt w (.int .i64 r)) := by
 cases hval : aV P Q G with
 | false =>
  obtain rfl : r = 1 := by rw [← hr.out, jE, hval]; rfl
  exact Ee P Q G b n c hval hQ w hv
 | true =>
  rw [← hn.out]
  refine BQ P Q G b xs c (by rw [hn.out]; exact hlen) r ?_ hval hQ w hv hc
  rw [← hr.out, jE, if_pos hval]; exact rfl
def nM (A1 B1 : Option Addr) (a b : Int) : List Row := [⟨A1, 1, 1, [a]⟩, ⟨B1, 1, 1, [b]⟩]
def Q9 (a ya b yb : Int) (w : World) (e : Ending) (w' : World) : Prop := ∃ Y B A1 B1, e = .returned (gQ Y 2 2 B 2 2) ∧ Sl w' Y [ya, yb] ∧ Rw w' B (nM A1 B1 a b) ∧ Below w.heap.size w w'
theorem five (w : World) (o1 o2 o3 o4 o5 : Obj) : let W := ((((w.alloc o1).alloc o2).alloc o3).alloc o4).alloc o5
  W.heap[w.heap.size]? = some o1 ∧ W.heap[w.heap.size + 1]? = some o2 ∧ W.heap[w.heap.size + 1 + 1]? = some o3 ∧ W.heap[w.heap.size + 1 + 1 + 1]? = some o4 ∧ W.heap[w.heap.size + 1 + 1 + 1 + 1]? = some o5 ∧ Below w.heap.size w W := by
 have e1 : (w.alloc o1).heap.size = w.heap.size + 1 := by simp
 have e2 : ((w.alloc o1).alloc o2).heap.size = w.heap.size + 1 + 1 := by simp
 have e3 : (((w.alloc o1).alloc o2).alloc o3).heap.size = w.heap.size + 1 + 1 + 1 := by simp
 have e4 : ((((w.alloc o1).alloc o2).alloc o3).alloc o4).heap.size = w.heap.size + 1 + 1 + 1 + 1 := by simp
 have b1 := af (w.alloc o1) o2
 have b2 := ag b1 (af _ o3)
 have b3 := ag b2 (af _ o4)
 have b4 := ag b3 (af _ o5)
 have c2 := ag (ag (af ((w.alloc o1).alloc o2) o3) (af _ o4)) (af _ o5)
 have c3 := ag (af (((w.alloc o1).alloc o2).alloc o3) o4) (af _ o5)
 have c4 := af ((((w.alloc o1).alloc o2).alloc o3).alloc o4) o5
 refine ⟨(b4.block _ (by omega)).trans (heap_alloc_new _ _), (c2.block _ (by omega)).trans ?_, (c3.block _ (by omega)).trans ?_, (c4.block _ (by omega)).trans ?_, ?_, ag (af w o1) b4⟩
 · rw [← e1]; exact heap_alloc_new _ _
 · rw [← e2]; exact heap_alloc_new _ _
 · rw [← e3]; exact heap_alloc_new _ _
 · rw [← e4]; exact heap_alloc_new _ _
theorem nJ {w : World} {g : Nat} {cs : Array Value} {T : TypeId} {xs : List Int} (h : w.heap[g]? = some (.cells cs T)) (hc : ∀ k, k < xs.length → cs[k]? = some (.int .i64 (xs.getD k 0))) : Sl w (some ⟨g, 0, none⟩) xs :=
 fun k hk => ⟨g, 0, rfl, by rw [Nat.zero_add, ak h]; exact hc k hk⟩
theorem Ff {w : World} {g : Nat} {T : TypeId} {A1 B1 : Option Addr} {a b : Int} (h : w.heap[g]? = some (.cells #[.slice A1 1 1, .slice B1 1 1] T)) (ha : Sl w A1 [a]) (hb : Sl w B1 [b]) : Rw w (some ⟨g, 0, none⟩) (nM A1 B1 a b) := fun k hk => by
 match k, hk with
 | 0, _ => exact ⟨⟨g, 0, rfl, by rw [ak h]; rfl⟩, rfl, ha⟩
 | 1, _ => exact ⟨⟨g, 0, rfl, by rw [ak h]; rfl⟩, rfl, hb⟩
theorem zL (a ya b yb : Int) (w : World) : Calls Tryz.prog 202 #[.int .i64 a, .int .i64 ya, .int .i64 b, .int .i64 yb] w (Q9 a ya b yb w) := by
 go_in
 go_wp2
 obtain ⟨h0, h1, h2, h3, h4, hb⟩ := five w (.cells #[.slice (some ⟨w.heap.size + 1, 0, none⟩) 2 2, .slice (some ⟨w.heap.size + 1 + 1 + 1 + 1, 0, none⟩) 2 2] 189) (.cells #[.int .i64 ya, .int .i64 yb] 3) (.cells #[.int .i64 a] 3) (.cells #[.int .i64 b] 3) (.cells #[.slice (some ⟨w.heap.size + 1 + 1, 0, none⟩) 1 1, .slice (some ⟨w.heap.size + 1 + 1 + 1, 0, none⟩) 1 1] 24)
 exact bodyPost_ret (v := gQ (some ⟨w.heap.size + 1, 0, none⟩) 2 2 (some ⟨w.heap.size + 1 + 1 + 1 + 1, 0, none⟩) 2 2) (aC (p := 8) (ty := 189) rfl _ _ ⟨w.heap.size, 0, none⟩ _ rfl (run_loadVar_row _ _ _ _ _ _ _ h0 Tryz.underlying189 rfl (by kernel_rfl))) rfl
  ⟨_, _, some ⟨w.heap.size + 1 + 1, 0, none⟩, some ⟨w.heap.size + 1 + 1 + 1, 0, none⟩, rfl, nJ h1 (fun k hk => by match k, hk with | 0, _ => rfl | 1, _ => rfl), Ff h4 (nJ h2 (fun k hk => by match k, hk with | 0, _ => rfl)) (nJ h3 (fun k hk => by match k, hk with | 0, _ => rfl)), hb⟩
theorem yG (a ya b yb : Int) (w : World) : Calls Tryz.prog 174 #[.int .i64 a, .int .i64 ya, .int .i64 b, .int .i64 yb] w (Q9 a ya b yb w) := by
 go_in
 go_wp2
 obtain ⟨h0, h1, h2, h3, h4, hb⟩ := five w (.cells #[.slice (some ⟨w.heap.size + 1, 0, none⟩) 2 2, .slice (some ⟨w.heap.size + 1 + 1 + 1 + 1, 0, none⟩) 2 2] 189) (.cells #[.int .i64 ya, .int .i64 yb] 3) (.cells #[.int .i64 a] 3) (.cells #[.int .i64 b] 3) (.cells #[.slice (some ⟨w.heap.size + 1 + 1, 0, none⟩) 1 1, .slice (some ⟨w.heap.size + 1 + 1 + 1, 0, none⟩) 1 1] 24)
 exact bodyPost_ret (v := gQ (some ⟨w.heap.size + 1, 0, none⟩) 2 2 (some ⟨w.heap.size + 1 + 1 + 1 + 1, 0, none⟩) 2 2) (aC (p := 8) (ty := 189) rfl _ _ ⟨w.heap.size, 0, none⟩ _ rfl (run_loadVar_row _ _ _ _ _ _ _ h0 Tryz.underlying189 rfl (by kernel_rfl))) rfl
  ⟨_, _, some ⟨w.heap.size + 1 + 1, 0, none⟩, some ⟨w.heap.size + 1 + 1 + 1, 0, none⟩, rfl, nJ h1 (fun k hk => by match k, hk with | 0, _ => rfl | 1, _ => rfl), Ff h4 (nJ h2 (fun k hk => by match k, hk with | 0, _ => rfl)) (nJ h3 (fun k hk => by match k, hk with | 0, _ => rfl)), hb⟩
theorem M8 (w : World) (T : TypeId) (a b c d : Int) : Cells (w.alloc (.cells #[.int .i64 a, .int .i64 b, .int .i64 c, .int .i64 d] T)) w.heap.size [a, b, c, d] := by
 intro k hk
 rw [World.cell?_alloc_at _ _ _ _ rfl]
 match k, hk with
 | 0, _ => rfl
 | 1, _ => rfl
 | 2, _ => rfl
 | 3, _ => rfl
def AA (P Q G a ya b yb C : Int) (lb al zs : List Int) : Bool := jE P Q G [a, ya, b, yb] == 0 && vD P Q G C lb [ya, yb] (nM none none a b) al zs
theorem z_ {P Q G a b C : Int} {lb ys al zs : List Int} (A1 B1 : Option Addr) : vD P Q G C lb ys (nM A1 B1 a b) al zs = vD P Q G C lb ys (nM none none a b) al zs := rfl
theorem Tw (P Q G a ya b yb : Int) (A : Option Addr) (al : List Int) (na ca : Nat) (C : Int) (Z : Option Addr) (zs : List Int) (nz cz : Nat) (eX : Hid (al.length = na)) (hzn : Hid (zs.length = nz)) (hna : na < 1000000) (hnz : nz < 1000000) (hQ : Q < 9223372036854775808) (s : ByteArray) (r : Int) (HCK : Hid (jE P Q G [a, ya, b, yb] = r)) (hne : (r == 0) = false) (w : World) (hv : Hid (Vars w)) (hd : Hid (bF w)) (hA : Hid (Sl w A al)) (hZ : Hid (Sl w Z zs)) :
  Calls Tryz.prog 168 #[gv P Q G, .int .i64 a, .int .i64 ya, .int .i64 b, .int .i64 yb, .string s, iL A na ca C Z nz cz] w (Rt w (.bool false)) := by
 have e0 : ((r : Int) == 0) = false := by simpa using hne
 obtain ⟨w0, HW, ai, kC⟩ := st2 (bq P Q G) gq (eG A na ca C Z nz cz) p8 w
 have kV := mkV ai hv
 have kA := mkS ai hA
 have kZ := mkS ai hZ
 have kD := r_ ai hd
 have ah := bS w0
 clear hv hd hA hZ
 go_in
 go_wp2_with fail
 rw [HW.out]
 have hO := kC
 refine jq [] ah (fun hHeld => ?_)
 refine aT 0 1 2 3 ?_
 refine aH 4 ?_
 refine bW 5 fun K hK => ?_
 go_simp
 refine hK.out _ _ (bY hHeld (af _ _)) (fun hHeld => ?_)
 clear hK K
 try simp only [qq]
 refine bW 6 fun K hK => ?_
 go_simp
 refine (wE P Q G w0.heap.size [a, ya, b, yb] 4 4 (aa rfl) (by omega) r HCK hQ _ (kV.out _ hHeld) (aa (M8 w0.drew _ a ya b yb))).mono ?_
 rintro e wA ⟨rfl, bM⟩
 refine hK.out _ _ (bY hHeld bM) (fun hHeld => ?_)
 clear hK K
 try simp only [qq]
 refine aH 7 ?_
 refine aH 8 ?_
 refine dR 9 10 11 12 ?_
 refine dR 13 14 15 16 ?_
 refine jl 17 ?_
 refine aH 18 ?_
 refine aH 19 ?_
 refine gz ?_
 have fA := hHeld
 have bV := ag ai.out fA.out
 go_wp2
 go_ret
 exact ⟨rfl, bV⟩
theorem Tv (P Q G a ya b yb : Int) (A : Option Addr) (al : List Int) (na ca : Nat) (C : Int) (Z : Option Addr) (zs : List Int) (nz cz : Nat) (eX : Hid (al.length = na)) (hzn : Hid (zs.length = nz)) (hna : na < 1000000) (hnz : nz < 1000000) (hQ : Q < 9223372036854775808) (s : ByteArray) (hs : s.size ≤ 1000) (HCK : Hid (jE P Q G [a, ya, b, yb] = 0)) (r : Bool) (zn : Kp (vD P Q G C (aU s) [ya, yb] (nM none none a b) al zs = r)) (w : World) (hv : Hid (Vars w)) (hd : Hid (bF w)) (hA : Hid (Sl w A al)) (hZ : Hid (Sl w Z zs)) :
  Calls Tryz.prog 168 #[gv P Q G, .int .i64 a, .int .i64 ya, .int .i64 b, .int .i64 yb, .string s, iL A na ca C Z nz cz] w (Rt w (.bool r)) := by
 obtain ⟨w0, HW, ai, kC⟩ := st2 (bq P Q G) gq (eG A na ca C Z nz cz) p8 w
 have kV := mkV ai hv
 have kA := mkS ai hA
 have kZ := mkS ai hZ
 have kD := r_ ai hd
 have ah := bS w0
 clear hv hd hA hZ
 go_in
 go_wp2_with fail
 rw [HW.out]
 have hO := kC
 refine jq [] ah (fun hHeld => ?_)
 refine aT 0 1 2 3 ?_
 refine aH 4 ?_
 refine bW 5 fun K hK => ?_
 go_simp
 refine hK.out _ _ (bY hHeld (af _ _)) (fun hHeld => ?_)
 clear hK K
 try simp only [qq]
 refine bW 6 fun K hK => ?_
 go_simp
 refine (wE P Q G w0.heap.size [a, ya, b, yb] 4 4 (aa rfl) (by omega) 0 HCK hQ _ (kV.out _ hHeld) (aa (M8 w0.drew _ a ya b yb))).mono ?_
 rintro e wA ⟨rfl, bM⟩
 refine hK.out _ _ (bY hHeld bM) (fun hHeld => ?_)
 clear hK K
 try simp only [qq]
 refine aT 7 8 9 10 ?_
 refine aT 11 12 13 15 ?_
 refine aH 16 ?_
 refine bW 14 fun K hK => ?_
 go_simp
 refine (zL a ya b yb _).mono ?_
 intro e wB hR
 obtain ⟨Y, B, A1, B1, rfl, hY, hB, bM⟩ := hR
 refine hK.out _ _ (bY hHeld bM) (fun hHeld => ?_)
 clear hK K
 try simp only [qq]
 refine bW 17 fun K hK => ?_
 go_simp
 refine (LD P Q G Y [ya, yb] 2 2 B (nM A1 B1 a b) 2 2 A al na ca C Z zs nz cz (aa rfl) (aa rfl) eX hzn hna hnz hQ s hs r ⟨(z_ A1 B1).trans zn.1⟩ _ (kV.out _ hHeld) (kD.out _ hHeld) (aa hY) (aa hB) (kA.out _ hHeld) (kZ.out _ hHeld)).mono ?_
 rintro e wC ⟨rfl, bM⟩
 refine hK.out _ _ (bY hHeld bM) (fun hHeld => ?_)
 clear hK K
 try simp only [qq]
 refine aH 18 ?_
 refine aH 19 ?_
 refine gz ?_
 have fA := hHeld
 have bV := ag ai.out fA.out
 go_wp2
 go_ret
 exact ⟨rfl, bV⟩
theorem ML (P Q G a ya b yb : Int) (A : Option Addr) (al : List Int) (na ca : Nat) (C : Int) (Z : Option Addr) (zs : List Int) (nz cz : Nat) (eX : Hid (al.length = na)) (hzn : Hid (zs.length = nz)) (hna : na < 1000000) (hnz : nz < 1000000) (hQ : Q < 9223372036854775808) (s : ByteArray) (hs : s.size ≤ 1000) (r : Bool) (hr : Kp (AA P Q G a ya b yb C (aU s) al zs = r)) (w : World) (hv : Hid (Vars w)) (hd : Hid (bF w)) (hA : Hid (Sl w A al)) (hZ : Hid (Sl w Z zs)) :
  Calls Tryz.prog 168 #[gv P Q G, .int .i64 a, .int .i64 ya, .int .i64 b, .int .i64 yb, .string s, iL A na ca C Z nz cz] w (Rt w (.bool r)) := by
 obtain ⟨k, hk⟩ : ∃ k, jE P Q G [a, ya, b, yb] = k := ⟨_, rfl⟩
 have hr' := hr.1
 rw [AA, hk] at hr'
 cases h0 : (k == 0) with
 | false =>
  obtain rfl : r = false := by rw [← hr', h0]; rfl
  exact Tw P Q G a ya b yb A al na ca C Z zs nz cz eX hzn hna hnz hQ s k (aa hk) h0 w hv hd hA hZ
 | true =>
  obtain rfl : k = 0 := by simpa using h0
  exact Tv P Q G a ya b yb A al na ca C Z zs nz cz eX hzn hna hnz hQ s hs (aa hk) r ⟨by rw [← hr']; simp⟩ w hv hd hA hZ
theorem ZY (P Q G a ya b yb : Int) (HV : Hid (aV P Q G = false)) (hQ : Q < 9223372036854775808) (w : World) :
  Calls Tryz.prog 172 #[gv P Q G, .int .i64 a, .int .i64 ya, .int .i64 b, .int .i64 yb] w (Rt w (.int .i64 1)) := by
 obtain ⟨w0, HW, ai, kC⟩ := st1 (bq P Q G) p8 w
 have ah := bS w0
 go_in
 go_wp2_with fail
 rw [HW.out]
 have zc := kC.out _ ah
 go_wp2_with fail
 clear zc
 refine eB kC ah (bT P Q G false HV hQ _) fun w1 aD zc => ?_
 go_wp2
 go_ret
 exact ⟨rfl, fe ai aD⟩
theorem Z6 (P Q G a ya b yb : Int) (HV : Hid (aV P Q G = true)) (J_ : Hid (aG P Q a = false)) (hQ : Q < 9223372036854775808) (w : World) :
  Calls Tryz.prog 172 #[gv P Q G, .int .i64 a, .int .i64 ya, .int .i64 b, .int .i64 yb] w (Rt w (.int .i64 2)) := by
 obtain ⟨hp2, hp, hq3, Av⟩ := bH HV.out
 obtain ⟨w0, HW, ai, kC⟩ := st1 (bq P Q G) p8 w
 have ah := bS w0
 go_in
 go_wp2_with fail
 rw [HW.out]
 have zc := kC.out _ ah
 go_wp2_with fail
 clear zc
 refine eB kC ah (bT P Q G true HV hQ _) fun w1 aD zc => ?_
 go_wp2_with fail
 clear zc
 refine eB kC aD (aP P Q G a false J_ hp (by omega) hQ _) fun w2 aN zc => ?_
 go_wp2
 go_ret
 exact ⟨rfl, fe ai aN⟩
theorem Z5 (P Q G a ya b yb : Int) (HV : Hid (aV P Q G = true)) (J_ : Hid (aG P Q a = true)) (Us : Hid (aG P Q ya = false)) (hQ : Q < 9223372036854775808) (w : World) :
  Calls Tryz.prog 172 #[gv P Q G, .int .i64 a, .int .i64 ya, .int .i64 b, .int .i64 yb] w (Rt w (.int .i64 2)) := by
 obtain ⟨hp2, hp, hq3, Av⟩ := bH HV.out
 obtain ⟨w0, HW, ai, kC⟩ := st1 (bq P Q G) p8 w
 have ah := bS w0
 go_in
 go_wp2_with fail
 rw [HW.out]
 have zc := kC.out _ ah
 go_wp2_with fail
 clear zc
 refine eB kC ah (bT P Q G true HV hQ _) fun w1 aD zc => ?_
 go_wp2_with fail
 clear zc
 refine eB kC aD (aP P Q G a true J_ hp (by omega) hQ _) fun w2 aN zc => ?_
 go_wp2_with fail
 clear zc
 refine eB kC aN (aP P Q G ya false Us hp (by omega) hQ _) fun w3 bu zc => ?_
 go_wp2
 go_ret
 exact ⟨rfl, fe ai bu⟩
theorem Z4 (P Q G a ya b yb : Int) (HV : Hid (aV P Q G = true)) (J_ : Hid (aG P Q a = true)) (Us : Hid (aG P Q ya = true)) (XJ : Hid (aG P Q b = false)) (hQ : Q < 9223372036854775808) (w : World) :
  Calls Tryz.prog 172 #[gv P Q G, .int .i64 a, .int .i64 ya, .int .i64 b, .int .i64 yb] w (Rt w (.int .i64 2)) := by
 obtain ⟨hp2, hp, hq3, Av⟩ := bH HV.out
 obtain ⟨w0, HW, ai, kC⟩ := st1 (bq P Q G) p8 w
 have ah := bS w0
 go_in
 go_wp2_with fail
 rw [HW.out]
 have zc := kC.out _ ah
 go_wp2_with fail
 clear zc
 refine eB kC ah (bT P Q G true HV hQ _) fun w1 aD zc => ?_
 go_wp2_with fail
 clear zc
 refine eB kC aD (aP P Q G a true J_ hp (by omega) hQ _) fun w2 aN zc => ?_
 go_wp2_with fail
 clear zc
 refine eB kC aN (aP P Q G ya true Us hp (by omega) hQ _) fun w3 bu zc => ?_
 go_wp2_with fail
 clear zc
 refine eB kC bu (aP P Q G b false XJ hp (by omega) hQ _) fun w4 dm zc => ?_
 go_wp2
 go_ret
 exact ⟨rfl, fe ai dm⟩
theorem Z0 (P Q G a ya b yb : Int) (HV : Hid (aV P Q G = true)) (J_ : Hid (aG P Q a = true)) (Us : Hid (aG P Q ya = true)) (XJ : Hid (aG P Q b = true)) (HM3 : Hid (aG P Q yb = false)) (hQ : Q < 9223372036854775808) (w : World) :
  Calls Tryz.prog 172 #[gv P Q G, .int .i64 a, .int .i64 ya, .int .i64 b, .int .i64 yb] w (Rt w (.int .i64 2)) := by
 obtain ⟨hp2, hp, hq3, Av⟩ := bH HV.out
 obtain ⟨w0, HW, ai, kC⟩ := st1 (bq P Q G) p8 w
 have ah := bS w0
 go_in
 go_wp2_with fail
 rw [HW.out]
 have zc := kC.out _ ah
 go_wp2_with fail
 clear zc
 refine eB kC ah (bT P Q G true HV hQ _) fun w1 aD zc => ?_
 go_wp2_with fail
 clear zc
 refine eB kC aD (aP P Q G a true J_ hp (by omega) hQ _) fun w2 aN zc => ?_
 go_wp2_with fail
 clear zc
 refine eB kC aN (aP P Q G ya true Us hp (by omega) hQ _) fun w3 bu zc => ?_
 go_wp2_with fail
 clear zc
 refine eB kC bu (aP P Q G b true XJ hp (by omega) hQ _) fun w4 dm zc => ?_
 go_wp2_with fail
 clear zc
 refine eB kC dm (aP P Q G yb false HM3 hp (by omega) hQ _) fun w5 jh zc => ?_
 go_wp2
 go_ret
 exact ⟨rfl, fe ai jh⟩
theorem ZZ (P Q G a ya b yb : Int) (HV : Hid (aV P Q G = true)) (J_ : Hid (aG P Q a = true)) (Us : Hid (aG P Q ya = true)) (XJ : Hid (aG P Q b = true)) (HM3 : Hid (aG P Q yb = true)) (hQ : Q < 9223372036854775808) (w : World) :
  Calls Tryz.prog 172 #[gv P Q G, .int .i64 a, .int .i64 ya, .int .i64 b, .int .i64 yb] w (Rt w (.int .i64 0)) := by
 obtain ⟨hp2, hp, hq3, Av⟩ := bH HV.out
 obtain ⟨w0, HW, ai, kC⟩ := st1 (bq P Q G) p8 w
 have ah := bS w0
 go_in
 go_wp2_with fail
 rw [HW.out]
 have zc := kC.out _ ah
 go_wp2_with fail
 clear zc
 refine eB kC ah (bT P Q G true HV hQ _) fun w1 aD zc => ?_
 go_wp2_with fail
 clear zc
 refine eB kC aD (aP P Q G a true J_ hp (by omega) hQ _) fun w2 aN zc => ?_
 go_wp2_with fail
 clear zc
 refine eB kC aN (aP P Q G ya true Us hp (by omega) hQ _) fun w3 bu zc => ?_
 go_wp2_with fail
 clear zc
 refine eB kC bu (aP P Q G b true XJ hp (by omega) hQ _) fun w4 dm zc => ?_
 go_wp2_with fail
 clear zc
 refine eB kC dm (aP P Q G yb true HM3 hp (by omega) hQ _) fun w5 jh zc => ?_
 go_wp2
 go_ret
 exact ⟨rfl, fe ai jh⟩
theorem uw (P Q G a ya b yb r : Int) (hr : Hid (jE P Q G [a, ya, b, yb] = r)) (hQ : Q < 9223372036854775808) (w : World) :
  Calls Tryz.prog 172 #[gv P Q G, .int .i64 a, .int .i64 ya, .int .i64 b, .int .i64 yb] w (Rt w (.int .i64 r)) := by
 have hr' := hr.out
 unfold jE at hr'
 cases hv : aV P Q G with
 | false =>
  obtain rfl : r = 1 := by rw [← hr', hv]; rfl
  exact ZY P Q G a ya b yb (aa hv) hQ w
 | true =>
  rw [hv, if_pos rfl] at hr'
  simp only [List.all_cons, List.all_nil, Bool.and_true] at hr'
  cases h0 : aG P Q a with
  | false =>
   obtain rfl : r = 2 := by rw [← hr', h0]; rfl
   exact Z6 P Q G a ya b yb (aa hv) (aa h0) hQ w
  | true =>
   cases h1 : aG P Q ya with
   | false =>
    obtain rfl : r = 2 := by rw [← hr', h0, h1]; rfl
    exact Z5 P Q G a ya b yb (aa hv) (aa h0) (aa h1) hQ w
   | true =>
    cases h2 : aG P Q b with
    | false =>
     obtain rfl : r = 2 := by rw [← hr', h0, h1, h2]; rfl
     exact Z4 P Q G a ya b yb (aa hv) (aa h0) (aa h1) (aa h2) hQ w
    | true =>
     cases h3 : aG P Q yb with
     | false =>
      obtain rfl : r = 2 := by rw [← hr', h0, h1, h2, h3]; rfl
      exact Z0 P Q G a ya b yb (aa hv) (aa h0) (aa h1) (aa h2) (aa h3) hQ w
     | true =>
      obtain rfl : r = 0 := by rw [← hr', h0, h1, h2, h3]; rfl
      exact ZZ P Q G a ya b yb (aa hv) (aa h0) (aa h1) (aa h2) (aa h3) hQ w
def EL (a ya b yb : Int) (g : Nat) (w : World) : Prop := w.heap[g + 1]? = some (.cells #[.int .i64 ya, .int .i64 yb] 3) ∧ w.heap[g + 1 + 1]? = some (.cells #[.int .i64 a] 3) ∧ w.heap[g + 1 + 1 + 1]? = some (.cells #[.int .i64 b] 3) ∧ w.heap[g + 1 + 1 + 1 + 1]? = some (.cells #[.slice (some ⟨g + 1 + 1, 0, none⟩) 1 1, .slice (some ⟨g + 1 + 1 + 1, 0, none⟩) 1 1] 24)
theorem EL.set {a ya b yb : Int} {g : Nat} {w : World} (h : EL a ya b yb g w) {k : Nat} (hk : k < g) (j : Nat) (v : Value) : EL a ya b yb g (w.setCell ⟨k, j, none⟩ v) := by
 obtain ⟨h1, h2, h3, h4⟩ := h
 refine ⟨?_, ?_, ?_, ?_⟩
 · rw [Go.Deep.blk_setCell_other _ _ _ _ (show g + 1 ≠ k by omega)]; exact h1
 · rw [Go.Deep.blk_setCell_other _ _ _ _ (show g + 1 + 1 ≠ k by omega)]; exact h2
 · rw [Go.Deep.blk_setCell_other _ _ _ _ (show g + 1 + 1 + 1 ≠ k by omega)]; exact h3
 · rw [Go.Deep.blk_setCell_other _ _ _ _ (show g + 1 + 1 + 1 + 1 ≠ k by omega)]; exact h4
theorem EL.sl {a ya b yb : Int} {g : Nat} {w : World} (h : EL a ya b yb g w) : Sl w (some ⟨g + 1, 0, none⟩) [ya, yb] ∧ Rw w (some ⟨g + 1 + 1 + 1 + 1, 0, none⟩) (nM (some ⟨g + 1 + 1, 0, none⟩) (some ⟨g + 1 + 1 + 1, 0, none⟩) a b) := by
 obtain ⟨h1, h2, h3, h4⟩ := h
 exact ⟨nJ h1 (fun k hk => by match k, hk with | 0, _ => rfl | 1, _ => rfl), Ff h4 (nJ h2 (fun k hk => by match k, hk with | 0, _ => rfl)) (nJ h3 (fun k hk => by match k, hk with | 0, _ => rfl))⟩
def UO (w : World) (a : Nat) (P Q G A B H : Int) : Prop := (w.cell? ⟨a, 0, none⟩ = some (.int .i64 P) ∧ w.cell? ⟨a, 1, none⟩ = some (.int .i64 Q) ∧ w.cell? ⟨a, 2, none⟩ = some (.int .i64 G)) ∧
 w.cell? ⟨a, 3, none⟩ = some (.int .i64 A) ∧ w.cell? ⟨a, 4, none⟩ = some (.int .i64 B) ∧ w.cell? ⟨a, 5, none⟩ = some (.int .i64 H)
theorem UO.below {w w' : World} {a : Nat} {P Q G A B H : Int} (h : UO w a P Q G A B H) (hb : Below w.heap.size w w') : UO w' a P Q G A B H :=
 have f : ∀ {p : Addr} {v : Value}, w.cell? p = some v → w'.cell? p = some v := fun h => (hb.cell (World.block_lt_of_cell? _ _ h)).trans h
 ⟨⟨f h.1.1, f h.1.2.1, f h.1.2.2⟩, f h.2.1, f h.2.2.1, f h.2.2.2⟩
def TR (a m : Int) (w : World) (e : Ending) (w' : World) : Prop :=
 ∃ x : Int, e = .returned (.tuple #[.int .i64 x, .int .i64 0]) ∧ 0 ≤ x ∧ x < m ∧ x * a % m = 1 ∧ ∃ n, w' = w.drewN n
theorem N8 (a m : Int) (h1 : 2 ≤ m) (h2 : m < 2305843009213693952) (ha0 : 0 ≤ a) (ha : a < m) (hu : Hid (∀ d, d ∣ a → d ∣ m → 0 < d → d = 1)) (w : World) :
  Calls Tryz.prog 148 #[.int .i64 a, .int .i64 m] w (TR a m w) := by
 have hc := aa (vO (by omega) h2 ha0 ha ha0 ha)
 go_in
 go_wp2_with (go_at_call 96; refine (jo _ _ _ _).mono ?_; rintro e w' ⟨rfl, rfl⟩; rw [hc.out])
 refine (y9 a m (by omega) h2 ha0 ha _).mono ?_
 rintro e w' ⟨d, x, k, rfl, hx0, hx1, hd1, hd2, hd0, hd, hk, n, rfl⟩
 obtain rfl : d = 1 := hu.out d hd1 hd2 hd0
 have HX : Hid (x * a % m = 1) := aa (by rw [hk, Int.add_mul_emod_self_left]; exact iG h1)
 clear hk hd1 hd2 hd0 hd
 go_wp2
 go_ret2
 exact ⟨x, rfl, hx0, hx1, HX.out, n, rfl⟩
def Qr (a P : Int) (w : World) (e : Ending) (w' : World) : Prop :=
 ∃ x : Int, e = .returned (.tuple #[.int .i64 x, .int .i64 0]) ∧ 0 ≤ x ∧ x < P ∧ x * a % P = 1 ∧ Below w.heap.size w w'
theorem PD (P Q G a : Int) (hr : Hid (jE P Q G [a] = 0)) (hQ : Q < 9223372036854775808) (w : World) (hv : Hid (Vars w)) :
  Calls Tryz.prog 138 #[gv P Q G, .int .i64 a] w (Qr a P w) := by
 obtain ⟨hval, hall⟩ := vP hr.out
 obtain ⟨hp2, hp, hq3, Av⟩ := bH hval
 simp only [List.all_cons, List.all_nil, Bool.and_true] at hall
 have la := fE hall
 have ha := fF hall
 have hu : Hid (∀ d, d ∣ a → d ∣ P → 0 < d → d = 1) := aa (fun d h1 h2 h3 => CS hp2 (by omega) hall h1 h2 h3)
 clear hall hval
 have ry := aa (hv.out.below (aI (w := w) (o1 := bq P Q G) (o2 := .cells #[.int .i64 a] 3) (Below.refl _ _)))
 have HC := aa (Ie w (bq P Q G) 3 a)
 have HB0 := aa ((aW w P Q G).below (af (w.alloc (bq P Q G)) (.cells #[.int .i64 a] 3)))
 go_in
 go_wp2_with fail
 refine (tJ P Q G _ [a] 1 1 (aa rfl) (by decide) 0 hr (by omega) _ ry HC).mono ?_
 rintro e w1 ⟨rfl, hb0⟩
 have hb1 := aI hb0
 obtain ⟨c0, c1, c2⟩ := HB0.out.below hb0
 clear hb0
 go_wp2_with fail
 refine (N8 a P hp2 hp (by omega) ha hu _).mono ?_
 rintro e w2 ⟨x, rfl, hx0, hx1, hx, n, rfl⟩
 have HX := aa hx
 clear hx
 go_wp2
 go_ret2
 exact ⟨x, rfl, hx0, hx1, HX.out, ay hb1 _⟩
abbrev zK (E1 E2 : Int) (A : Option Addr) (na ca : Nat) (C : Int) (Z : Option Addr) (nz cz : Nat) : Value := .agg #[.int .i64 E1, .int .i64 E2, .slice A na ca, .int .i64 C, .slice Z nz cz]
abbrev Ed (E1 E2 : Int) (A : Option Addr) (na ca : Nat) (C : Int) (Z : Option Addr) (nz cz : Nat) : Obj := .cells #[.int .i64 E1, .int .i64 E2, .slice A na ca, .int .i64 C, .slice Z nz cz] 99
def Cz (w : World) (g : Nat) (a b : Int) : Prop := w.heap[g]? = some (.cells #[.int .i64 a, .int .i64 b] 3)
theorem bE {w w' : World} {g : Nat} {o : Obj} (h : w.heap[g]? = some o) (hb : Below w.heap.size w w') : w'.heap[g]? = some o := by
 have hl : g < w.heap.size := (Array.getElem?_eq_some_iff.1 h).1
 exact (hb.block g hl).trans h
theorem Cz.below {w w' : World} {g : Nat} {a b : Int} (h : Cz w g a b) (hb : Below w.heap.size w w') : Cz w' g a b := bE h hb
theorem Cz.new (w : World) (a b : Int) : Cz (w.alloc (.cells #[.int .i64 a, .int .i64 b] 3)) w.heap.size a b := heap_alloc_new _ _
theorem Cz.sl {w : World} {g : Nat} {a b : Int} (h : Cz w g a b) : Sl w (some ⟨g, 0, none⟩) [a, b] := nJ h (fun k hk => by match k, hk with | 0, _ => rfl | 1, _ => rfl)
def UZ (w : World) (g gA gB : Nat) : Prop := w.heap[g]? = some (.cells #[.slice (some ⟨gA, 0, none⟩) 2 2, .slice (some ⟨gB, 0, none⟩) 2 2] 24)
theorem UZ.below {w w' : World} {g gA gB : Nat} (h : UZ w g gA gB) (hb : Below w.heap.size w w') : UZ w' g gA gB := bE h hb
theorem UZ.new (w : World) (gA gB : Nat) : UZ (w.alloc (.cells #[.slice (some ⟨gA, 0, none⟩) 2 2, .slice (some ⟨gB, 0, none⟩) 2 2] 24)) w.heap.size gA gB := heap_alloc_new _ _
def Tu (A1 B1 : Option Addr) (a b c d : Int) : List Row := [⟨A1, 2, 2, [a, b]⟩, ⟨B1, 2, 2, [c, d]⟩]
def rz (ps a b c d : Int) (gY gA gB gR : Nat) (w : World) : Prop := Cz w gY ps 1 ∧ Cz w gA a b ∧ Cz w gB c d ∧ UZ w gR gA gB
theorem rz.below {ps a b c d : Int} {gY gA gB gR : Nat} {w w' : World} (h : rz ps a b c d gY gA gB gR w) (hb : Below w.heap.size w w') : rz ps a b c d gY gA gB gR w' :=
 ⟨h.1.below hb, h.2.1.below hb, h.2.2.1.below hb, h.2.2.2.below hb⟩
theorem rz.sl {ps a b c d : Int} {gY gA gB gR : Nat} {w : World} (h : rz ps a b c d gY gA gB gR w) : Sl w (some ⟨gY, 0, none⟩) [ps, 1] ∧ Rw w (some ⟨gR, 0, none⟩) (Tu (some ⟨gA, 0, none⟩) (some ⟨gB, 0, none⟩) a b c d) := by
 obtain ⟨h1, h2, h3, h4⟩ := h
 refine ⟨h1.sl, fun k hk => ?_⟩
 match k, hk with
 | 0, _ => exact ⟨⟨gR, 0, rfl, by rw [ak h4]; rfl⟩, rfl, h2.sl⟩
 | 1, _ => exact ⟨⟨gR, 0, rfl, by rw [ak h4]; rfl⟩, rfl, h3.sl⟩
theorem rz.set {ps a b c d : Int} {gY gA gB gR : Nat} {w : World} (h : rz ps a b c d gY gA gB gR w) {k : Nat} (hY : k < gY) (hA : k < gA) (hB : k < gB) (hR : k < gR) (j : Nat) (v : Value) : rz ps a b c d gY gA gB gR (w.setCell ⟨k, j, none⟩ v) := by
 obtain ⟨h1, h2, h3, h4⟩ := h
 refine ⟨?_, ?_, ?_, ?_⟩
 · exact (Go.Deep.blk_setCell_other _ _ _ _ (show gY ≠ k by omega)).trans h1
 · exact (Go.Deep.blk_setCell_other _ _ _ _ (show gA ≠ k by omega)).trans h2
 · exact (Go.Deep.blk_setCell_other _ _ _ _ (show gB ≠ k by omega)).trans h3
 · exact (Go.Deep.blk_setCell_other _ _ _ _ (show gR ≠ k by omega)).trans h4
theorem rz.setRow {ps a b c d : Int} {gY gA gB gR : Nat} {w : World} (h : rz ps a b c d gY gA gB gR w) {k : Nat} (hY : k < gY) (hA : k < gA) (hB : k < gB) (hR : k < gR) (cs : Array Value) : rz ps a b c d gY gA gB gR (w.setRow k cs) := by
 obtain ⟨h1, h2, h3, h4⟩ := h
 exact ⟨(setRow_other _ _ _ _ (by omega)).trans h1, (setRow_other _ _ _ _ (by omega)).trans h2, (setRow_other _ _ _ _ (by omega)).trans h3, (setRow_other _ _ _ _ (by omega)).trans h4⟩
theorem gU (w : World) (A B C : Obj) : (((w.alloc A).alloc B).alloc C).heap[w.heap.size + 2]? = some C := by
 have e : w.heap.size + 2 = ((w.alloc A).alloc B).heap.size := by simp
 rw [e]; exact heap_alloc_new _ _
def Nr (w : World) (g : Nat) : Prop := w.heap[g]? = some (.cells #[.slice none 0 0, .slice none 0 0] 189)
theorem Nr.below {w w' : World} {g : Nat} (h : Nr w g) (hb : Below w.heap.size w w') : Nr w' g := bE h hb
theorem Nr.setRow {w : World} {g : Nat} (h : Nr w g) (cs : Array Value) : (w.setRow g cs).heap[g]? = some (.cells cs 189) := setRow_heap w g _ _ _ _ h
end Go.Proofs.YtchcllcbknfikaaGreatDoor