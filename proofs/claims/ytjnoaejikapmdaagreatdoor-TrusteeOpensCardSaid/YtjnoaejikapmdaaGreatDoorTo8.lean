/- Contracts and lemmas: TruF, OpT, TruG. -/
import Derived.Test.YtjnoaejikapmdaaGreatDoorTo7
namespace Go.Proofs.YtjnoaejikapmdaaGreatDoor
open Go.RowKit SpM
set_option linter.unusedVariables false
set_option linter.unusedSimpArgs false
set_option maxRecDepth 100000
structure PartR where
  ix : Int
  v : Int
  A : Option Addr
  na : Nat
  ca : Nat
  al : List Int
  C : Int
  Z : Option Addr
  nz : Nat
  cz : Nat
  zs : List Int
abbrev noPart : PartR := ⟨0, 0, none, 0, 0, [], 0, none, 0, 0, []⟩
def PaOk (w : World) (p : PartR) : Prop := p.al.length = p.na ∧ p.zs.length = p.nz ∧ Sl w p.A p.al ∧ Sl w p.Z p.zs
def Pa (w : World) (L : Option Addr) (ps : List PartR) : Prop := ∀ k, k < ps.length → ∃ b o, L = some ⟨b, o, none⟩ ∧ w.cell? ⟨b, o + k * 5, none⟩ = some (.int .i64 (ps.getD k noPart).ix) ∧ w.cell? ⟨b, o + k * 5 + 1, none⟩ = some (.int .i64 (ps.getD k noPart).v) ∧
  w.cell? ⟨b, o + k * 5 + 2, none⟩ = some (.slice (ps.getD k noPart).A (ps.getD k noPart).na (ps.getD k noPart).ca) ∧ w.cell? ⟨b, o + k * 5 + 3, none⟩ = some (.int .i64 (ps.getD k noPart).C) ∧ w.cell? ⟨b, o + k * 5 + 4, none⟩ = some (.slice (ps.getD k noPart).Z (ps.getD k noPart).nz (ps.getD k noPart).cz) ∧ PaOk w (ps.getD k noPart)
theorem PaOk.below {w w' : World} {p : PartR} (h : PaOk w p) (hb : Below w.heap.size w w') : PaOk w' p := ⟨h.1, h.2.1, h.2.2.1.below hb, h.2.2.2.below hb⟩
theorem Pa.below {w w' : World} {L : Option Addr} {ps : List PartR} (h : Pa w L ps) (hb : Below w.heap.size w w') : Pa w' L ps := fun k hk => by
  obtain ⟨b, o, h1, h2, h3, h4, h5, h6, h7⟩ := h k hk
  exact ⟨b, o, h1, cell_below h2 hb, cell_below h3 hb, cell_below h4 hb, cell_below h5 hb, cell_below h6 hb, h7.below hb⟩
def r64 (x : Int) : Prop := -9223372036854775808 ≤ x ∧ x < 9223372036854775808
abbrev pxs (ps : List PartR) : List Int := ps.map (·.ix)
abbrev pvs (ps : List PartR) (k : Nat) : Int := (ps.getD k noPart).v
theorem pxs_get {ps : List PartR} {k : Nat} (h : k < ps.length) : (pxs ps).getD k 0 = (ps.getD k noPart).ix := by
  rw [List.getD_eq_getElem?_getD, List.getElem?_map, List.getElem?_eq_getElem h, List.getD_eq_getElem?_getD, List.getElem?_eq_getElem h]; rfl
theorem take_pxs {ps : List PartR} {k : Nat} (h : k < ps.length) : pxs (ps.take (k + 1)) = pxs (ps.take k) ++ [(ps.getD k noPart).ix] := by
  rw [pxs, List.take_add_one, List.map_append, List.getElem?_eq_getElem h, List.getD_eq_getElem?_getD, List.getElem?_eq_getElem h]; rfl
def paB (P Q : Int) (kn : Nat) (p : PartR) : Bool := memB kn p.ix && memG P Q p.v
theorem alla_step {f : PartR → Bool} {l : List PartR} {k : Nat} (hk : k < l.length) (h : f (l.getD k noPart) = true) : (l.drop k).all f = (l.drop (k + 1)).all f := by
  rw [List.drop_eq_getElem_cons hk, List.all_cons]
  rw [List.getD_eq_getElem?_getD, List.getElem?_eq_getElem hk] at h
  simp at h
  rw [h, Bool.true_and]
theorem alla_hit {f : PartR → Bool} {l : List PartR} {k : Nat} (hk : k < l.length) (h : f (l.getD k noPart) = false) : (l.drop k).all f = false := by
  rw [List.drop_eq_getElem_cons hk, List.all_cons]
  rw [List.getD_eq_getElem?_getD, List.getElem?_eq_getElem hk] at h
  simp at h
  rw [h, Bool.false_and]
theorem alla_get {f : PartR → Bool} {l : List PartR} (h : l.all f = true) {k : Nat} (hk : k < l.length) : f (l.getD k noPart) = true := by
  rw [List.getD_eq_getElem?_getD, List.getElem?_eq_getElem hk]
  exact List.all_eq_true.1 h _ (List.getElem_mem hk)
noncomputable def cmbE (P Q need : Int) (kn : Nat) (E1 E2 : Int) (ps : List PartR) : Int := if (memG P Q E1 && memG P Q E2) = true then (if ps.all (paB P Q kn) = true then (if @decide (NoTwice (pxs ps)) (Classical.propDecidable _) = true then (if (ps.length : Int) < need then 7 else 0) else 8) else 2) else 2
noncomputable def cmbV (P Q need : Int) (kn : Nat) (E1 E2 : Int) (ps : List PartR) : Int := if cmbE P Q need kn E1 E2 ps = 0 then rkM P Q E2 (pvs ps) (wtI Q ((pxs ps).take need.toNat) 0) need.toNat else 0
theorem pxs_sc {P Q : Int} {ps : List PartR} {kn m : Nat} (h : ps.all (paB P Q kn) = true) (hq : (kn : Int) < Q) : ((pxs ps).take m).all (scB Q) = true := by
  rw [List.all_eq_true]
  intro x hx
  obtain ⟨p, hp, rfl⟩ := List.mem_map.1 (List.mem_of_mem_take hx)
  have := List.all_eq_true.1 h p hp
  simp only [paB, memB, Bool.and_eq_true, decide_eq_true_eq] at this
  simp [scB]
  omega
set_option maxRecDepth 100000 in
theorem stz7 (P : Int) (Q : Int) (G : Int) (need : Int) (Cs : Option Addr) (cn : Nat) (cc : Nat) (Ks : Option Addr) (kn : Nat) (kc : Nat) (E1 : Int) (E2 : Int) (A : Option Addr) (na : Nat) (ca : Nat) (C : Int) (Z : Option Addr) (nz : Nat) (cz : Nat) (w : World) : ∃ w0, Hid ((((w.alloc (gObj P Q G)).alloc (trO need Cs cn cc Ks kn kc)).alloc (esO E1 E2 A na ca C Z nz cz)) = w0) ∧ Hid (Below w.heap.size w w0) ∧ Hid (∀ u : World, Hid (Below w0.heap.size w0 u) → u.cell? ⟨w.heap.size, 0, none⟩ = some (.int .i64 P) ∧ u.cell? ⟨w.heap.size, 1, none⟩ = some (.int .i64 Q) ∧ u.cell? ⟨w.heap.size, 2, none⟩ = some (.int .i64 G) ∧ u.cell? ⟨w.heap.size + 1, 0, none⟩ = some (.int .i64 need) ∧ u.cell? ⟨w.heap.size + 1, 1, none⟩ = some (.slice Cs cn cc) ∧ u.cell? ⟨w.heap.size + 1, 2, none⟩ = some (.slice Ks kn kc) ∧ u.cell? ⟨w.heap.size + 2, 0, none⟩ = some (.int .i64 E1) ∧ u.cell? ⟨w.heap.size + 2, 1, none⟩ = some (.int .i64 E2) ∧ u.cell? ⟨w.heap.size + 2, 2, none⟩ = some (.slice A na ca) ∧ u.cell? ⟨w.heap.size + 2, 3, none⟩ = some (.int .i64 C) ∧ u.cell? ⟨w.heap.size + 2, 4, none⟩ = some (.slice Z nz cz)) := by
  obtain ⟨w0, hW⟩ : ∃ W, (((w.alloc (gObj P Q G)).alloc (trO need Cs cn cc Ks kn kc)).alloc (esO E1 E2 A na ca C Z nz cz)) = W := ⟨_, rfl⟩
  have HBw : Hid (Below w.heap.size w w0) := Lib.hid (by rw [← hW]; exact (((Below.refl _ _).alloc (Nat.le_refl _) _).alloc (by simp) _).alloc (by simp; omega) _)
  have hc : w0.cell? ⟨w.heap.size, 0, none⟩ = some (.int .i64 P) ∧ w0.cell? ⟨w.heap.size, 1, none⟩ = some (.int .i64 Q) ∧ w0.cell? ⟨w.heap.size, 2, none⟩ = some (.int .i64 G) ∧ w0.cell? ⟨w.heap.size + 1, 0, none⟩ = some (.int .i64 need) ∧ w0.cell? ⟨w.heap.size + 1, 1, none⟩ = some (.slice Cs cn cc) ∧ w0.cell? ⟨w.heap.size + 1, 2, none⟩ = some (.slice Ks kn kc) ∧ w0.cell? ⟨w.heap.size + 2, 0, none⟩ = some (.int .i64 E1) ∧ w0.cell? ⟨w.heap.size + 2, 1, none⟩ = some (.int .i64 E2) ∧ w0.cell? ⟨w.heap.size + 2, 2, none⟩ = some (.slice A na ca) ∧ w0.cell? ⟨w.heap.size + 2, 3, none⟩ = some (.int .i64 C) ∧ w0.cell? ⟨w.heap.size + 2, 4, none⟩ = some (.slice Z nz cz) := by rw [← hW]; exact ⟨cell_below (cell_below (allocs_cell (by simp) (by rfl)) (below_box0 _ _)) (below_box0 _ _), cell_below (cell_below (allocs_cell (by simp) (by rfl)) (below_box0 _ _)) (below_box0 _ _), cell_below (cell_below (allocs_cell (by simp) (by rfl)) (below_box0 _ _)) (below_box0 _ _), cell_below (allocs_cell (by simp) (by rfl)) (below_box0 _ _), cell_below (allocs_cell (by simp) (by rfl)) (below_box0 _ _), cell_below (allocs_cell (by simp) (by rfl)) (below_box0 _ _), allocs_cell (by simp) (by rfl), allocs_cell (by simp) (by rfl), allocs_cell (by simp) (by rfl), allocs_cell (by simp) (by rfl), allocs_cell (by simp) (by rfl)⟩
  have kC := Lib.hid (show ∀ u : World, Hid (Below w0.heap.size w0 u) → u.cell? ⟨w.heap.size, 0, none⟩ = some (.int .i64 P) ∧ u.cell? ⟨w.heap.size, 1, none⟩ = some (.int .i64 Q) ∧ u.cell? ⟨w.heap.size, 2, none⟩ = some (.int .i64 G) ∧ u.cell? ⟨w.heap.size + 1, 0, none⟩ = some (.int .i64 need) ∧ u.cell? ⟨w.heap.size + 1, 1, none⟩ = some (.slice Cs cn cc) ∧ u.cell? ⟨w.heap.size + 1, 2, none⟩ = some (.slice Ks kn kc) ∧ u.cell? ⟨w.heap.size + 2, 0, none⟩ = some (.int .i64 E1) ∧ u.cell? ⟨w.heap.size + 2, 1, none⟩ = some (.int .i64 E2) ∧ u.cell? ⟨w.heap.size + 2, 2, none⟩ = some (.slice A na ca) ∧ u.cell? ⟨w.heap.size + 2, 3, none⟩ = some (.int .i64 C) ∧ u.cell? ⟨w.heap.size + 2, 4, none⟩ = some (.slice Z nz cz) from fun u h => ⟨cell_below hc.1 h.out, cell_below hc.2.1 h.out, cell_below hc.2.2.1 h.out, cell_below hc.2.2.2.1 h.out, cell_below hc.2.2.2.2.1 h.out, cell_below hc.2.2.2.2.2.1 h.out, cell_below hc.2.2.2.2.2.2.1 h.out, cell_below hc.2.2.2.2.2.2.2.1 h.out, cell_below hc.2.2.2.2.2.2.2.2.1 h.out, cell_below hc.2.2.2.2.2.2.2.2.2.1 h.out, cell_below hc.2.2.2.2.2.2.2.2.2.2 h.out⟩)
  exact ⟨w0, Lib.hid hW, HBw, kC⟩
set_option maxHeartbeats 6400000 in
theorem cmb_1 (P Q G need : Int) (Cs : Option Addr) (cs : List Int) (cn cc : Nat) (Ks : Option Addr) (ks : List Int) (kn kc : Nat) (hcn : Hid (cs.length = cn)) (hkn : Hid (ks.length = kn)) (E1 E2 : Int) (A : Option Addr) (na ca : Nat) (C : Int) (Z : Option Addr) (nz cz : Nat) (L : Option Addr) (ps : List PartR) (n c : Nat) (hn : Hid (ps.length = n)) (hnb : n ≤ 100) (hlr : Hid (∀ k, k < n → r64 (ps.getD k noPart).ix)) (hr : Hid (trB P Q G need cs ks = false)) (hQ : Q < 9223372036854775808) (w : World) (hv : Hid (Vars w)) (hC : Hid (Sl w Cs cs)) (hK : Hid (Sl w Ks ks)) (hL : Hid (Pa w L ps)) :
    Calls Tryz.prog 26 #[gv P Q G, trV need Cs cn cc Ks kn kc, esV E1 E2 A na ca C Z nz cz, .slice L n c] w fun e' w' => e' = .returned (.tuple #[.int .i64 0, .int .i64 1]) ∧ Below w.heap.size w w' := by
  obtain ⟨w0, HW, HBw, kC⟩ := stz7 P Q G need Cs cn cc Ks kn kc E1 E2 A na ca C Z nz cz w
  have kV := Lib.hid (show ∀ u : World, Hid (Below w0.heap.size w0 u) → Hid (Vars u) from fun u h => Lib.hid ((hv.out.below) (below_ext HBw.out h.out)))
  have kCs := Lib.hid (show ∀ u : World, Hid (Below w0.heap.size w0 u) → Hid (Sl u Cs cs) from fun u h => Lib.hid ((hC.out.below) (below_ext HBw.out h.out)))
  have kKs := Lib.hid (show ∀ u : World, Hid (Below w0.heap.size w0 u) → Hid (Sl u Ks ks) from fun u h => Lib.hid ((hK.out.below) (below_ext HBw.out h.out)))
  have kL := Lib.hid (show ∀ u : World, Hid (Below w0.heap.size w0 u) → Hid (Pa u L ps) from fun u h => Lib.hid ((hL.out.below) (below_ext HBw.out h.out)))
  have HB_0 : Hid (Below w0.heap.size w0 w0) := Lib.hid (Below.refl _ _)
  clear hv hC hK hL
  go_enter Tryz.func26, Tryz.ntmps26
  go_wp2_with fail
  rw [HW.out]
  obtain ⟨zc0, zc1, zc2, zc3, zc4, zc5, zc6, zc7, zc8, zc9, zc10⟩ := kC.out _ HB_0
  go_wp2_with fail
  refine (trv_any P Q G need Cs cs cn cc Ks ks kn kc hcn hkn false hr hQ _ (kV.out _ HB_0) (kCs.out _ HB_0) (kKs.out _ HB_0)).mono ?_
  rintro e w1 ⟨rfl, hb0⟩
  have HB_1 := Lib.hid (below_ext HB_0.out hb0)
  clear zc0 zc1 zc2 zc3 zc4 zc5 zc6 zc7 zc8 zc9 zc10
  clear hb0
  obtain ⟨zc0, zc1, zc2, zc3, zc4, zc5, zc6, zc7, zc8, zc9, zc10⟩ := kC.out _ HB_1
  have hbF := below_ext HBw.out HB_1.out
  go_wp2
  go_ret2
  exact ⟨rfl, hbF⟩
set_option maxRecDepth 100000 in
theorem stz8 (P : Int) (Q : Int) (G : Int) (m : Nat) (Cs : Option Addr) (cn : Nat) (cc : Nat) (Ks : Option Addr) (kn : Nat) (kc : Nat) (E1 : Int) (E2 : Int) (A : Option Addr) (na : Nat) (ca : Nat) (C : Int) (Z : Option Addr) (nz : Nat) (cz : Nat) (w : World) : ∃ w0, Hid ((((w.alloc (gObj P Q G)).alloc (trO (m : Int) Cs cn cc Ks kn kc)).alloc (esO E1 E2 A na ca C Z nz cz)) = w0) ∧ Hid (Below w.heap.size w w0) ∧ Hid (∀ u : World, Hid (Below w0.heap.size w0 u) → u.cell? ⟨w.heap.size, 0, none⟩ = some (.int .i64 P) ∧ u.cell? ⟨w.heap.size, 1, none⟩ = some (.int .i64 Q) ∧ u.cell? ⟨w.heap.size, 2, none⟩ = some (.int .i64 G) ∧ u.cell? ⟨w.heap.size + 1, 0, none⟩ = some (.int .i64 (m : Int)) ∧ u.cell? ⟨w.heap.size + 1, 1, none⟩ = some (.slice Cs cn cc) ∧ u.cell? ⟨w.heap.size + 1, 2, none⟩ = some (.slice Ks kn kc) ∧ u.cell? ⟨w.heap.size + 2, 0, none⟩ = some (.int .i64 E1) ∧ u.cell? ⟨w.heap.size + 2, 1, none⟩ = some (.int .i64 E2) ∧ u.cell? ⟨w.heap.size + 2, 2, none⟩ = some (.slice A na ca) ∧ u.cell? ⟨w.heap.size + 2, 3, none⟩ = some (.int .i64 C) ∧ u.cell? ⟨w.heap.size + 2, 4, none⟩ = some (.slice Z nz cz)) := by
  obtain ⟨w0, hW⟩ : ∃ W, (((w.alloc (gObj P Q G)).alloc (trO (m : Int) Cs cn cc Ks kn kc)).alloc (esO E1 E2 A na ca C Z nz cz)) = W := ⟨_, rfl⟩
  have HBw : Hid (Below w.heap.size w w0) := Lib.hid (by rw [← hW]; exact (((Below.refl _ _).alloc (Nat.le_refl _) _).alloc (by simp) _).alloc (by simp; omega) _)
  have hc : w0.cell? ⟨w.heap.size, 0, none⟩ = some (.int .i64 P) ∧ w0.cell? ⟨w.heap.size, 1, none⟩ = some (.int .i64 Q) ∧ w0.cell? ⟨w.heap.size, 2, none⟩ = some (.int .i64 G) ∧ w0.cell? ⟨w.heap.size + 1, 0, none⟩ = some (.int .i64 (m : Int)) ∧ w0.cell? ⟨w.heap.size + 1, 1, none⟩ = some (.slice Cs cn cc) ∧ w0.cell? ⟨w.heap.size + 1, 2, none⟩ = some (.slice Ks kn kc) ∧ w0.cell? ⟨w.heap.size + 2, 0, none⟩ = some (.int .i64 E1) ∧ w0.cell? ⟨w.heap.size + 2, 1, none⟩ = some (.int .i64 E2) ∧ w0.cell? ⟨w.heap.size + 2, 2, none⟩ = some (.slice A na ca) ∧ w0.cell? ⟨w.heap.size + 2, 3, none⟩ = some (.int .i64 C) ∧ w0.cell? ⟨w.heap.size + 2, 4, none⟩ = some (.slice Z nz cz) := by rw [← hW]; exact ⟨cell_below (cell_below (allocs_cell (by simp) (by rfl)) (below_box0 _ _)) (below_box0 _ _), cell_below (cell_below (allocs_cell (by simp) (by rfl)) (below_box0 _ _)) (below_box0 _ _), cell_below (cell_below (allocs_cell (by simp) (by rfl)) (below_box0 _ _)) (below_box0 _ _), cell_below (allocs_cell (by simp) (by rfl)) (below_box0 _ _), cell_below (allocs_cell (by simp) (by rfl)) (below_box0 _ _), cell_below (allocs_cell (by simp) (by rfl)) (below_box0 _ _), allocs_cell (by simp) (by rfl), allocs_cell (by simp) (by rfl), allocs_cell (by simp) (by rfl), allocs_cell (by simp) (by rfl), allocs_cell (by simp) (by rfl)⟩
  have kC := Lib.hid (show ∀ u : World, Hid (Below w0.heap.size w0 u) → u.cell? ⟨w.heap.size, 0, none⟩ = some (.int .i64 P) ∧ u.cell? ⟨w.heap.size, 1, none⟩ = some (.int .i64 Q) ∧ u.cell? ⟨w.heap.size, 2, none⟩ = some (.int .i64 G) ∧ u.cell? ⟨w.heap.size + 1, 0, none⟩ = some (.int .i64 (m : Int)) ∧ u.cell? ⟨w.heap.size + 1, 1, none⟩ = some (.slice Cs cn cc) ∧ u.cell? ⟨w.heap.size + 1, 2, none⟩ = some (.slice Ks kn kc) ∧ u.cell? ⟨w.heap.size + 2, 0, none⟩ = some (.int .i64 E1) ∧ u.cell? ⟨w.heap.size + 2, 1, none⟩ = some (.int .i64 E2) ∧ u.cell? ⟨w.heap.size + 2, 2, none⟩ = some (.slice A na ca) ∧ u.cell? ⟨w.heap.size + 2, 3, none⟩ = some (.int .i64 C) ∧ u.cell? ⟨w.heap.size + 2, 4, none⟩ = some (.slice Z nz cz) from fun u h => ⟨cell_below hc.1 h.out, cell_below hc.2.1 h.out, cell_below hc.2.2.1 h.out, cell_below hc.2.2.2.1 h.out, cell_below hc.2.2.2.2.1 h.out, cell_below hc.2.2.2.2.2.1 h.out, cell_below hc.2.2.2.2.2.2.1 h.out, cell_below hc.2.2.2.2.2.2.2.1 h.out, cell_below hc.2.2.2.2.2.2.2.2.1 h.out, cell_below hc.2.2.2.2.2.2.2.2.2.1 h.out, cell_below hc.2.2.2.2.2.2.2.2.2.2 h.out⟩)
  exact ⟨w0, Lib.hid hW, HBw, kC⟩
set_option maxHeartbeats 6400000 in
theorem cmb_2 (P Q G : Int) (m : Nat) (Cs : Option Addr) (cs : List Int) (cn cc : Nat) (Ks : Option Addr) (ks : List Int) (kn kc : Nat) (hcn : Hid (cs.length = cn)) (hkn : Hid (ks.length = kn)) (E1 E2 : Int) (A : Option Addr) (na ca : Nat) (C : Int) (Z : Option Addr) (nz cz : Nat) (L : Option Addr) (ps : List PartR) (n c : Nat) (hn : Hid (ps.length = n)) (hnb : n ≤ 100) (hlr : Hid (∀ k, k < n → r64 (ps.getD k noPart).ix)) (hr : Hid (trB P Q G (m : Int) cs ks = true)) (m1 : Hid (memG P Q E1 = false)) (hQ : Q < 9223372036854775808) (w : World) (hv : Hid (Vars w)) (hC : Hid (Sl w Cs cs)) (hK : Hid (Sl w Ks ks)) (hL : Hid (Pa w L ps)) :
    Calls Tryz.prog 26 #[gv P Q G, trV (m : Int) Cs cn cc Ks kn kc, esV E1 E2 A na ca C Z nz cz, .slice L n c] w fun e' w' => e' = .returned (.tuple #[.int .i64 0, .int .i64 2]) ∧ Below w.heap.size w w' := by
  obtain ⟨i0, hi, hz0, hz1, hz2⟩ := info_parts intInfo
  obtain ⟨HVG, n1, n2, n3, n4, n5, n6⟩ := trB_parts hr.out hcn.out hkn.out
  obtain ⟨w0, HW, HBw, kC⟩ := stz8 P Q G m Cs cn cc Ks kn kc E1 E2 A na ca C Z nz cz w
  have kV := Lib.hid (show ∀ u : World, Hid (Below w0.heap.size w0 u) → Hid (Vars u) from fun u h => Lib.hid ((hv.out.below) (below_ext HBw.out h.out)))
  have kCs := Lib.hid (show ∀ u : World, Hid (Below w0.heap.size w0 u) → Hid (Sl u Cs cs) from fun u h => Lib.hid ((hC.out.below) (below_ext HBw.out h.out)))
  have kKs := Lib.hid (show ∀ u : World, Hid (Below w0.heap.size w0 u) → Hid (Sl u Ks ks) from fun u h => Lib.hid ((hK.out.below) (below_ext HBw.out h.out)))
  have kL := Lib.hid (show ∀ u : World, Hid (Below w0.heap.size w0 u) → Hid (Pa u L ps) from fun u h => Lib.hid ((hL.out.below) (below_ext HBw.out h.out)))
  have HB_0 : Hid (Below w0.heap.size w0 w0) := Lib.hid (Below.refl _ _)
  clear hv hC hK hL
  go_enter Tryz.func26, Tryz.ntmps26
  go_wp2_with fail
  rw [HW.out]
  obtain ⟨zc0, zc1, zc2, zc3, zc4, zc5, zc6, zc7, zc8, zc9, zc10⟩ := kC.out _ HB_0
  go_wp2_with fail
  refine (trv_any P Q G (m : Int) Cs cs cn cc Ks ks kn kc hcn hkn true hr hQ _ (kV.out _ HB_0) (kCs.out _ HB_0) (kKs.out _ HB_0)).mono ?_
  rintro e w1 ⟨rfl, hb0⟩
  have HB_1 := Lib.hid (below_ext HB_0.out hb0)
  clear zc0 zc1 zc2 zc3 zc4 zc5 zc6 zc7 zc8 zc9 zc10
  clear hb0
  obtain ⟨zc0, zc1, zc2, zc3, zc4, zc5, zc6, zc7, zc8, zc9, zc10⟩ := kC.out _ HB_1
  go_wp2_with fail
  refine (contains_any P Q G E1 false (Lib.hid (by rw [conG, HVG.out, m1.out]; rfl)) hQ _ (kV.out _ HB_1)).mono ?_
  rintro e w2 ⟨rfl, hb0⟩
  have HB_2 := Lib.hid (below_ext HB_1.out hb0)
  clear zc0 zc1 zc2 zc3 zc4 zc5 zc6 zc7 zc8 zc9 zc10
  clear hb0
  obtain ⟨zc0, zc1, zc2, zc3, zc4, zc5, zc6, zc7, zc8, zc9, zc10⟩ := kC.out _ HB_2
  have hbF := below_ext HBw.out HB_2.out
  go_wp2
  go_ret2
  exact ⟨rfl, hbF⟩
set_option maxHeartbeats 6400000 in
theorem cmb_3 (P Q G : Int) (m : Nat) (Cs : Option Addr) (cs : List Int) (cn cc : Nat) (Ks : Option Addr) (ks : List Int) (kn kc : Nat) (hcn : Hid (cs.length = cn)) (hkn : Hid (ks.length = kn)) (E1 E2 : Int) (A : Option Addr) (na ca : Nat) (C : Int) (Z : Option Addr) (nz cz : Nat) (L : Option Addr) (ps : List PartR) (n c : Nat) (hn : Hid (ps.length = n)) (hnb : n ≤ 100) (hlr : Hid (∀ k, k < n → r64 (ps.getD k noPart).ix)) (hr : Hid (trB P Q G (m : Int) cs ks = true)) (m1 : Hid (memG P Q E1 = true)) (m2 : Hid (memG P Q E2 = false)) (hQ : Q < 9223372036854775808) (w : World) (hv : Hid (Vars w)) (hC : Hid (Sl w Cs cs)) (hK : Hid (Sl w Ks ks)) (hL : Hid (Pa w L ps)) :
    Calls Tryz.prog 26 #[gv P Q G, trV (m : Int) Cs cn cc Ks kn kc, esV E1 E2 A na ca C Z nz cz, .slice L n c] w fun e' w' => e' = .returned (.tuple #[.int .i64 0, .int .i64 2]) ∧ Below w.heap.size w w' := by
  obtain ⟨i0, hi, hz0, hz1, hz2⟩ := info_parts intInfo
  obtain ⟨HVG, n1, n2, n3, n4, n5, n6⟩ := trB_parts hr.out hcn.out hkn.out
  obtain ⟨w0, HW, HBw, kC⟩ := stz8 P Q G m Cs cn cc Ks kn kc E1 E2 A na ca C Z nz cz w
  have kV := Lib.hid (show ∀ u : World, Hid (Below w0.heap.size w0 u) → Hid (Vars u) from fun u h => Lib.hid ((hv.out.below) (below_ext HBw.out h.out)))
  have kCs := Lib.hid (show ∀ u : World, Hid (Below w0.heap.size w0 u) → Hid (Sl u Cs cs) from fun u h => Lib.hid ((hC.out.below) (below_ext HBw.out h.out)))
  have kKs := Lib.hid (show ∀ u : World, Hid (Below w0.heap.size w0 u) → Hid (Sl u Ks ks) from fun u h => Lib.hid ((hK.out.below) (below_ext HBw.out h.out)))
  have kL := Lib.hid (show ∀ u : World, Hid (Below w0.heap.size w0 u) → Hid (Pa u L ps) from fun u h => Lib.hid ((hL.out.below) (below_ext HBw.out h.out)))
  have HB_0 : Hid (Below w0.heap.size w0 w0) := Lib.hid (Below.refl _ _)
  clear hv hC hK hL
  go_enter Tryz.func26, Tryz.ntmps26
  go_wp2_with fail
  rw [HW.out]
  obtain ⟨zc0, zc1, zc2, zc3, zc4, zc5, zc6, zc7, zc8, zc9, zc10⟩ := kC.out _ HB_0
  go_wp2_with fail
  refine (trv_any P Q G (m : Int) Cs cs cn cc Ks ks kn kc hcn hkn true hr hQ _ (kV.out _ HB_0) (kCs.out _ HB_0) (kKs.out _ HB_0)).mono ?_
  rintro e w1 ⟨rfl, hb0⟩
  have HB_1 := Lib.hid (below_ext HB_0.out hb0)
  clear zc0 zc1 zc2 zc3 zc4 zc5 zc6 zc7 zc8 zc9 zc10
  clear hb0
  obtain ⟨zc0, zc1, zc2, zc3, zc4, zc5, zc6, zc7, zc8, zc9, zc10⟩ := kC.out _ HB_1
  go_wp2_with fail
  refine (contains_any P Q G E1 true (Lib.hid (by rw [conG, HVG.out, m1.out]; rfl)) hQ _ (kV.out _ HB_1)).mono ?_
  rintro e w2 ⟨rfl, hb0⟩
  have HB_2 := Lib.hid (below_ext HB_1.out hb0)
  clear zc0 zc1 zc2 zc3 zc4 zc5 zc6 zc7 zc8 zc9 zc10
  clear hb0
  obtain ⟨zc0, zc1, zc2, zc3, zc4, zc5, zc6, zc7, zc8, zc9, zc10⟩ := kC.out _ HB_2
  go_wp2_with fail
  refine (contains_any P Q G E2 false (Lib.hid (by rw [conG, HVG.out, m2.out]; rfl)) hQ _ (kV.out _ HB_2)).mono ?_
  rintro e w3 ⟨rfl, hb0⟩
  have HB_3 := Lib.hid (below_ext HB_2.out hb0)
  clear zc0 zc1 zc2 zc3 zc4 zc5 zc6 zc7 zc8 zc9 zc10
  clear hb0
  obtain ⟨zc0, zc1, zc2, zc3, zc4, zc5, zc6, zc7, zc8, zc9, zc10⟩ := kC.out _ HB_3
  have hbF := below_ext HBw.out HB_3.out
  go_wp2
  go_ret2
  exact ⟨rfl, hbF⟩
abbrev paO (ix v : Int) (A : Option Addr) (na ca : Nat) (C : Int) (Z : Option Addr) (nz cz : Nat) : Obj := .cells #[.int .i64 ix, .int .i64 v, .slice A na ca, .int .i64 C, .slice Z nz cz] 56
abbrev paV (ix v : Int) (A : Option Addr) (na ca : Nat) (C : Int) (Z : Option Addr) (nz cz : Nat) : Value := .agg #[.int .i64 ix, .int .i64 v, .slice A na ca, .int .i64 C, .slice Z nz cz]
theorem paB_mem {P Q : Int} {kn : Nat} {p : PartR} (h : paB P Q kn p = true) : memG P Q p.v = true := by
  unfold paB at h
  simp only [Bool.and_eq_true] at h
  exact h.2
set_option maxHeartbeats 25600000 in
theorem cmb_4 (P Q G : Int) (m : Nat) (Cs : Option Addr) (cs : List Int) (cn cc : Nat) (Ks : Option Addr) (ks : List Int) (kn kc : Nat) (hcn : Hid (cs.length = cn)) (hkn : Hid (ks.length = kn)) (E1 E2 : Int) (A : Option Addr) (na ca : Nat) (C : Int) (Z : Option Addr) (nz cz : Nat) (L : Option Addr) (ps : List PartR) (n c : Nat) (hn : Hid (ps.length = n)) (hnb : n ≤ 100) (hlr : Hid (∀ k, k < n → r64 (ps.getD k noPart).ix)) (hr : Hid (trB P Q G (m : Int) cs ks = true)) (m1 : Hid (memG P Q E1 = true)) (m2 : Hid (memG P Q E2 = true)) (hQ : Q < 9223372036854775808) (w : World) (hv : Hid (Vars w)) (hC : Hid (Sl w Cs cs)) (hK : Hid (Sl w Ks ks)) (hL : Hid (Pa w L ps)) :
    Calls Tryz.prog 26 #[gv P Q G, trV (m : Int) Cs cn cc Ks kn kc, esV E1 E2 A na ca C Z nz cz, .slice L n c] w fun e' w' => e' = .returned (.tuple #[.int .i64 (cmbV P Q (m : Int) kn E1 E2 ps), .int .i64 (cmbE P Q (m : Int) kn E1 E2 ps)]) ∧ Below w.heap.size w w' := by
  obtain ⟨i0, hi, hz0, hz1, hz2⟩ := info_parts intInfo
  obtain ⟨HVG, n1, n2, n3, n4, n5, n6⟩ := trB_parts hr.out hcn.out hkn.out
  obtain ⟨w0, hW⟩ : ∃ W, (((w.alloc (gObj P Q G)).alloc (trO (m : Int) Cs cn cc Ks kn kc)).alloc (esO E1 E2 A na ca C Z nz cz)) = W := ⟨_, rfl⟩
  have HBw : Hid (Below w.heap.size w w0) := Lib.hid (by rw [← hW]; exact (((Below.refl _ _).alloc (Nat.le_refl _) _).alloc (by simp) _).alloc (by simp; omega) _)
  have hc : w0.cell? ⟨w.heap.size, 0, none⟩ = some (.int .i64 P) ∧ w0.cell? ⟨w.heap.size, 1, none⟩ = some (.int .i64 Q) ∧ w0.cell? ⟨w.heap.size, 2, none⟩ = some (.int .i64 G) ∧ w0.cell? ⟨w.heap.size + 1, 0, none⟩ = some (.int .i64 (m : Int)) ∧ w0.cell? ⟨w.heap.size + 1, 1, none⟩ = some (.slice Cs cn cc) ∧ w0.cell? ⟨w.heap.size + 1, 2, none⟩ = some (.slice Ks kn kc) ∧ w0.cell? ⟨w.heap.size + 2, 0, none⟩ = some (.int .i64 E1) ∧ w0.cell? ⟨w.heap.size + 2, 1, none⟩ = some (.int .i64 E2) ∧ w0.cell? ⟨w.heap.size + 2, 2, none⟩ = some (.slice A na ca) ∧ w0.cell? ⟨w.heap.size + 2, 3, none⟩ = some (.int .i64 C) ∧ w0.cell? ⟨w.heap.size + 2, 4, none⟩ = some (.slice Z nz cz) := by rw [← hW]; exact ⟨cell_below (cell_below (allocs_cell (by simp) (by rfl)) (below_box0 _ _)) (below_box0 _ _), cell_below (cell_below (allocs_cell (by simp) (by rfl)) (below_box0 _ _)) (below_box0 _ _), cell_below (cell_below (allocs_cell (by simp) (by rfl)) (below_box0 _ _)) (below_box0 _ _), cell_below (allocs_cell (by simp) (by rfl)) (below_box0 _ _), cell_below (allocs_cell (by simp) (by rfl)) (below_box0 _ _), cell_below (allocs_cell (by simp) (by rfl)) (below_box0 _ _), allocs_cell (by simp) (by rfl), allocs_cell (by simp) (by rfl), allocs_cell (by simp) (by rfl), allocs_cell (by simp) (by rfl), allocs_cell (by simp) (by rfl)⟩
  have kC := Lib.hid (show ∀ u : World, Hid (Below w0.heap.size w0 u) → u.cell? ⟨w.heap.size, 0, none⟩ = some (.int .i64 P) ∧ u.cell? ⟨w.heap.size, 1, none⟩ = some (.int .i64 Q) ∧ u.cell? ⟨w.heap.size, 2, none⟩ = some (.int .i64 G) ∧ u.cell? ⟨w.heap.size + 1, 0, none⟩ = some (.int .i64 (m : Int)) ∧ u.cell? ⟨w.heap.size + 1, 1, none⟩ = some (.slice Cs cn cc) ∧ u.cell? ⟨w.heap.size + 1, 2, none⟩ = some (.slice Ks kn kc) ∧ u.cell? ⟨w.heap.size + 2, 0, none⟩ = some (.int .i64 E1) ∧ u.cell? ⟨w.heap.size + 2, 1, none⟩ = some (.int .i64 E2) ∧ u.cell? ⟨w.heap.size + 2, 2, none⟩ = some (.slice A na ca) ∧ u.cell? ⟨w.heap.size + 2, 3, none⟩ = some (.int .i64 C) ∧ u.cell? ⟨w.heap.size + 2, 4, none⟩ = some (.slice Z nz cz) from fun u h => ⟨cell_below hc.1 h.out, cell_below hc.2.1 h.out, cell_below hc.2.2.1 h.out, cell_below hc.2.2.2.1 h.out, cell_below hc.2.2.2.2.1 h.out, cell_below hc.2.2.2.2.2.1 h.out, cell_below hc.2.2.2.2.2.2.1 h.out, cell_below hc.2.2.2.2.2.2.2.1 h.out, cell_below hc.2.2.2.2.2.2.2.2.1 h.out, cell_below hc.2.2.2.2.2.2.2.2.2.1 h.out, cell_below hc.2.2.2.2.2.2.2.2.2.2 h.out⟩)
  have kV := Lib.hid (show ∀ u : World, Hid (Below w0.heap.size w0 u) → Hid (Vars u) from fun u h => Lib.hid ((hv.out.below) (below_ext HBw.out h.out)))
  have kCs := Lib.hid (show ∀ u : World, Hid (Below w0.heap.size w0 u) → Hid (Sl u Cs cs) from fun u h => Lib.hid ((hC.out.below) (below_ext HBw.out h.out)))
  have kKs := Lib.hid (show ∀ u : World, Hid (Below w0.heap.size w0 u) → Hid (Sl u Ks ks) from fun u h => Lib.hid ((hK.out.below) (below_ext HBw.out h.out)))
  have kL := Lib.hid (show ∀ u : World, Hid (Below w0.heap.size w0 u) → Hid (Pa u L ps) from fun u h => Lib.hid ((hL.out.below) (below_ext HBw.out h.out)))
  have HB_0 : Hid (Below w0.heap.size w0 w0) := Lib.hid (Below.refl _ _)
  have HW := Lib.hid hW
  clear hW hc hv hC hK hL
  go_enter Tryz.func26, Tryz.ntmps26
  go_wp2_with fail
  rw [HW.out]
  obtain ⟨zc0, zc1, zc2, zc3, zc4, zc5, zc6, zc7, zc8, zc9, zc10⟩ := kC.out _ HB_0
  go_wp2_with fail
  refine (trv_any P Q G (m : Int) Cs cs cn cc Ks ks kn kc hcn hkn true hr hQ _ (kV.out _ HB_0) (kCs.out _ HB_0) (kKs.out _ HB_0)).mono ?_
  rintro e w1 ⟨rfl, hb0⟩
  have HB_1 := Lib.hid (below_ext HB_0.out hb0)
  clear zc0 zc1 zc2 zc3 zc4 zc5 zc6 zc7 zc8 zc9 zc10
  clear hb0
  obtain ⟨zc0, zc1, zc2, zc3, zc4, zc5, zc6, zc7, zc8, zc9, zc10⟩ := kC.out _ HB_1
  go_wp2_with fail
  refine (contains_any P Q G E1 true (Lib.hid (by rw [conG, HVG.out, m1.out]; rfl)) hQ _ (kV.out _ HB_1)).mono ?_
  rintro e w2 ⟨rfl, hb0⟩
  have HB_2 := Lib.hid (below_ext HB_1.out hb0)
  clear zc0 zc1 zc2 zc3 zc4 zc5 zc6 zc7 zc8 zc9 zc10
  clear hb0
  obtain ⟨zc0, zc1, zc2, zc3, zc4, zc5, zc6, zc7, zc8, zc9, zc10⟩ := kC.out _ HB_2
  go_wp2_with fail
  refine (contains_any P Q G E2 true (Lib.hid (by rw [conG, HVG.out, m2.out]; rfl)) hQ _ (kV.out _ HB_2)).mono ?_
  rintro e w3 ⟨rfl, hb0⟩
  have HB_3 := Lib.hid (below_ext HB_2.out hb0)
  clear zc0 zc1 zc2 zc3 zc4 zc5 zc6 zc7 zc8 zc9 zc10
  clear hb0
  obtain ⟨zc0, zc1, zc2, zc3, zc4, zc5, zc6, zc7, zc8, zc9, zc10⟩ := kC.out _ HB_3
  go_wp2
  clear zc0 zc1 zc2 zc3 zc4 zc5 zc6 zc7 zc8 zc9 zc10
  go_loopw [10, 40] (fun vx i wr => ∃ k : Nat, k ≤ n ∧ i = .int .i64 k ∧ Hid (ps.all (paB P Q kn) = (ps.drop k).all (paB P Q kn)) ∧ Hid (wr.ownsRow w0.heap.size 3 1 vx k ((pxs (ps.take k)).map (Value.int .i64))) ∧ Hid (Below w0.heap.size w0 wr)) (fun _ i _ => n - (intOf i).toNat)
  case atStart => exact ⟨0, by omega, rfl, Lib.hid rfl, Lib.hid (World.ownsRow_nil _ _ _ _), HB_3⟩
  case round =>
    obtain ⟨k, hk, rfl, HR, HOX, HBr⟩ := hrel
    by_cases hlt : k < n
    · skip
      have hkl : k < ps.length := by rw [hn.out]; exact hlt
      obtain ⟨b, o, hA, j0, j1, j2, j3, j4, hok⟩ := (kL.out _ HBr).out k hkl
      subst hA
      have tx := take_pxs hkl
      obtain ⟨px, hpx⟩ : ∃ x, ps.getD k noPart = x := ⟨_, rfl⟩
      obtain ⟨ix, v, pA, pna, pca, pal, pC, pZ, pnz, pcz, pzs⟩ := px
      rw [hpx] at j0 j1 j2 j3 j4 tx
      have TX := Lib.hid tx
      have hst : True → Hid True := fun _ => Lib.hid trivial
      clear tx hok hst
      dsimp only at j0 j1 j2 j3 j4
      cases hm : memB kn ix with
      | true =>
        cases hg : memG P Q v with
        | true =>
          have HS : Hid (ps.all (paB P Q kn) = (ps.drop (k + 1)).all (paB P Q kn)) := Lib.hid (HR.out.trans (alla_step hkl (by rw [hpx, paB, hm, hg]; rfl)))
          have HM := Lib.hid hm
          have HG := Lib.hid hg
          clear hm hg HR hpx
          have HB_wr_3 : Hid (Below wr.heap.size wr wr) := Lib.hid (Below.refl _ _)
          obtain ⟨zc0, zc1, zc2, zc3, zc4, zc5, zc6, zc7, zc8, zc9, zc10⟩ := kC.out _ HBr
          have hq := below_box0 wr (paO ix v pA pna pca pC pZ pnz pcz)
          have HB_4 := Lib.hid (below_ext HBr.out hq)
          have HB_wr_4 := Lib.hid (below_ext HB_wr_3.out hq)
          have hc : (wr.alloc (paO ix v pA pna pca pC pZ pnz pcz)).cell? ⟨wr.heap.size, 0, none⟩ = some (.int .i64 ix) ∧ (wr.alloc (paO ix v pA pna pca pC pZ pnz pcz)).cell? ⟨wr.heap.size, 1, none⟩ = some (.int .i64 v) ∧ (wr.alloc (paO ix v pA pna pca pC pZ pnz pcz)).cell? ⟨wr.heap.size, 2, none⟩ = some (.slice pA pna pca) ∧ (wr.alloc (paO ix v pA pna pca pC pZ pnz pcz)).cell? ⟨wr.heap.size, 3, none⟩ = some (.int .i64 pC) ∧ (wr.alloc (paO ix v pA pna pca pC pZ pnz pcz)).cell? ⟨wr.heap.size, 4, none⟩ = some (.slice pZ pnz pcz) := ⟨allocs_cell rfl (by rfl), allocs_cell rfl (by rfl), allocs_cell rfl (by rfl), allocs_cell rfl (by rfl), allocs_cell rfl (by rfl)⟩
          have HC4 := Lib.hid hc
          clear hq
          obtain ⟨zc0x, zc1x, zc2x, zc3x, zc4x, zc5x, zc6x, zc7x, zc8x, zc9x, zc10x⟩ := kC.out _ HB_4
          obtain ⟨zq0, zq1, zq2, zq3, zq4⟩ := hc
          go_wp2_with fail
          obtain ⟨w4, hw⟩ : ∃ x, (wr.alloc (paO ix v pA pna pca pC pZ pnz pcz)) = x := ⟨_, rfl⟩
          rw [hw] at HC4 HB_4 HB_wr_4 ⊢
          have HSN4 : Hid (w4.heap.size = wr.heap.size + 1) := Lib.hid (by rw [← hw]; simp)
          clear zc0 zc1 zc2 zc3 zc4 zc5 zc6 zc7 zc8 zc9 zc10 zc0x zc1x zc2x zc3x zc4x zc5x zc6x zc7x zc8x zc9x zc10x zq0 zq1 zq2 zq3 zq4
          clear hw
          have HB_w4_4 : Hid (Below w4.heap.size w4 w4) := Lib.hid (Below.refl _ _)
          have kS := Lib.hid (show ∀ u : World, Hid (Below w4.heap.size w4 u) → u.cell? ⟨wr.heap.size, 0, none⟩ = some (.int .i64 ix) ∧ u.cell? ⟨wr.heap.size, 1, none⟩ = some (.int .i64 v) ∧ u.cell? ⟨wr.heap.size, 2, none⟩ = some (.slice pA pna pca) ∧ u.cell? ⟨wr.heap.size, 3, none⟩ = some (.int .i64 pC) ∧ u.cell? ⟨wr.heap.size, 4, none⟩ = some (.slice pZ pnz pcz) from fun u h => ⟨cell_below HC4.out.1 h.out, cell_below HC4.out.2.1 h.out, cell_below HC4.out.2.2.1 h.out, cell_below HC4.out.2.2.2.1 h.out, cell_below HC4.out.2.2.2.2 h.out⟩)
          obtain ⟨zc0, zc1, zc2, zc3, zc4, zc5, zc6, zc7, zc8, zc9, zc10⟩ := kC.out _ HB_4
          obtain ⟨kS_0, kS_1, kS_2, kS_3, kS_4⟩ := kS.out _ HB_w4_4
          clear j0 j1 j2 j3 j4
          clear zc0 zc1 zc2 zc3 zc4 zc5 zc6 zc7 zc8 zc9 zc10 kS_0 kS_1 kS_2 kS_3 kS_4
          obtain ⟨zc0, zc1, zc2, zc3, zc4, zc5, zc6, zc7, zc8, zc9, zc10⟩ := kC.out _ HB_4
          obtain ⟨kS_0, kS_1, kS_2, kS_3, kS_4⟩ := kS.out _ HB_w4_4
          go_wp2_with fail
          refine (member_any (m : Int) Cs cn cc Ks kn kc ix true HM _).mono ?_
          rintro e w5 ⟨rfl, hb0⟩
          have HB_5 := Lib.hid (below_ext HB_4.out hb0)
          have HB_wr_5 := Lib.hid (below_ext HB_wr_4.out hb0)
          have HB_w4_5 := Lib.hid (below_ext HB_w4_4.out hb0)
          clear zc0 zc1 zc2 zc3 zc4 zc5 zc6 zc7 zc8 zc9 zc10 kS_0 kS_1 kS_2 kS_3 kS_4
          clear hb0
          obtain ⟨zc0, zc1, zc2, zc3, zc4, zc5, zc6, zc7, zc8, zc9, zc10⟩ := kC.out _ HB_5
          obtain ⟨kS_0, kS_1, kS_2, kS_3, kS_4⟩ := kS.out _ HB_w4_5
          go_wp2_with fail
          refine (contains_any P Q G v true (Lib.hid (by rw [conG, HVG.out, HG.out]; rfl)) hQ _ (kV.out _ HB_5)).mono ?_
          rintro e w6 ⟨rfl, hb0⟩
          have HB_6 := Lib.hid (below_ext HB_5.out hb0)
          have HB_wr_6 := Lib.hid (below_ext HB_wr_5.out hb0)
          have HB_w4_6 := Lib.hid (below_ext HB_w4_5.out hb0)
          clear zc0 zc1 zc2 zc3 zc4 zc5 zc6 zc7 zc8 zc9 zc10 kS_0 kS_1 kS_2 kS_3 kS_4
          clear hb0
          obtain ⟨zc0, zc1, zc2, zc3, zc4, zc5, zc6, zc7, zc8, zc9, zc10⟩ := kC.out _ HB_6
          obtain ⟨kS_0, kS_1, kS_2, kS_3, kS_4⟩ := kS.out _ HB_w4_6
          have HOz := Lib.hid (HOX.out.kept (gb_below HB_wr_6.out none) (own_none _))
          have hown := HOz.out
          have hbs := HB_6.out.size
          go_wp2_with (at_builtin; refine wpList_append_own _ rfl _ _ 24 rfl w0.heap.size 3 i0 (.int .i64 0) 1 8 Tryz.underlying24 hi hz0 hz1 hz2 rfl (by decide) _ _ _ rfl (hown.alloc _) ⟨w6.heap.size, 0, none⟩ 1 1 [.int .i64 ix] rfl rfl (cell_one_new _ _ _) (ints_oneCell .i64 [ix]) (by unfold maxLen; omega) (by omega) (by simp; omega) ?_; intro v' y3 hown1 hgrow1 _)
          have HO3 : Hid (y3.ownsRow w0.heap.size 3 1 v' (k + 1) ((pxs (ps.take (k + 1))).map (Value.int .i64))) := Lib.hid (by rw [TX.out]; simpa using hown1)
          have HB3 : Hid (Below w0.heap.size w0 y3) := Lib.hid ((HB_6.out.alloc hbs _).grown hgrow1 (by simp; omega) (fun j hj => (hown.lt j hj).1))
          clear hown hown1 hgrow1 HOz
          go_roundw
          case rel => exact ⟨k + 1, by omega, by go_num, HS, HO3, HB3⟩
          case measure => simp [intOf]; omega
        | false =>
          have HF : Hid (cmbE P Q (m : Int) kn E1 E2 ps = 2) := Lib.hid (by rw [cmbE, m1.out, m2.out, HR.out, alla_hit hkl (by rw [hpx, paB, hm, hg]; rfl)]; rfl)
          have HM := Lib.hid hm
          have HG := Lib.hid hg
          clear hm hg HR hpx
          have HB_wr_3 : Hid (Below wr.heap.size wr wr) := Lib.hid (Below.refl _ _)
          obtain ⟨zc0, zc1, zc2, zc3, zc4, zc5, zc6, zc7, zc8, zc9, zc10⟩ := kC.out _ HBr
          have hq := below_box0 wr (paO ix v pA pna pca pC pZ pnz pcz)
          have HB_4 := Lib.hid (below_ext HBr.out hq)
          have HB_wr_4 := Lib.hid (below_ext HB_wr_3.out hq)
          have hc : (wr.alloc (paO ix v pA pna pca pC pZ pnz pcz)).cell? ⟨wr.heap.size, 0, none⟩ = some (.int .i64 ix) ∧ (wr.alloc (paO ix v pA pna pca pC pZ pnz pcz)).cell? ⟨wr.heap.size, 1, none⟩ = some (.int .i64 v) ∧ (wr.alloc (paO ix v pA pna pca pC pZ pnz pcz)).cell? ⟨wr.heap.size, 2, none⟩ = some (.slice pA pna pca) ∧ (wr.alloc (paO ix v pA pna pca pC pZ pnz pcz)).cell? ⟨wr.heap.size, 3, none⟩ = some (.int .i64 pC) ∧ (wr.alloc (paO ix v pA pna pca pC pZ pnz pcz)).cell? ⟨wr.heap.size, 4, none⟩ = some (.slice pZ pnz pcz) := ⟨allocs_cell rfl (by rfl), allocs_cell rfl (by rfl), allocs_cell rfl (by rfl), allocs_cell rfl (by rfl), allocs_cell rfl (by rfl)⟩
          have HC4 := Lib.hid hc
          clear hq
          obtain ⟨zc0x, zc1x, zc2x, zc3x, zc4x, zc5x, zc6x, zc7x, zc8x, zc9x, zc10x⟩ := kC.out _ HB_4
          obtain ⟨zq0, zq1, zq2, zq3, zq4⟩ := hc
          go_wp2_with fail
          obtain ⟨w4, hw⟩ : ∃ x, (wr.alloc (paO ix v pA pna pca pC pZ pnz pcz)) = x := ⟨_, rfl⟩
          rw [hw] at HC4 HB_4 HB_wr_4 ⊢
          have HSN4 : Hid (w4.heap.size = wr.heap.size + 1) := Lib.hid (by rw [← hw]; simp)
          clear zc0 zc1 zc2 zc3 zc4 zc5 zc6 zc7 zc8 zc9 zc10 zc0x zc1x zc2x zc3x zc4x zc5x zc6x zc7x zc8x zc9x zc10x zq0 zq1 zq2 zq3 zq4
          clear hw
          have HB_w4_4 : Hid (Below w4.heap.size w4 w4) := Lib.hid (Below.refl _ _)
          have kS := Lib.hid (show ∀ u : World, Hid (Below w4.heap.size w4 u) → u.cell? ⟨wr.heap.size, 0, none⟩ = some (.int .i64 ix) ∧ u.cell? ⟨wr.heap.size, 1, none⟩ = some (.int .i64 v) ∧ u.cell? ⟨wr.heap.size, 2, none⟩ = some (.slice pA pna pca) ∧ u.cell? ⟨wr.heap.size, 3, none⟩ = some (.int .i64 pC) ∧ u.cell? ⟨wr.heap.size, 4, none⟩ = some (.slice pZ pnz pcz) from fun u h => ⟨cell_below HC4.out.1 h.out, cell_below HC4.out.2.1 h.out, cell_below HC4.out.2.2.1 h.out, cell_below HC4.out.2.2.2.1 h.out, cell_below HC4.out.2.2.2.2 h.out⟩)
          obtain ⟨zc0, zc1, zc2, zc3, zc4, zc5, zc6, zc7, zc8, zc9, zc10⟩ := kC.out _ HB_4
          obtain ⟨kS_0, kS_1, kS_2, kS_3, kS_4⟩ := kS.out _ HB_w4_4
          clear j0 j1 j2 j3 j4
          clear zc0 zc1 zc2 zc3 zc4 zc5 zc6 zc7 zc8 zc9 zc10 kS_0 kS_1 kS_2 kS_3 kS_4
          obtain ⟨zc0, zc1, zc2, zc3, zc4, zc5, zc6, zc7, zc8, zc9, zc10⟩ := kC.out _ HB_4
          obtain ⟨kS_0, kS_1, kS_2, kS_3, kS_4⟩ := kS.out _ HB_w4_4
          go_wp2_with fail
          refine (member_any (m : Int) Cs cn cc Ks kn kc ix true HM _).mono ?_
          rintro e w5 ⟨rfl, hb0⟩
          have HB_5 := Lib.hid (below_ext HB_4.out hb0)
          have HB_wr_5 := Lib.hid (below_ext HB_wr_4.out hb0)
          have HB_w4_5 := Lib.hid (below_ext HB_w4_4.out hb0)
          clear zc0 zc1 zc2 zc3 zc4 zc5 zc6 zc7 zc8 zc9 zc10 kS_0 kS_1 kS_2 kS_3 kS_4
          clear hb0
          obtain ⟨zc0, zc1, zc2, zc3, zc4, zc5, zc6, zc7, zc8, zc9, zc10⟩ := kC.out _ HB_5
          obtain ⟨kS_0, kS_1, kS_2, kS_3, kS_4⟩ := kS.out _ HB_w4_5
          go_wp2_with fail
          refine (contains_any P Q G v false (Lib.hid (by rw [conG, HVG.out, HG.out]; rfl)) hQ _ (kV.out _ HB_5)).mono ?_
          rintro e w6 ⟨rfl, hb0⟩
          have HB_6 := Lib.hid (below_ext HB_5.out hb0)
          have HB_wr_6 := Lib.hid (below_ext HB_wr_5.out hb0)
          have HB_w4_6 := Lib.hid (below_ext HB_w4_5.out hb0)
          clear zc0 zc1 zc2 zc3 zc4 zc5 zc6 zc7 zc8 zc9 zc10 kS_0 kS_1 kS_2 kS_3 kS_4
          clear hb0
          obtain ⟨zc0, zc1, zc2, zc3, zc4, zc5, zc6, zc7, zc8, zc9, zc10⟩ := kC.out _ HB_6
          obtain ⟨kS_0, kS_1, kS_2, kS_3, kS_4⟩ := kS.out _ HB_w4_6
          have hbF := below_ext HBw.out HB_6.out
          go_wp2
          go_ret2
          exact ⟨by rw [cmbV, HF.out]; rfl, hbF⟩
      | false =>
        have HF : Hid (cmbE P Q (m : Int) kn E1 E2 ps = 2) := Lib.hid (by rw [cmbE, m1.out, m2.out, HR.out, alla_hit hkl (by rw [hpx, paB, hm]; rfl)]; rfl)
        have HM := Lib.hid hm
        clear hm HR hpx
        have HB_wr_3 : Hid (Below wr.heap.size wr wr) := Lib.hid (Below.refl _ _)
        obtain ⟨zc0, zc1, zc2, zc3, zc4, zc5, zc6, zc7, zc8, zc9, zc10⟩ := kC.out _ HBr
        have hq := below_box0 wr (paO ix v pA pna pca pC pZ pnz pcz)
        have HB_4 := Lib.hid (below_ext HBr.out hq)
        have HB_wr_4 := Lib.hid (below_ext HB_wr_3.out hq)
        have hc : (wr.alloc (paO ix v pA pna pca pC pZ pnz pcz)).cell? ⟨wr.heap.size, 0, none⟩ = some (.int .i64 ix) ∧ (wr.alloc (paO ix v pA pna pca pC pZ pnz pcz)).cell? ⟨wr.heap.size, 1, none⟩ = some (.int .i64 v) ∧ (wr.alloc (paO ix v pA pna pca pC pZ pnz pcz)).cell? ⟨wr.heap.size, 2, none⟩ = some (.slice pA pna pca) ∧ (wr.alloc (paO ix v pA pna pca pC pZ pnz pcz)).cell? ⟨wr.heap.size, 3, none⟩ = some (.int .i64 pC) ∧ (wr.alloc (paO ix v pA pna pca pC pZ pnz pcz)).cell? ⟨wr.heap.size, 4, none⟩ = some (.slice pZ pnz pcz) := ⟨allocs_cell rfl (by rfl), allocs_cell rfl (by rfl), allocs_cell rfl (by rfl), allocs_cell rfl (by rfl), allocs_cell rfl (by rfl)⟩
        have HC4 := Lib.hid hc
        clear hq
        obtain ⟨zc0x, zc1x, zc2x, zc3x, zc4x, zc5x, zc6x, zc7x, zc8x, zc9x, zc10x⟩ := kC.out _ HB_4
        obtain ⟨zq0, zq1, zq2, zq3, zq4⟩ := hc
        go_wp2_with fail
        obtain ⟨w4, hw⟩ : ∃ x, (wr.alloc (paO ix v pA pna pca pC pZ pnz pcz)) = x := ⟨_, rfl⟩
        rw [hw] at HC4 HB_4 HB_wr_4 ⊢
        have HSN4 : Hid (w4.heap.size = wr.heap.size + 1) := Lib.hid (by rw [← hw]; simp)
        clear zc0 zc1 zc2 zc3 zc4 zc5 zc6 zc7 zc8 zc9 zc10 zc0x zc1x zc2x zc3x zc4x zc5x zc6x zc7x zc8x zc9x zc10x zq0 zq1 zq2 zq3 zq4
        clear hw
        have HB_w4_4 : Hid (Below w4.heap.size w4 w4) := Lib.hid (Below.refl _ _)
        have kS := Lib.hid (show ∀ u : World, Hid (Below w4.heap.size w4 u) → u.cell? ⟨wr.heap.size, 0, none⟩ = some (.int .i64 ix) ∧ u.cell? ⟨wr.heap.size, 1, none⟩ = some (.int .i64 v) ∧ u.cell? ⟨wr.heap.size, 2, none⟩ = some (.slice pA pna pca) ∧ u.cell? ⟨wr.heap.size, 3, none⟩ = some (.int .i64 pC) ∧ u.cell? ⟨wr.heap.size, 4, none⟩ = some (.slice pZ pnz pcz) from fun u h => ⟨cell_below HC4.out.1 h.out, cell_below HC4.out.2.1 h.out, cell_below HC4.out.2.2.1 h.out, cell_below HC4.out.2.2.2.1 h.out, cell_below HC4.out.2.2.2.2 h.out⟩)
        obtain ⟨zc0, zc1, zc2, zc3, zc4, zc5, zc6, zc7, zc8, zc9, zc10⟩ := kC.out _ HB_4
        obtain ⟨kS_0, kS_1, kS_2, kS_3, kS_4⟩ := kS.out _ HB_w4_4
        clear j0 j1 j2 j3 j4
        clear zc0 zc1 zc2 zc3 zc4 zc5 zc6 zc7 zc8 zc9 zc10 kS_0 kS_1 kS_2 kS_3 kS_4
        obtain ⟨zc0, zc1, zc2, zc3, zc4, zc5, zc6, zc7, zc8, zc9, zc10⟩ := kC.out _ HB_4
        obtain ⟨kS_0, kS_1, kS_2, kS_3, kS_4⟩ := kS.out _ HB_w4_4
        go_wp2_with fail
        refine (member_any (m : Int) Cs cn cc Ks kn kc ix false HM _).mono ?_
        rintro e w5 ⟨rfl, hb0⟩
        have HB_5 := Lib.hid (below_ext HB_4.out hb0)
        have HB_wr_5 := Lib.hid (below_ext HB_wr_4.out hb0)
        have HB_w4_5 := Lib.hid (below_ext HB_w4_4.out hb0)
        clear zc0 zc1 zc2 zc3 zc4 zc5 zc6 zc7 zc8 zc9 zc10 kS_0 kS_1 kS_2 kS_3 kS_4
        clear hb0
        obtain ⟨zc0, zc1, zc2, zc3, zc4, zc5, zc6, zc7, zc8, zc9, zc10⟩ := kC.out _ HB_5
        obtain ⟨kS_0, kS_1, kS_2, kS_3, kS_4⟩ := kS.out _ HB_w4_5
        have hbF := below_ext HBw.out HB_5.out
        go_wp2
        go_ret2
        exact ⟨by rw [cmbV, HF.out]; rfl, hbF⟩
    · skip
      obtain rfl : k = n := by omega
      have hall : ps.all (paB P Q kn) = true := by rw [HR.out, ← hn.out, List.drop_length]; rfl
      have hox := HOX.out
      rw [List.take_of_length_le (by rw [hn.out]; exact Nat.le_refl _)] at hox
      have hixn : (pxs ps).length = k := by rw [List.length_map]; exact hn.out
      obtain ⟨AX, cX, hvX, sX, hcX⟩ := own_slc hox hixn
      subst hvX
      have HSX := Lib.hid sX
      have HIN := Lib.hid hixn
      have HALL := Lib.hid hall
      have HI64 : Hid (∀ j, j < k → -9223372036854775808 ≤ (pxs ps).getD j 0 ∧ (pxs ps).getD j 0 < 9223372036854775808) := Lib.hid (fun j hj => by rw [pxs_get (by rw [hn.out]; exact hj)]; exact hlr.out j hj)
      clear hall hox hixn sX HR HOX
      have HB_wr_3 : Hid (Below wr.heap.size wr wr) := Lib.hid (Below.refl _ _)
      have kX := Lib.hid (show ∀ u : World, Hid (Below wr.heap.size wr u) → Hid (Sl u AX (pxs ps)) from fun u h => Lib.hid (HSX.out.below h.out))
      obtain ⟨zc0, zc1, zc2, zc3, zc4, zc5, zc6, zc7, zc8, zc9, zc10⟩ := kC.out _ HBr
      by_cases hnt : NoTwice (pxs ps)
      · skip
        have HNTW := Lib.hid hnt
        clear hnt
        go_wp2_with fail
        refine (twice_any AX (pxs ps) k cX false (Lib.hid ⟨fun _ => HNTW.out, fun _ => rfl⟩) HIN (by omega) HI64 _ (kX.out _ HB_wr_3)).mono ?_
        rintro e w4 ⟨rfl, hb0⟩
        have HB_4 := Lib.hid (below_ext HBr.out hb0)
        have HB_wr_4 := Lib.hid (below_ext HB_wr_3.out hb0)
        clear zc0 zc1 zc2 zc3 zc4 zc5 zc6 zc7 zc8 zc9 zc10
        clear hb0
        obtain ⟨zc0, zc1, zc2, zc3, zc4, zc5, zc6, zc7, zc8, zc9, zc10⟩ := kC.out _ HB_4
        by_cases hfw : k < m
        · skip
          have HF : Hid (cmbE P Q (m : Int) kn E1 E2 ps = 7) := Lib.hid (by rw [cmbE, m1.out, m2.out, HALL.out]; simp [HNTW.out, hn.out]; omega)
          have df : decide ((k : Int) < (m : Int)) = true := by simp; omega
          have hbF := below_ext HBw.out HB_4.out
          go_wp2
          go_ret2
          exact ⟨by rw [cmbV, HF.out]; rfl, hbF⟩
        · skip
          have HF : Hid (cmbE P Q (m : Int) kn E1 E2 ps = 0) := Lib.hid (by rw [cmbE, m1.out, m2.out, HALL.out]; simp [HNTW.out, hn.out]; omega)
          have HVF : Hid (cmbV P Q (m : Int) kn E1 E2 ps = rkM P Q E2 (pvs ps) (wtI Q ((pxs ps).take m) 0) m) := Lib.hid (by rw [cmbV, HF.out]; rfl)
          have df : decide ((k : Int) < (m : Int)) = false := by simp; omega
          have hmc : m ≤ cX := by omega
          have HTN : Hid (((pxs ps).take m).length = m) := Lib.hid (by rw [List.length_take, HIN.out]; omega)
          have HTS : Hid (((pxs ps).take m).all (scB Q) = true) := Lib.hid (pxs_sc HALL.out n3)
          have HTT : Hid (NoTwice ((pxs ps).take m)) := Lib.hid (noTwice_take HNTW.out)
          obtain ⟨q1, q2, q3, q4⟩ := validG_P HVG.out
          have HPQ : Hid (isP Q = true) := Lib.hid (validG_Q HVG.out)
          have kX2 := Lib.hid (show ∀ u : World, Hid (Below wr.heap.size wr u) → Hid (Sl u AX ((pxs ps).take m)) from fun u h => Lib.hid ((sl_take (HSX.out.below h.out) m)))
          go_upto_region 17 with (fail)
          clear zc0 zc1 zc2 zc3 zc4 zc5 zc6 zc7 zc8 zc9 zc10
          have hBx5 := Lib.hid (show ∀ u u2 : World, Hid (Below w0.heap.size w0 u ∧ Below wr.heap.size wr u) → Below u.heap.size u u2 → Hid (Below w0.heap.size w0 u2 ∧ Below wr.heap.size wr u2) from fun u u2 h1 h2 => Lib.hid ⟨(below_ext h1.out.1 h2), (below_ext h1.out.2 h2)⟩)
          have hS5 := Lib.hid (show ∀ u : World, Hid (Below w0.heap.size w0 u ∧ Below wr.heap.size wr u) → (u.cell? ⟨w.heap.size, 0, none⟩ = some (.int .i64 P) ∧ u.cell? ⟨w.heap.size, 1, none⟩ = some (.int .i64 Q) ∧ u.cell? ⟨w.heap.size, 2, none⟩ = some (.int .i64 G) ∧ u.cell? ⟨w.heap.size + 1, 0, none⟩ = some (.int .i64 (m : Int)) ∧ u.cell? ⟨w.heap.size + 1, 1, none⟩ = some (.slice Cs cn cc) ∧ u.cell? ⟨w.heap.size + 1, 2, none⟩ = some (.slice Ks kn kc) ∧ u.cell? ⟨w.heap.size + 2, 0, none⟩ = some (.int .i64 E1) ∧ u.cell? ⟨w.heap.size + 2, 1, none⟩ = some (.int .i64 E2) ∧ u.cell? ⟨w.heap.size + 2, 2, none⟩ = some (.slice A na ca) ∧ u.cell? ⟨w.heap.size + 2, 3, none⟩ = some (.int .i64 C) ∧ u.cell? ⟨w.heap.size + 2, 4, none⟩ = some (.slice Z nz cz) ∧ Hid (Below w0.heap.size w0 u ∧ Below wr.heap.size wr u)) from fun u h1 => by
            obtain ⟨y0, y1, y2, y3, y4, y5, y6, y7, y8, y9, y10⟩ := kC.out _ (Lib.hid h1.out.1)
            exact ⟨y0, y1, y2, y3, y4, y5, y6, y7, y8, y9, y10, h1⟩)
          have HBA5 : Hid (Below w0.heap.size w0 w4 ∧ Below wr.heap.size wr w4) := Lib.hid ⟨HB_4.out, HB_wr_4.out⟩
          refine wp_region_T (S := fun w' => w'.cell? ⟨w.heap.size, 0, none⟩ = some (.int .i64 P) ∧ w'.cell? ⟨w.heap.size, 1, none⟩ = some (.int .i64 Q) ∧ w'.cell? ⟨w.heap.size, 2, none⟩ = some (.int .i64 G) ∧ w'.cell? ⟨w.heap.size + 1, 0, none⟩ = some (.int .i64 (m : Int)) ∧ w'.cell? ⟨w.heap.size + 1, 1, none⟩ = some (.slice Cs cn cc) ∧ w'.cell? ⟨w.heap.size + 1, 2, none⟩ = some (.slice Ks kn kc) ∧ w'.cell? ⟨w.heap.size + 2, 0, none⟩ = some (.int .i64 E1) ∧ w'.cell? ⟨w.heap.size + 2, 1, none⟩ = some (.int .i64 E2) ∧ w'.cell? ⟨w.heap.size + 2, 2, none⟩ = some (.slice A na ca) ∧ w'.cell? ⟨w.heap.size + 2, 3, none⟩ = some (.int .i64 C) ∧ w'.cell? ⟨w.heap.size + 2, 4, none⟩ = some (.slice Z nz cz) ∧ Hid (Below w0.heap.size w0 w' ∧ Below wr.heap.size wr w')) (E := []) (by kernel_rfl) (hS5.out _ (hBx5.out _ _ HBA5 ((Below.refl _ _).drew))) (fun hHeld => ?_)
          refine tkV 0 ?_
          try simp only [qq1, qq2, qq3, Act.put, qq4, qq5, qq6]
          refine tkV 1 ?_
          try simp only [qq1, qq2, qq3, Act.put, qq4, qq5, qq6]
          refine tkV 2 ?_
          try simp only [qq1, qq2, qq3, Act.put, qq4, qq5, qq6]
          refine tkV 3 ?_
          try simp only [qq1, qq2, qq3, Act.put, qq4, qq5, qq6]
          refine tkV 4 ?_
          try simp only [qq1, qq2, qq3, Act.put, qq4, qq5, qq6]
          refine tkV 5 ?_
          try simp only [qq1, qq2, qq3, Act.put, qq4, qq5, qq6]
          refine wpT_one (i := 6) (by kernel_rfl) rfl (fun K hK => ?_)
          go_simp
          refine (weights_any Q AX ((pxs ps).take m) m cX 0 (by omega) HPQ HTN (by omega) HTS (by omega) (by omega) hmc HTT _ (kV.out _ (Lib.hid (hHeld.2.2.2.2.2.2.2.2.2.2.2).out.1)) (kX2.out _ (Lib.hid (hHeld.2.2.2.2.2.2.2.2.2.2.2).out.2))).mono ?_
          intro e wA hW
          obtain ⟨vw, rfl, hOW, hbA⟩ := hW
          have HOW := Lib.hid hOW
          clear hOW
          refine hK.out _ _ ?_ (fun hHeld => ?_)
          · exact hS5.out _ (hBx5.out _ _ hHeld.2.2.2.2.2.2.2.2.2.2.2 hbA)
          clear hK K
          try simp only [qq1, qq2, qq3, Act.put, qq4, qq5, qq6]
          refine tkV 7 ?_
          try simp only [qq1, qq2, qq3, Act.put, qq4, qq5, qq6]
          refine tkV 8 ?_
          try simp only [qq1, qq2, qq3, Act.put, qq4, qq5, qq6]
          refine tkV 9 ?_
          try simp only [qq1, qq2, qq3, Act.put, qq4, qq5, qq6]
          refine tkV 10 ?_
          try simp only [qq1, qq2, qq3, Act.put, qq4, qq5, qq6]
          refine tkV 11 ?_
          try simp only [qq1, qq2, qq3, Act.put, qq4, qq5, qq6]
          refine wpT_done (by kernel_rfl) ?_ _
          obtain ⟨x0, x1, x2, x3, x4, x5, x6, x7, x8, x9, x10, FB5⟩ := hHeld
          clear x0 x1 x2 x3 x4 x5 x6 x7 x8 x9 x10 hS5 hBx5 HBA5
          have HL5_w0 := Lib.hid FB5.out.1
          have HL5_wr := Lib.hid FB5.out.2
          obtain ⟨zc0, zc1, zc2, zc3, zc4, zc5, zc6, zc7, zc8, zc9, zc10⟩ := kC.out _ HL5_w0
          have hO9 := HOW.out
          unfold OwnL at hO9
          rw [wtL_length] at hO9
          obtain ⟨AW, cW, hvw, sW, hcW⟩ := own_slc hO9 (wtL_length _ _ _ _)
          subst hvw
          have HSW := Lib.hid sW
          clear hO9 sW HOW
          clear zc0 zc1 zc2 zc3 zc4 zc5 zc6 zc7 zc8 zc9 zc10
          have HB_wA_5 : Hid (Below wA.heap.size wA wA) := Lib.hid (Below.refl _ _)
          have kW := Lib.hid (show ∀ u : World, Hid (Below wA.heap.size wA u) → Hid (Sl u AW (wtL Q ((pxs ps).take m) 0 m)) from fun u h => Lib.hid (HSW.out.below h.out))
          obtain ⟨zc0, zc1, zc2, zc3, zc4, zc5, zc6, zc7, zc8, zc9, zc10⟩ := kC.out _ HL5_w0
          go_wp2
          clear zc0 zc1 zc2 zc3 zc4 zc5 zc6 zc7 zc8 zc9 zc10
          go_loopw [15, 86] (fun a i wz => ∃ j : Nat, j ≤ m ∧ i = .int .i64 j ∧ a = .int .i64 (mkM P Q (pvs ps) (wtI Q ((pxs ps).take m) 0) j) ∧ Hid (Below wA.heap.size wA wz)) (fun _ i _ => m - (intOf i).toNat)
          case atStart => exact ⟨0, by omega, rfl, rfl, Lib.hid (Below.refl _ _)⟩
          case round =>
            obtain ⟨j, hj, rfl, rfl, HBz⟩ := hrel
            have HZ_w0 := Lib.hid (below_ext HL5_w0.out HBz.out)
            have HZ_wr := Lib.hid (below_ext HL5_wr.out HBz.out)
            have hmm := mkM_mem (ws := wtI Q ((pxs ps).take m) 0) q1 (by omega) j (fun i hi => paB_mem (alla_get HALL.out (show i < ps.length by have := hn.out; omega)))
            by_cases hltj : j < m
            · skip
              have hkl : j < ps.length := by have := hn.out; omega
              obtain ⟨b1, o1, hA1, i1⟩ := (kW.out _ HBz).out j (by rw [wtL_length]; exact hltj)
              subst hA1
              have hjk : j < k := by omega
              obtain ⟨b2, o2, hA2, j0, j1, j2, j3, j4, hok⟩ := (kL.out _ HZ_w0).out j hkl
              subst hA2
              rw [wtL_get _ _ _ _ _ hltj] at i1
              have ss : mkM P Q (pvs ps) (wtI Q ((pxs ps).take m) 0) (j + 1) = mkM P Q (pvs ps) (wtI Q ((pxs ps).take m) 0) j * pw (pvs ps j) (wtI Q ((pxs ps).take m) 0 j % Q) P % P := rfl
              obtain ⟨x0, x1⟩ := wtI_bounds (q := Q) (by omega) ((pxs ps).take m) 0 j
              have hyb := paB_mem (alla_get HALL.out hkl)
              have j1' := j1
              obtain ⟨x, hx⟩ : ∃ x, wtI Q ((pxs ps).take m) 0 j = x := ⟨_, rfl⟩
              obtain ⟨y, hy⟩ : ∃ x, pvs ps j = x := ⟨_, rfl⟩
              obtain ⟨s9, hs9⟩ : ∃ x, mkM P Q (pvs ps) (wtI Q ((pxs ps).take m) 0) j = x := ⟨_, rfl⟩
              rw [hx] at i1 x0 x1 ss
              rw [show (ps.getD j noPart).v = y from hy] at j1
              rw [show (ps.getD j noPart).v = y from hy] at hyb
              rw [hy, hs9] at ss
              rw [hs9] at hmm ⊢
              obtain ⟨p, hp⟩ : ∃ z, pw y (x % Q) P = z := ⟨_, rfl⟩
              obtain ⟨t9, ht9⟩ : ∃ z, s9 * p % P = z := ⟨_, rfl⟩
              rw [hp, ht9] at ss
              have mp : memG P Q p = true := by rw [← hp]; exact mem_pw q1 (by omega) (Int.emod_nonneg _ (by omega)) hyb
              have ck1 : Hid (chkG P Q G [y] = 0) := Lib.hid (chkG_ok HVG.out (by simp [hyb]))
              have ck2 : Hid (chkG P Q G [s9, p] = 0) := Lib.hid (chkG_ok HVG.out (by simp [hmm, mp]))
              have SS := Lib.hid ss
              have HP := Lib.hid hp
              have HT9 := Lib.hid ht9
              have kI := Lib.hid (show ∀ u : World, Hid (Below wr.heap.size wr u) → u.cell? ⟨b2, o2 + j * 5 + 1, none⟩ = some (.int .i64 y) from fun u h => cell_below j1 h.out)
              clear ss hx hy hs9 hp ht9 hkl hyb mp hmm j0 j1 j1' j2 j3 j4 hok
              have HB_wr_5 : Hid (Below wr.heap.size wr wr) := Lib.hid (Below.refl _ _)
              obtain ⟨zc0, zc1, zc2, zc3, zc4, zc5, zc6, zc7, zc8, zc9, zc10⟩ := kC.out _ HZ_w0
              have kI_0 := kI.out _ HB_wr_5
              go_wp2_with fail
              clear zc0 zc1 zc2 zc3 zc4 zc5 zc6 zc7 zc8 zc9 zc10 kI_0
              have hBx6 := Lib.hid (show ∀ u u2 : World, Hid (Below w0.heap.size w0 u ∧ Below wA.heap.size wA u ∧ Below wr.heap.size wr u) → Below u.heap.size u u2 → Hid (Below w0.heap.size w0 u2 ∧ Below wA.heap.size wA u2 ∧ Below wr.heap.size wr u2) from fun u u2 h1 h2 => Lib.hid ⟨(below_ext h1.out.1 h2), (below_ext h1.out.2.1 h2), (below_ext h1.out.2.2 h2)⟩)
              have hS6 := Lib.hid (show ∀ u : World, Hid (Below w0.heap.size w0 u ∧ Below wA.heap.size wA u ∧ Below wr.heap.size wr u) → (u.cell? ⟨w.heap.size, 0, none⟩ = some (.int .i64 P) ∧ u.cell? ⟨w.heap.size, 1, none⟩ = some (.int .i64 Q) ∧ u.cell? ⟨w.heap.size, 2, none⟩ = some (.int .i64 G) ∧ u.cell? ⟨w.heap.size + 1, 0, none⟩ = some (.int .i64 (m : Int)) ∧ u.cell? ⟨w.heap.size + 1, 1, none⟩ = some (.slice Cs cn cc) ∧ u.cell? ⟨w.heap.size + 1, 2, none⟩ = some (.slice Ks kn kc) ∧ u.cell? ⟨w.heap.size + 2, 0, none⟩ = some (.int .i64 E1) ∧ u.cell? ⟨w.heap.size + 2, 1, none⟩ = some (.int .i64 E2) ∧ u.cell? ⟨w.heap.size + 2, 2, none⟩ = some (.slice A na ca) ∧ u.cell? ⟨w.heap.size + 2, 3, none⟩ = some (.int .i64 C) ∧ u.cell? ⟨w.heap.size + 2, 4, none⟩ = some (.slice Z nz cz) ∧ u.cell? ⟨b2, o2 + j * 5 + 1, none⟩ = some (.int .i64 y) ∧ Hid (Below w0.heap.size w0 u ∧ Below wA.heap.size wA u ∧ Below wr.heap.size wr u)) from fun u h1 => by
                obtain ⟨y0, y1, y2, y3, y4, y5, y6, y7, y8, y9, y10⟩ := kC.out _ (Lib.hid h1.out.1)
                have kI_0 := kI.out _ (Lib.hid h1.out.2.2)
                exact ⟨y0, y1, y2, y3, y4, y5, y6, y7, y8, y9, y10, kI_0, h1⟩)
              have HBA6 : Hid (Below w0.heap.size w0 wr ∧ Below wA.heap.size wA wr ∧ Below wr.heap.size wr wr) := Lib.hid ⟨HZ_w0.out, HBz.out, HB_wr_5.out⟩
              refine wp_region_T (S := fun w' => w'.cell? ⟨w.heap.size, 0, none⟩ = some (.int .i64 P) ∧ w'.cell? ⟨w.heap.size, 1, none⟩ = some (.int .i64 Q) ∧ w'.cell? ⟨w.heap.size, 2, none⟩ = some (.int .i64 G) ∧ w'.cell? ⟨w.heap.size + 1, 0, none⟩ = some (.int .i64 (m : Int)) ∧ w'.cell? ⟨w.heap.size + 1, 1, none⟩ = some (.slice Cs cn cc) ∧ w'.cell? ⟨w.heap.size + 1, 2, none⟩ = some (.slice Ks kn kc) ∧ w'.cell? ⟨w.heap.size + 2, 0, none⟩ = some (.int .i64 E1) ∧ w'.cell? ⟨w.heap.size + 2, 1, none⟩ = some (.int .i64 E2) ∧ w'.cell? ⟨w.heap.size + 2, 2, none⟩ = some (.slice A na ca) ∧ w'.cell? ⟨w.heap.size + 2, 3, none⟩ = some (.int .i64 C) ∧ w'.cell? ⟨w.heap.size + 2, 4, none⟩ = some (.slice Z nz cz) ∧ w'.cell? ⟨b2, o2 + j * 5 + 1, none⟩ = some (.int .i64 y) ∧ Hid (Below w0.heap.size w0 w' ∧ Below wA.heap.size wA w' ∧ Below wr.heap.size wr w')) (E := []) (by kernel_rfl) (hS6.out _ (hBx6.out _ _ HBA6 ((Below.refl _ _).drew))) (fun hHeld => ?_)
              refine tkV 0 ?_
              try simp only [qq1, qq2, qq3, Act.put, qq4, qq5, qq6]
              refine tkV 1 ?_
              try simp only [qq1, qq2, qq3, Act.put, qq4, qq5, qq6]
              refine tkV 2 ?_
              try simp only [qq1, qq2, qq3, Act.put, qq4, qq5, qq6]
              refine tkV 3 ?_
              try simp only [qq1, qq2, qq3, Act.put, qq4, qq5, qq6]
              refine tkV 4 ?_
              try simp only [qq1, qq2, qq3, Act.put, qq4, qq5, qq6]
              refine tkV 5 ?_
              try simp only [qq1, qq2, qq3, Act.put, qq4, qq5, qq6]
              refine tkV 6 ?_
              try simp only [qq1, qq2, qq3, Act.put, qq4, qq5, qq6]
              refine wpT_one (i := 7) (by kernel_rfl) rfl (fun K hK => ?_)
              go_simp
              refine (gpow_ok P Q G y x p ck1 HP (by omega) (by omega) _ (kV.out _ (Lib.hid (hHeld.2.2.2.2.2.2.2.2.2.2.2.2).out.1))).mono ?_
              rintro e wA ⟨rfl, hbA⟩
              refine hK.out _ _ ?_ (fun hHeld => ?_)
              · exact hS6.out _ (hBx6.out _ _ hHeld.2.2.2.2.2.2.2.2.2.2.2.2 hbA)
              clear hK K
              try simp only [qq1, qq2, qq3, Act.put, qq4, qq5, qq6]
              refine tkV 8 ?_
              try simp only [qq1, qq2, qq3, Act.put, qq4, qq5, qq6]
              refine tkV 9 ?_
              try simp only [qq1, qq2, qq3, Act.put, qq4, qq5, qq6]
              refine tkV 10 ?_
              try simp only [qq1, qq2, qq3, Act.put, qq4, qq5, qq6]
              refine tkV 11 ?_
              try simp only [qq1, qq2, qq3, Act.put, qq4, qq5, qq6]
              refine tkV 12 ?_
              try simp only [qq1, qq2, qq3, Act.put, qq4, qq5, qq6]
              refine wpT_done (by kernel_rfl) ?_ _
              obtain ⟨x0, x1, x2, x3, x4, x5, x6, x7, x8, x9, x10, x11, FB6⟩ := hHeld
              clear x0 x1 x2 x3 x4 x5 x6 x7 x8 x9 x10 x11 hS6 hBx6 HBA6
              have HL6_w0 := Lib.hid FB6.out.1
              have HL6_wA := Lib.hid FB6.out.2.1
              have HL6_wr := Lib.hid FB6.out.2.2
              obtain ⟨zc0, zc1, zc2, zc3, zc4, zc5, zc6, zc7, zc8, zc9, zc10⟩ := kC.out _ HL6_w0
              have kI_0 := kI.out _ HL6_wr
              go_wp2_with fail
              refine (gmul_ok P Q G s9 p t9 ck2 HT9 hQ _ (kV.out _ HL6_w0)).mono ?_
              rintro e w7 ⟨rfl, hb0⟩
              have HB_7 := Lib.hid (below_ext HL6_w0.out hb0)
              have HB_wA_7 := Lib.hid (below_ext HL6_wA.out hb0)
              have HB_wr_7 := Lib.hid (below_ext HL6_wr.out hb0)
              clear zc0 zc1 zc2 zc3 zc4 zc5 zc6 zc7 zc8 zc9 zc10 kI_0
              clear hb0
              obtain ⟨zc0, zc1, zc2, zc3, zc4, zc5, zc6, zc7, zc8, zc9, zc10⟩ := kC.out _ HB_7
              have kI_0 := kI.out _ HB_wr_7
              go_wp2
              go_roundw
              case rel => exact ⟨j + 1, by omega, by go_num, by rw [SS.out], HB_wA_7⟩
              case measure => simp [intOf]; omega
            · skip
              obtain rfl : j = m := by omega
              obtain ⟨s9, hs9⟩ : ∃ x, mkM P Q (pvs ps) (wtI Q ((pxs ps).take j) 0) j = x := ⟨_, rfl⟩
              rw [hs9] at hmm ⊢
              have HS9 := Lib.hid hs9
              have ck1 : Hid (chkG P Q G [s9] = 0) := Lib.hid (chkG_ok HVG.out (by simp [hmm]))
              have HMM := Lib.hid hmm
              clear hmm hs9
              obtain ⟨zc0, zc1, zc2, zc3, zc4, zc5, zc6, zc7, zc8, zc9, zc10⟩ := kC.out _ HZ_w0
              go_wp2_with fail
              refine (ginv_ok P Q G s9 ck1 hQ _ (kV.out _ HZ_w0)).mono ?_
              intro e w6 hI
              obtain ⟨xi, rfl, x0, x1, hxi, hb0⟩ := hI
              have HXI := Lib.hid hxi
              clear hxi
              have HB_6 := Lib.hid (below_ext HZ_w0.out hb0)
              have HB_wr_6 := Lib.hid (below_ext HZ_wr.out hb0)
              have HB_wA_6 := Lib.hid (below_ext HBz.out hb0)
              clear zc0 zc1 zc2 zc3 zc4 zc5 zc6 zc7 zc8 zc9 zc10
              clear hb0
              obtain ⟨zc0, zc1, zc2, zc3, zc4, zc5, zc6, zc7, zc8, zc9, zc10⟩ := kC.out _ HB_6
              have mxi := mem_inv q1 (by omega) HMM.out x0 x1 HXI.out
              have HLAW : Hid (E2 * xi % P = rkM P Q E2 (pvs ps) (wtI Q ((pxs ps).take j) 0) j) := Lib.hid (combine_law q1 (by omega) (by have := memG_lo m2.out; omega) (memG_hi m2.out) (fun i hi => memG_pw (paB_mem (alla_get HALL.out (show i < ps.length by have := hn.out; omega)))) (by rw [HS9.out]; exact HXI.out))
              have ck2 : Hid (chkG P Q G [E2, xi] = 0) := Lib.hid (chkG_ok HVG.out (by simp [m2.out, mxi]))
              clear mxi
              go_wp2_with fail
              refine (gmul_ok P Q G E2 xi _ ck2 HLAW hQ _ (kV.out _ HB_6)).mono ?_
              rintro e w7 ⟨rfl, hb0⟩
              have HB_7 := Lib.hid (below_ext HB_6.out hb0)
              have HB_wr_7 := Lib.hid (below_ext HB_wr_6.out hb0)
              have HB_wA_7 := Lib.hid (below_ext HB_wA_6.out hb0)
              clear zc0 zc1 zc2 zc3 zc4 zc5 zc6 zc7 zc8 zc9 zc10
              clear hb0
              obtain ⟨zc0, zc1, zc2, zc3, zc4, zc5, zc6, zc7, zc8, zc9, zc10⟩ := kC.out _ HB_7
              have hbF := below_ext HBw.out HB_7.out
              go_wp2
              go_ret2
              exact ⟨by rw [HVF.out, HF.out]; rfl, hbF⟩
      · skip
        have HF : Hid (cmbE P Q (m : Int) kn E1 E2 ps = 8) := Lib.hid (by rw [cmbE, m1.out, m2.out, HALL.out]; simp [hnt])
        have HNTW := Lib.hid hnt
        clear hnt
        go_wp2_with fail
        refine (twice_any AX (pxs ps) k cX true (Lib.hid ⟨fun h => (by cases h), fun h => absurd h HNTW.out⟩) HIN (by omega) HI64 _ (kX.out _ HB_wr_3)).mono ?_
        rintro e w4 ⟨rfl, hb0⟩
        have HB_4 := Lib.hid (below_ext HBr.out hb0)
        have HB_wr_4 := Lib.hid (below_ext HB_wr_3.out hb0)
        clear zc0 zc1 zc2 zc3 zc4 zc5 zc6 zc7 zc8 zc9 zc10
        clear hb0
        obtain ⟨zc0, zc1, zc2, zc3, zc4, zc5, zc6, zc7, zc8, zc9, zc10⟩ := kC.out _ HB_4
        have hbF := below_ext HBw.out HB_4.out
        go_wp2
        go_ret2
        exact ⟨by rw [cmbV, HF.out]; rfl, hbF⟩
end Go.Proofs.YtjnoaejikapmdaaGreatDoor
namespace Go.Proofs.YtjnoaejikapmdaaGreatDoor
open Go.ChangeShapes Go.WideShapes Go.ChangeAt Go.RowKit SpM
set_option linter.unusedVariables false
theorem cellsTru : Tryz.prog.cellsOf 26 = 3 := by kernel_rfl
theorem cellsPart : Tryz.prog.cellsOf 56 = 5 := by kernel_rfl
section
variable {H : Type} {enc : TypeId × Value → H} {w : World} {base : Nat} {held : Bool}
set_option maxRecDepth 100000
theorem open_tru {r : Reach} {b0 : Nat} {v : Value} {d : DataW H} {ps : List MemPlace} (hval : Value.okWide Tryz.prog w r b0 26 v) (hd : DataW.Trod enc Tryz.prog w base (fun _ => true) held 26 v d ps) :
    ∃ (need : Int) (Cs : Option Addr) (cn cc : Nat) (cs : List Int) (Ks : Option Addr) (kn kc : Nat) (ks : List Int), v = .agg #[.int .i64 need, .slice Cs cn cc, .slice Ks kn kc] ∧ -9223372036854775808 ≤ need ∧ need ≤ 9223372036854775807 ∧ cs.length = cn ∧ ks.length = kn ∧ Sl w Cs cs ∧ Sl w Ks ks := by
  obtain ⟨cs, rfl, hsz⟩ := okWide_struct Tryz.underlying26 hval
  obtain ⟨n, h⟩ := hd
  obtain ⟨xs, m, rfl, _, hl, hxl, hf⟩ := DataW.trod_struct Tryz.underlying26 h
  rw [cellsTru] at hl
  obtain ⟨cl⟩ := cs
  simp only [Value.cells] at hl hf
  match cl, hl with
  | [c0, c1, c2], _ =>
    have f0 : DataW.trod enc Tryz.prog w base (fun _ => true) held m 3 (([c0, c1, c2].drop 0).take (Tryz.prog.cellsOf 3)) = xs[0]? := hf 0 _ rfl
    have f1 : DataW.trod enc Tryz.prog w base (fun _ => true) held m 24 (([c0, c1, c2].drop 1).take (Tryz.prog.cellsOf 24)) = xs[1]? := hf 1 _ rfl
    have f2 : DataW.trod enc Tryz.prog w base (fun _ => true) held m 24 (([c0, c1, c2].drop 2).take (Tryz.prog.cellsOf 24)) = xs[2]? := hf 2 _ rfl
    rw [cellsSlI] at f1 f2
    rw [cellsInt] at f0
    have hl3 : xs.length = 3 := hxl
    match xs, hl3 with
    | [x0, x1, x2], _ =>
      obtain ⟨N, hN, _, wN⟩ := DataW.trod_int Tryz.underlying3 f0
      obtain ⟨RA, hA, oA⟩ := open_row f1
      obtain ⟨RZ, hZ, oZ⟩ := open_row f2
      simp at hA hN hZ
      subst hA; subst hN; subst hZ
      have hb : -9223372036854775808 ≤ N ∧ N ≤ 9223372036854775807 := by
        simp [Lit.wf, IntKind.min, IntKind.max, IntKind.signed, IntKind.bits] at wN
        omega
      exact ⟨N, RA.p, RA.n, RA.c, RA.xs, RZ.p, RZ.n, RZ.c, RZ.xs, rfl, hb.1, hb.2, oA.1, oZ.1, oA.2, oZ.2⟩
theorem open_part_cells {n : Nat} {cs : List Value} {x : DataW H × List MemPlace} (h : DataW.trod enc Tryz.prog w base (fun _ => true) held n 56 cs = some x) :
    ∃ p : PartR, cs = [.int .i64 p.ix, .int .i64 p.v, .slice p.A p.na p.ca, .int .i64 p.C, .slice p.Z p.nz p.cz] ∧ PaOk w p ∧ r64 p.ix := by
  obtain ⟨xs, m, rfl, _, hl, hxl, hf⟩ := DataW.trod_struct Tryz.underlying56 h
  rw [cellsPart] at hl
  match cs, hl with
  | [c0, c1, c2, c3, c4], _ =>
    have f0 : DataW.trod enc Tryz.prog w base (fun _ => true) held m 3 (([c0, c1, c2, c3, c4].drop 0).take (Tryz.prog.cellsOf 3)) = xs[0]? := hf 0 _ rfl
    have f1 : DataW.trod enc Tryz.prog w base (fun _ => true) held m 3 (([c0, c1, c2, c3, c4].drop 1).take (Tryz.prog.cellsOf 3)) = xs[1]? := hf 1 _ rfl
    have f2 : DataW.trod enc Tryz.prog w base (fun _ => true) held m 50 (([c0, c1, c2, c3, c4].drop 2).take (Tryz.prog.cellsOf 50)) = xs[2]? := hf 2 _ rfl
    rw [cellsInt] at f0 f1
    rw [cellsPrf] at f2
    have hl3 : xs.length = 3 := hxl
    match xs, hl3 with
    | [x0, x1, x2], _ =>
      obtain ⟨E1, hE1, _, w1⟩ := DataW.trod_int Tryz.underlying3 f0
      obtain ⟨E2, hE2, _, w2⟩ := DataW.trod_int Tryz.underlying3 f1
      obtain ⟨A, na, ca, al, C, Z, nz, cz, zs, hP, h1, h2, h3, h4⟩ := open_prf_cellsE f2
      simp at hE1 hE2 hP
      obtain ⟨rfl, rfl, rfl⟩ := hP
      subst hE1; subst hE2
      have hb : -9223372036854775808 ≤ E1 ∧ E1 < 9223372036854775808 := by
        simp [Lit.wf, IntKind.min, IntKind.max, IntKind.signed, IntKind.bits] at w1
        omega
      exact ⟨⟨E1, E2, A, na, ca, al, C, Z, nz, cz, zs⟩, rfl, ⟨h1, h2, h3, h4⟩, hb⟩
def paC (p : PartR) : List Value := [.int .i64 p.ix, .int .i64 p.v, .slice p.A p.na p.ca, .int .i64 p.C, .slice p.Z p.nz p.cz]
theorem addr_at (b o k : Nat) (spot : Option Nat) (h : spot = none) : (⟨b, o, spot⟩ : Addr).add k = ⟨b, o + k, none⟩ := by
  subst h
  unfold Addr.add
  split
  · rename_i h0; subst h0; rfl
  · rfl
theorem open_parts {r : Reach} {b0 : Nat} {v : Value} {d : DataW H} {ps : List MemPlace} (hval : Value.okWide Tryz.prog w r b0 53 v) (hd : DataW.Trod enc Tryz.prog w base (fun _ => true) held 53 v d ps) :
    ∃ (L : Option Addr) (n c : Nat) (l : List PartR), v = .slice L n c ∧ l.length = n ∧ Pa w L l ∧ ∀ k, k < n → r64 (l.getD k noPart).ix := by
  obtain ⟨a, len, cap, rfl⟩ := okWide_slice Tryz.underlying53 hval
  obtain ⟨n, h⟩ := hd
  rcases Go.Deep.open_slice Tryz.underlying53 h with ⟨h0, _⟩ | ⟨a', len', cap', m, n', D, Pl, h0, _, hlc, _, hm, _, hx⟩
  · simp [Value.cells] at h0
    obtain ⟨rfl, rfl, rfl⟩ := h0
    exact ⟨none, 0, 0, [], rfl, rfl, fun k hk => absurd hk (by simp), fun k hk => absurd hk (by omega)⟩
  · simp [Value.cells] at h0
    obtain ⟨rfl, rfl, rfl⟩ := h0
    simp at hm
    haveI : Inhabited PartR := ⟨noPart⟩
    obtain ⟨f, hf⟩ := Go.Deep.choose_lt (α := PartR) (n := len) (p := fun i p => (∀ r, r < 5 → w.cell? ((a'.add (i * 5)).add r) = (paC p)[r]?) ∧ PaOk w p ∧ r64 p.ix) (fun i hi => by
      obtain ⟨cs', h1, h2⟩ := hx i (by omega)
      rw [cellsPart] at h1
      obtain ⟨_, hlen, hcell⟩ := World.cells?_some h1
      obtain ⟨p, hp, hok, hr⟩ := open_part_cells h2
      exact ⟨p, fun r hr => by rw [hcell r hr, hp]; rfl, hok, hr⟩)
    have e : ∀ k, k < len → ((List.range len).map f).getD k noPart = f k := fun k hk => by
      rw [List.getD_eq_getElem?_getD, List.getElem?_eq_getElem (by simpa using hk)]
      simp
    refine ⟨some a', len, cap, (List.range len).map f, rfl, by simp, fun k hk => ?_, fun k hk => by rw [e k hk]; exact (hf k hk).2.2⟩
    have hk' : k < len := by simpa using hk
    rw [e k hk']
    obtain ⟨h1, h2, h3⟩ := hf k hk'
    obtain ⟨b, off, spot⟩ := a'
    have hspot : spot = none := by
      have := World.cell?_spot ((hf 0 (by omega)).1 0 (by omega))
      rw [Nat.zero_mul] at this
      have h9 : (((⟨b, off, spot⟩ : Addr).add 0).add 0) = ⟨b, off, spot⟩ := by unfold Addr.add; simp
      rw [h9] at this
      exact this
    subst hspot
    have key : ∀ r, r < 5 → w.cell? ⟨b, off + k * 5 + r, none⟩ = (paC (f k))[r]? := fun r hr => by
      have := h1 r hr
      rw [addr_at _ _ _ _ rfl, addr_at _ _ _ _ rfl] at this
      exact this
    exact ⟨b, off, rfl, key 0 (by omega), key 1 (by omega), key 2 (by omega), key 3 (by omega), key 4 (by omega), h2⟩
end
end Go.Proofs.YtjnoaejikapmdaaGreatDoor
namespace Go.Proofs.YtjnoaejikapmdaaGreatDoor
open Go.RowKit SpM
set_option linter.unusedVariables false
set_option linter.unusedSimpArgs false
set_option maxRecDepth 100000
set_option maxHeartbeats 6400000 in
theorem rcmb_2 (P Q G : Int) (m : Nat) (Cs : Option Addr) (cn cc : Nat) (Ks : Option Addr) (kn kc : Nat) (HVG : Hid (validG P Q G = true)) (n2 : kn ≤ 8) (n3 : (kn : Int) < Q) (n4 : 1 ≤ (m : Int)) (n5 : (m : Int) ≤ kn) (E1 E2 : Int) (A : Option Addr) (na ca : Nat) (C : Int) (Z : Option Addr) (nz cz : Nat) (L : Option Addr) (ps : List PartR) (n c : Nat) (hn : Hid (ps.length = n)) (hnb : n ≤ 100) (hlr : Hid (∀ k, k < n → r64 (ps.getD k noPart).ix)) (m1 : Hid (memG P Q E1 = false)) (w : World) (hL : Hid (Pa w L ps)) :
    Calls Tryz.prog 27 #[gv P Q G, trV (m : Int) Cs cn cc Ks kn kc, esV E1 E2 A na ca C Z nz cz, .slice L n c] w fun e' w' => e' = .returned (.tuple #[.int .i64 0, .int .i64 2]) ∧ Below w.heap.size w w' := by
  obtain ⟨i0, hi, hz0, hz1, hz2⟩ := info_parts intInfo
  obtain ⟨q1, q2, q3, q4⟩ := validG_P HVG.out
  obtain ⟨w0, HW, HBw, kC⟩ := stz8 P Q G m Cs cn cc Ks kn kc E1 E2 A na ca C Z nz cz w
  have HB_0 : Hid (Below w0.heap.size w0 w0) := Lib.hid (Below.refl _ _)
  go_enter Tryz.func27, Tryz.ntmps27
  go_wp2_with fail
  rw [HW.out]
  obtain ⟨zc0, zc1, zc2, zc3, zc4, zc5, zc6, zc7, zc8, zc9, zc10⟩ := kC.out _ HB_0
  go_wp2_with fail
  refine (rmember_any P Q G E1 false m1 q2 (by omega) (by omega) _).mono ?_
  rintro e w1 ⟨rfl, hb0⟩
  have HB_1 := Lib.hid (below_ext HB_0.out hb0)
  clear zc0 zc1 zc2 zc3 zc4 zc5 zc6 zc7 zc8 zc9 zc10
  clear hb0
  obtain ⟨zc0, zc1, zc2, zc3, zc4, zc5, zc6, zc7, zc8, zc9, zc10⟩ := kC.out _ HB_1
  have hbF := below_ext HBw.out HB_1.out
  go_wp2
  go_ret2
  exact ⟨rfl, hbF⟩
set_option maxHeartbeats 6400000 in
theorem rcmb_3 (P Q G : Int) (m : Nat) (Cs : Option Addr) (cn cc : Nat) (Ks : Option Addr) (kn kc : Nat) (HVG : Hid (validG P Q G = true)) (n2 : kn ≤ 8) (n3 : (kn : Int) < Q) (n4 : 1 ≤ (m : Int)) (n5 : (m : Int) ≤ kn) (E1 E2 : Int) (A : Option Addr) (na ca : Nat) (C : Int) (Z : Option Addr) (nz cz : Nat) (L : Option Addr) (ps : List PartR) (n c : Nat) (hn : Hid (ps.length = n)) (hnb : n ≤ 100) (hlr : Hid (∀ k, k < n → r64 (ps.getD k noPart).ix)) (m1 : Hid (memG P Q E1 = true)) (m2 : Hid (memG P Q E2 = false)) (w : World) (hL : Hid (Pa w L ps)) :
    Calls Tryz.prog 27 #[gv P Q G, trV (m : Int) Cs cn cc Ks kn kc, esV E1 E2 A na ca C Z nz cz, .slice L n c] w fun e' w' => e' = .returned (.tuple #[.int .i64 0, .int .i64 2]) ∧ Below w.heap.size w w' := by
  obtain ⟨i0, hi, hz0, hz1, hz2⟩ := info_parts intInfo
  obtain ⟨q1, q2, q3, q4⟩ := validG_P HVG.out
  obtain ⟨w0, HW, HBw, kC⟩ := stz8 P Q G m Cs cn cc Ks kn kc E1 E2 A na ca C Z nz cz w
  have HB_0 : Hid (Below w0.heap.size w0 w0) := Lib.hid (Below.refl _ _)
  go_enter Tryz.func27, Tryz.ntmps27
  go_wp2_with fail
  rw [HW.out]
  obtain ⟨zc0, zc1, zc2, zc3, zc4, zc5, zc6, zc7, zc8, zc9, zc10⟩ := kC.out _ HB_0
  go_wp2_with fail
  refine (rmember_any P Q G E1 true m1 q2 (by omega) (by omega) _).mono ?_
  rintro e w1 ⟨rfl, hb0⟩
  have HB_1 := Lib.hid (below_ext HB_0.out hb0)
  clear zc0 zc1 zc2 zc3 zc4 zc5 zc6 zc7 zc8 zc9 zc10
  clear hb0
  obtain ⟨zc0, zc1, zc2, zc3, zc4, zc5, zc6, zc7, zc8, zc9, zc10⟩ := kC.out _ HB_1
  go_wp2_with fail
  refine (rmember_any P Q G E2 false m2 q2 (by omega) (by omega) _).mono ?_
  rintro e w2 ⟨rfl, hb0⟩
  have HB_2 := Lib.hid (below_ext HB_1.out hb0)
  clear zc0 zc1 zc2 zc3 zc4 zc5 zc6 zc7 zc8 zc9 zc10
  clear hb0
  obtain ⟨zc0, zc1, zc2, zc3, zc4, zc5, zc6, zc7, zc8, zc9, zc10⟩ := kC.out _ HB_2
  have hbF := below_ext HBw.out HB_2.out
  go_wp2
  go_ret2
  exact ⟨rfl, hbF⟩
set_option maxHeartbeats 25600000 in
theorem rcmb_4 (P Q G : Int) (m : Nat) (Cs : Option Addr) (cn cc : Nat) (Ks : Option Addr) (kn kc : Nat) (HVG : Hid (validG P Q G = true)) (n2 : kn ≤ 8) (n3 : (kn : Int) < Q) (n4 : 1 ≤ (m : Int)) (n5 : (m : Int) ≤ kn) (E1 E2 : Int) (A : Option Addr) (na ca : Nat) (C : Int) (Z : Option Addr) (nz cz : Nat) (L : Option Addr) (ps : List PartR) (n c : Nat) (hn : Hid (ps.length = n)) (hnb : n ≤ 100) (hlr : Hid (∀ k, k < n → r64 (ps.getD k noPart).ix)) (m1 : Hid (memG P Q E1 = true)) (m2 : Hid (memG P Q E2 = true)) (w : World) (hL : Hid (Pa w L ps)) :
    Calls Tryz.prog 27 #[gv P Q G, trV (m : Int) Cs cn cc Ks kn kc, esV E1 E2 A na ca C Z nz cz, .slice L n c] w fun e' w' => e' = .returned (.tuple #[.int .i64 (cmbV P Q (m : Int) kn E1 E2 ps), .int .i64 (cmbE P Q (m : Int) kn E1 E2 ps)]) ∧ Below w.heap.size w w' := by
  obtain ⟨i0, hi, hz0, hz1, hz2⟩ := info_parts intInfo
  obtain ⟨q1, q2, q3, q4⟩ := validG_P HVG.out
  obtain ⟨w0, hW⟩ : ∃ W, (((w.alloc (gObj P Q G)).alloc (trO (m : Int) Cs cn cc Ks kn kc)).alloc (esO E1 E2 A na ca C Z nz cz)) = W := ⟨_, rfl⟩
  have HBw : Hid (Below w.heap.size w w0) := Lib.hid (by rw [← hW]; exact (((Below.refl _ _).alloc (Nat.le_refl _) _).alloc (by simp) _).alloc (by simp; omega) _)
  have hc : w0.cell? ⟨w.heap.size, 0, none⟩ = some (.int .i64 P) ∧ w0.cell? ⟨w.heap.size, 1, none⟩ = some (.int .i64 Q) ∧ w0.cell? ⟨w.heap.size, 2, none⟩ = some (.int .i64 G) ∧ w0.cell? ⟨w.heap.size + 1, 0, none⟩ = some (.int .i64 (m : Int)) ∧ w0.cell? ⟨w.heap.size + 1, 1, none⟩ = some (.slice Cs cn cc) ∧ w0.cell? ⟨w.heap.size + 1, 2, none⟩ = some (.slice Ks kn kc) ∧ w0.cell? ⟨w.heap.size + 2, 0, none⟩ = some (.int .i64 E1) ∧ w0.cell? ⟨w.heap.size + 2, 1, none⟩ = some (.int .i64 E2) ∧ w0.cell? ⟨w.heap.size + 2, 2, none⟩ = some (.slice A na ca) ∧ w0.cell? ⟨w.heap.size + 2, 3, none⟩ = some (.int .i64 C) ∧ w0.cell? ⟨w.heap.size + 2, 4, none⟩ = some (.slice Z nz cz) := by rw [← hW]; exact ⟨cell_below (cell_below (allocs_cell (by simp) (by rfl)) (below_box0 _ _)) (below_box0 _ _), cell_below (cell_below (allocs_cell (by simp) (by rfl)) (below_box0 _ _)) (below_box0 _ _), cell_below (cell_below (allocs_cell (by simp) (by rfl)) (below_box0 _ _)) (below_box0 _ _), cell_below (allocs_cell (by simp) (by rfl)) (below_box0 _ _), cell_below (allocs_cell (by simp) (by rfl)) (below_box0 _ _), cell_below (allocs_cell (by simp) (by rfl)) (below_box0 _ _), allocs_cell (by simp) (by rfl), allocs_cell (by simp) (by rfl), allocs_cell (by simp) (by rfl), allocs_cell (by simp) (by rfl), allocs_cell (by simp) (by rfl)⟩
  have kC := Lib.hid (show ∀ u : World, Hid (Below w0.heap.size w0 u) → u.cell? ⟨w.heap.size, 0, none⟩ = some (.int .i64 P) ∧ u.cell? ⟨w.heap.size, 1, none⟩ = some (.int .i64 Q) ∧ u.cell? ⟨w.heap.size, 2, none⟩ = some (.int .i64 G) ∧ u.cell? ⟨w.heap.size + 1, 0, none⟩ = some (.int .i64 (m : Int)) ∧ u.cell? ⟨w.heap.size + 1, 1, none⟩ = some (.slice Cs cn cc) ∧ u.cell? ⟨w.heap.size + 1, 2, none⟩ = some (.slice Ks kn kc) ∧ u.cell? ⟨w.heap.size + 2, 0, none⟩ = some (.int .i64 E1) ∧ u.cell? ⟨w.heap.size + 2, 1, none⟩ = some (.int .i64 E2) ∧ u.cell? ⟨w.heap.size + 2, 2, none⟩ = some (.slice A na ca) ∧ u.cell? ⟨w.heap.size + 2, 3, none⟩ = some (.int .i64 C) ∧ u.cell? ⟨w.heap.size + 2, 4, none⟩ = some (.slice Z nz cz) from fun u h => ⟨cell_below hc.1 h.out, cell_below hc.2.1 h.out, cell_below hc.2.2.1 h.out, cell_below hc.2.2.2.1 h.out, cell_below hc.2.2.2.2.1 h.out, cell_below hc.2.2.2.2.2.1 h.out, cell_below hc.2.2.2.2.2.2.1 h.out, cell_below hc.2.2.2.2.2.2.2.1 h.out, cell_below hc.2.2.2.2.2.2.2.2.1 h.out, cell_below hc.2.2.2.2.2.2.2.2.2.1 h.out, cell_below hc.2.2.2.2.2.2.2.2.2.2 h.out⟩)
  have kL := Lib.hid (show ∀ u : World, Hid (Below w0.heap.size w0 u) → Hid (Pa u L ps) from fun u h => Lib.hid ((hL.out.below) (below_ext HBw.out h.out)))
  have HB_0 : Hid (Below w0.heap.size w0 w0) := Lib.hid (Below.refl _ _)
  have HW := Lib.hid hW
  clear hW hc hL
  go_enter Tryz.func27, Tryz.ntmps27
  go_wp2_with fail
  rw [HW.out]
  obtain ⟨zc0, zc1, zc2, zc3, zc4, zc5, zc6, zc7, zc8, zc9, zc10⟩ := kC.out _ HB_0
  go_wp2_with fail
  refine (rmember_any P Q G E1 true m1 q2 (by omega) (by omega) _).mono ?_
  rintro e w1 ⟨rfl, hb0⟩
  have HB_1 := Lib.hid (below_ext HB_0.out hb0)
  clear zc0 zc1 zc2 zc3 zc4 zc5 zc6 zc7 zc8 zc9 zc10
  clear hb0
  obtain ⟨zc0, zc1, zc2, zc3, zc4, zc5, zc6, zc7, zc8, zc9, zc10⟩ := kC.out _ HB_1
  go_wp2_with fail
  refine (rmember_any P Q G E2 true m2 q2 (by omega) (by omega) _).mono ?_
  rintro e w2 ⟨rfl, hb0⟩
  have HB_2 := Lib.hid (below_ext HB_1.out hb0)
  clear zc0 zc1 zc2 zc3 zc4 zc5 zc6 zc7 zc8 zc9 zc10
  clear hb0
  obtain ⟨zc0, zc1, zc2, zc3, zc4, zc5, zc6, zc7, zc8, zc9, zc10⟩ := kC.out _ HB_2
  go_wp2
  clear zc0 zc1 zc2 zc3 zc4 zc5 zc6 zc7 zc8 zc9 zc10
  go_loopw [10, 11] (fun vx i wr => ∃ k : Nat, k ≤ n ∧ i = .int .i64 k ∧ Hid (ps.all (paB P Q kn) = (ps.drop k).all (paB P Q kn)) ∧ Hid (wr.ownsRow w0.heap.size 3 1 vx k ((pxs (ps.take k)).map (Value.int .i64))) ∧ Hid (Below w0.heap.size w0 wr)) (fun _ i _ => n - (intOf i).toNat)
  case atStart => exact ⟨0, by omega, rfl, Lib.hid rfl, Lib.hid (World.ownsRow_nil _ _ _ _), HB_2⟩
  case round =>
    obtain ⟨k, hk, rfl, HR, HOX, HBr⟩ := hrel
    by_cases hlt : k < n
    · skip
      have hkl : k < ps.length := by rw [hn.out]; exact hlt
      obtain ⟨b, o, hA, j0, j1, j2, j3, j4, hok⟩ := (kL.out _ HBr).out k hkl
      subst hA
      have tx := take_pxs hkl
      obtain ⟨ix, hix⟩ : ∃ x, (ps.getD k noPart).ix = x := ⟨_, rfl⟩
      obtain ⟨v, hvv⟩ : ∃ x, (ps.getD k noPart).v = x := ⟨_, rfl⟩
      rw [hix] at j0 tx
      rw [hvv] at j1
      have TX := Lib.hid tx
      have kI := Lib.hid (show ∀ u : World, Hid (Below wr.heap.size wr u) → u.cell? ⟨b, o + k * 5, none⟩ = some (.int .i64 ix) ∧ u.cell? ⟨b, o + k * 5 + 1, none⟩ = some (.int .i64 v) from fun u h => ⟨cell_below j0 h.out, cell_below j1 h.out⟩)
      clear tx hok j0 j1 j2 j3 j4
      have HB_wr_2 : Hid (Below wr.heap.size wr wr) := Lib.hid (Below.refl _ _)
      cases hm : memB kn ix with
      | true =>
        cases hg : memG P Q v with
        | true =>
          have HS : Hid (ps.all (paB P Q kn) = (ps.drop (k + 1)).all (paB P Q kn)) := Lib.hid (HR.out.trans (alla_step hkl (by rw [paB, hix, hvv, hm, hg]; rfl)))
          have HM := Lib.hid hm
          have HG := Lib.hid hg
          clear hm hg HR hix hvv
          obtain ⟨zc0, zc1, zc2, zc3, zc4, zc5, zc6, zc7, zc8, zc9, zc10⟩ := kC.out _ HBr
          obtain ⟨kI_0, kI_1⟩ := kI.out _ HB_wr_2
          go_wp2_with fail
          clear zc0 zc1 zc2 zc3 zc4 zc5 zc6 zc7 zc8 zc9 zc10 kI_0 kI_1
          have hBx3 := Lib.hid (show ∀ u u2 : World, Hid (Below w0.heap.size w0 u ∧ Below wr.heap.size wr u) → Below u.heap.size u u2 → Hid (Below w0.heap.size w0 u2 ∧ Below wr.heap.size wr u2) from fun u u2 h1 h2 => Lib.hid ⟨(below_ext h1.out.1 h2), (below_ext h1.out.2 h2)⟩)
          have hS3 := Lib.hid (show ∀ u : World, Hid (Below w0.heap.size w0 u ∧ Below wr.heap.size wr u) → (u.cell? ⟨w.heap.size, 0, none⟩ = some (.int .i64 P) ∧ u.cell? ⟨w.heap.size, 1, none⟩ = some (.int .i64 Q) ∧ u.cell? ⟨w.heap.size, 2, none⟩ = some (.int .i64 G) ∧ u.cell? ⟨w.heap.size + 1, 0, none⟩ = some (.int .i64 (m : Int)) ∧ u.cell? ⟨w.heap.size + 1, 1, none⟩ = some (.slice Cs cn cc) ∧ u.cell? ⟨w.heap.size + 1, 2, none⟩ = some (.slice Ks kn kc) ∧ u.cell? ⟨w.heap.size + 2, 0, none⟩ = some (.int .i64 E1) ∧ u.cell? ⟨w.heap.size + 2, 1, none⟩ = some (.int .i64 E2) ∧ u.cell? ⟨w.heap.size + 2, 2, none⟩ = some (.slice A na ca) ∧ u.cell? ⟨w.heap.size + 2, 3, none⟩ = some (.int .i64 C) ∧ u.cell? ⟨w.heap.size + 2, 4, none⟩ = some (.slice Z nz cz) ∧ u.cell? ⟨b, o + k * 5, none⟩ = some (.int .i64 ix) ∧ u.cell? ⟨b, o + k * 5 + 1, none⟩ = some (.int .i64 v) ∧ Hid (Below w0.heap.size w0 u ∧ Below wr.heap.size wr u)) from fun u h1 => by
            obtain ⟨y0, y1, y2, y3, y4, y5, y6, y7, y8, y9, y10⟩ := kC.out _ (Lib.hid h1.out.1)
            obtain ⟨kI_0, kI_1⟩ := kI.out _ (Lib.hid h1.out.2)
            exact ⟨y0, y1, y2, y3, y4, y5, y6, y7, y8, y9, y10, kI_0, kI_1, h1⟩)
          have HBA3 : Hid (Below w0.heap.size w0 wr ∧ Below wr.heap.size wr wr) := Lib.hid ⟨HBr.out, HB_wr_2.out⟩
          refine wp_region_T (S := fun w' => w'.cell? ⟨w.heap.size, 0, none⟩ = some (.int .i64 P) ∧ w'.cell? ⟨w.heap.size, 1, none⟩ = some (.int .i64 Q) ∧ w'.cell? ⟨w.heap.size, 2, none⟩ = some (.int .i64 G) ∧ w'.cell? ⟨w.heap.size + 1, 0, none⟩ = some (.int .i64 (m : Int)) ∧ w'.cell? ⟨w.heap.size + 1, 1, none⟩ = some (.slice Cs cn cc) ∧ w'.cell? ⟨w.heap.size + 1, 2, none⟩ = some (.slice Ks kn kc) ∧ w'.cell? ⟨w.heap.size + 2, 0, none⟩ = some (.int .i64 E1) ∧ w'.cell? ⟨w.heap.size + 2, 1, none⟩ = some (.int .i64 E2) ∧ w'.cell? ⟨w.heap.size + 2, 2, none⟩ = some (.slice A na ca) ∧ w'.cell? ⟨w.heap.size + 2, 3, none⟩ = some (.int .i64 C) ∧ w'.cell? ⟨w.heap.size + 2, 4, none⟩ = some (.slice Z nz cz) ∧ w'.cell? ⟨b, o + k * 5, none⟩ = some (.int .i64 ix) ∧ w'.cell? ⟨b, o + k * 5 + 1, none⟩ = some (.int .i64 v) ∧ Hid (Below w0.heap.size w0 w' ∧ Below wr.heap.size wr w')) (E := []) (by kernel_rfl) (hS3.out _ (hBx3.out _ _ HBA3 ((Below.refl _ _).drew))) (fun hHeld => ?_)
          refine tkV 0 ?_
          try simp only [qq1, qq2, qq3, Act.put, qq4, qq5, qq6]
          refine tkV 1 ?_
          try simp only [qq1, qq2, qq3, Act.put, qq4, qq5, qq6]
          refine tkV 2 ?_
          try simp only [qq1, qq2, qq3, Act.put, qq4, qq5, qq6]
          refine tkV 3 ?_
          try simp only [qq1, qq2, qq3, Act.put, qq4, qq5, qq6]
          refine tkV 4 ?_
          try simp only [qq1, qq2, qq3, Act.put, qq4, qq5, qq6]
          refine tkV 5 ?_
          try simp only [qq1, qq2, qq3, Act.put, qq4, qq5, qq6]
          refine wpT_one (i := 6) (by kernel_rfl) rfl (fun K hK => ?_)
          go_simp
          refine (index50_any (m : Int) Cs cn cc Ks kn kc ix true HM _).mono ?_
          rintro e wA ⟨rfl, hbA⟩
          refine hK.out _ _ ?_ (fun hHeld => ?_)
          · exact hS3.out _ (hBx3.out _ _ hHeld.2.2.2.2.2.2.2.2.2.2.2.2.2 hbA)
          clear hK K
          try simp only [qq1, qq2, qq3, Act.put, qq4, qq5, qq6]
          refine tkV 7 ?_
          try simp only [qq1, qq2, qq3, Act.put, qq4, qq5, qq6]
          refine tkV 8 ?_
          try simp only [qq1, qq2, qq3, Act.put, qq4, qq5, qq6]
          refine tkV 9 ?_
          try simp only [qq1, qq2, qq3, Act.put, qq4, qq5, qq6]
          refine tkV 10 ?_
          try simp only [qq1, qq2, qq3, Act.put, qq4, qq5, qq6]
          refine tkV 11 ?_
          try simp only [qq1, qq2, qq3, Act.put, qq4, qq5, qq6]
          refine tkV 12 ?_
          try simp only [qq1, qq2, qq3, Act.put, qq4, qq5, qq6]
          refine tkV 13 ?_
          try simp only [qq1, qq2, qq3, Act.put, qq4, qq5, qq6]
          refine tkV 14 ?_
          try simp only [qq1, qq2, qq3, Act.put, qq4, qq5, qq6]
          refine wpT_one (i := 15) (by kernel_rfl) rfl (fun K hK => ?_)
          go_simp
          refine (rmember_any P Q G v true HG q2 (by omega) (by omega) _).mono ?_
          rintro e wA ⟨rfl, hbA⟩
          refine hK.out _ _ ?_ (fun hHeld => ?_)
          · exact hS3.out _ (hBx3.out _ _ hHeld.2.2.2.2.2.2.2.2.2.2.2.2.2 hbA)
          clear hK K
          try simp only [qq1, qq2, qq3, Act.put, qq4, qq5, qq6]
          refine tkV 16 ?_
          try simp only [qq1, qq2, qq3, Act.put, qq4, qq5, qq6]
          refine tkV 17 ?_
          try simp only [qq1, qq2, qq3, Act.put, qq4, qq5, qq6]
          refine wpT_done (by kernel_rfl) ?_ _
          obtain ⟨x0, x1, x2, x3, x4, x5, x6, x7, x8, x9, x10, x11, x12, FB3⟩ := hHeld
          clear x0 x1 x2 x3 x4 x5 x6 x7 x8 x9 x10 x11 x12 hS3 hBx3 HBA3
          have HL3_w0 := Lib.hid FB3.out.1
          have HL3_wr := Lib.hid FB3.out.2
          obtain ⟨zc0, zc1, zc2, zc3, zc4, zc5, zc6, zc7, zc8, zc9, zc10⟩ := kC.out _ HL3_w0
          obtain ⟨kI_0, kI_1⟩ := kI.out _ HL3_wr
          obtain ⟨wq, hwq⟩ : ∃ x, wA = x := ⟨_, rfl⟩
          subst hwq
          clear zc0 zc1 zc2 zc3 zc4 zc5 zc6 zc7 zc8 zc9 zc10 kI_0 kI_1
          obtain ⟨zc0, zc1, zc2, zc3, zc4, zc5, zc6, zc7, zc8, zc9, zc10⟩ := kC.out _ HL3_w0
          obtain ⟨kI_0, kI_1⟩ := kI.out _ HL3_wr
          have HOz := Lib.hid (HOX.out.kept (gb_below HL3_wr.out none) (own_none _))
          have hown := HOz.out
          have hbs := HL3_w0.out.size
          go_wp2_with (at_builtin; refine wpList_append_own _ rfl _ _ 24 rfl w0.heap.size 3 i0 (.int .i64 0) 1 8 Tryz.underlying24 hi hz0 hz1 hz2 rfl (by decide) _ _ _ rfl (hown.alloc _) ⟨wA.heap.size, 0, none⟩ 1 1 [.int .i64 ix] rfl rfl (cell_one_new _ _ _) (ints_oneCell .i64 [ix]) (by unfold maxLen; omega) (by omega) (by simp; omega) ?_; intro v' y3 hown1 hgrow1 _)
          have HO3 : Hid (y3.ownsRow w0.heap.size 3 1 v' (k + 1) ((pxs (ps.take (k + 1))).map (Value.int .i64))) := Lib.hid (by rw [TX.out]; simpa using hown1)
          have HB3 : Hid (Below w0.heap.size w0 y3) := Lib.hid ((HL3_w0.out.alloc hbs _).grown hgrow1 (by simp; omega) (fun j hj => (hown.lt j hj).1))
          clear hown hown1 hgrow1 HOz
          go_roundw
          case rel => exact ⟨k + 1, by omega, by go_num, HS, HO3, HB3⟩
          case measure => simp [intOf]; omega
        | false =>
          have HF : Hid (cmbE P Q (m : Int) kn E1 E2 ps = 2) := Lib.hid (by rw [cmbE, m1.out, m2.out, HR.out, alla_hit hkl (by rw [paB, hix, hvv, hm, hg]; rfl)]; rfl)
          have HM := Lib.hid hm
          have HG := Lib.hid hg
          clear hm hg HR hix hvv
          obtain ⟨zc0, zc1, zc2, zc3, zc4, zc5, zc6, zc7, zc8, zc9, zc10⟩ := kC.out _ HBr
          obtain ⟨kI_0, kI_1⟩ := kI.out _ HB_wr_2
          go_wp2_with fail
          clear zc0 zc1 zc2 zc3 zc4 zc5 zc6 zc7 zc8 zc9 zc10 kI_0 kI_1
          have hBx3 := Lib.hid (show ∀ u u2 : World, Hid (Below w0.heap.size w0 u ∧ Below wr.heap.size wr u) → Below u.heap.size u u2 → Hid (Below w0.heap.size w0 u2 ∧ Below wr.heap.size wr u2) from fun u u2 h1 h2 => Lib.hid ⟨(below_ext h1.out.1 h2), (below_ext h1.out.2 h2)⟩)
          have hS3 := Lib.hid (show ∀ u : World, Hid (Below w0.heap.size w0 u ∧ Below wr.heap.size wr u) → (u.cell? ⟨w.heap.size, 0, none⟩ = some (.int .i64 P) ∧ u.cell? ⟨w.heap.size, 1, none⟩ = some (.int .i64 Q) ∧ u.cell? ⟨w.heap.size, 2, none⟩ = some (.int .i64 G) ∧ u.cell? ⟨w.heap.size + 1, 0, none⟩ = some (.int .i64 (m : Int)) ∧ u.cell? ⟨w.heap.size + 1, 1, none⟩ = some (.slice Cs cn cc) ∧ u.cell? ⟨w.heap.size + 1, 2, none⟩ = some (.slice Ks kn kc) ∧ u.cell? ⟨w.heap.size + 2, 0, none⟩ = some (.int .i64 E1) ∧ u.cell? ⟨w.heap.size + 2, 1, none⟩ = some (.int .i64 E2) ∧ u.cell? ⟨w.heap.size + 2, 2, none⟩ = some (.slice A na ca) ∧ u.cell? ⟨w.heap.size + 2, 3, none⟩ = some (.int .i64 C) ∧ u.cell? ⟨w.heap.size + 2, 4, none⟩ = some (.slice Z nz cz) ∧ u.cell? ⟨b, o + k * 5, none⟩ = some (.int .i64 ix) ∧ u.cell? ⟨b, o + k * 5 + 1, none⟩ = some (.int .i64 v) ∧ Hid (Below w0.heap.size w0 u ∧ Below wr.heap.size wr u)) from fun u h1 => by
            obtain ⟨y0, y1, y2, y3, y4, y5, y6, y7, y8, y9, y10⟩ := kC.out _ (Lib.hid h1.out.1)
            obtain ⟨kI_0, kI_1⟩ := kI.out _ (Lib.hid h1.out.2)
            exact ⟨y0, y1, y2, y3, y4, y5, y6, y7, y8, y9, y10, kI_0, kI_1, h1⟩)
          have HBA3 : Hid (Below w0.heap.size w0 wr ∧ Below wr.heap.size wr wr) := Lib.hid ⟨HBr.out, HB_wr_2.out⟩
          refine wp_region_T (S := fun w' => w'.cell? ⟨w.heap.size, 0, none⟩ = some (.int .i64 P) ∧ w'.cell? ⟨w.heap.size, 1, none⟩ = some (.int .i64 Q) ∧ w'.cell? ⟨w.heap.size, 2, none⟩ = some (.int .i64 G) ∧ w'.cell? ⟨w.heap.size + 1, 0, none⟩ = some (.int .i64 (m : Int)) ∧ w'.cell? ⟨w.heap.size + 1, 1, none⟩ = some (.slice Cs cn cc) ∧ w'.cell? ⟨w.heap.size + 1, 2, none⟩ = some (.slice Ks kn kc) ∧ w'.cell? ⟨w.heap.size + 2, 0, none⟩ = some (.int .i64 E1) ∧ w'.cell? ⟨w.heap.size + 2, 1, none⟩ = some (.int .i64 E2) ∧ w'.cell? ⟨w.heap.size + 2, 2, none⟩ = some (.slice A na ca) ∧ w'.cell? ⟨w.heap.size + 2, 3, none⟩ = some (.int .i64 C) ∧ w'.cell? ⟨w.heap.size + 2, 4, none⟩ = some (.slice Z nz cz) ∧ w'.cell? ⟨b, o + k * 5, none⟩ = some (.int .i64 ix) ∧ w'.cell? ⟨b, o + k * 5 + 1, none⟩ = some (.int .i64 v) ∧ Hid (Below w0.heap.size w0 w' ∧ Below wr.heap.size wr w')) (E := []) (by kernel_rfl) (hS3.out _ (hBx3.out _ _ HBA3 ((Below.refl _ _).drew))) (fun hHeld => ?_)
          refine tkV 0 ?_
          try simp only [qq1, qq2, qq3, Act.put, qq4, qq5, qq6]
          refine tkV 1 ?_
          try simp only [qq1, qq2, qq3, Act.put, qq4, qq5, qq6]
          refine tkV 2 ?_
          try simp only [qq1, qq2, qq3, Act.put, qq4, qq5, qq6]
          refine tkV 3 ?_
          try simp only [qq1, qq2, qq3, Act.put, qq4, qq5, qq6]
          refine tkV 4 ?_
          try simp only [qq1, qq2, qq3, Act.put, qq4, qq5, qq6]
          refine tkV 5 ?_
          try simp only [qq1, qq2, qq3, Act.put, qq4, qq5, qq6]
          refine wpT_one (i := 6) (by kernel_rfl) rfl (fun K hK => ?_)
          go_simp
          refine (index50_any (m : Int) Cs cn cc Ks kn kc ix true HM _).mono ?_
          rintro e wA ⟨rfl, hbA⟩
          refine hK.out _ _ ?_ (fun hHeld => ?_)
          · exact hS3.out _ (hBx3.out _ _ hHeld.2.2.2.2.2.2.2.2.2.2.2.2.2 hbA)
          clear hK K
          try simp only [qq1, qq2, qq3, Act.put, qq4, qq5, qq6]
          refine tkV 7 ?_
          try simp only [qq1, qq2, qq3, Act.put, qq4, qq5, qq6]
          refine tkV 8 ?_
          try simp only [qq1, qq2, qq3, Act.put, qq4, qq5, qq6]
          refine tkV 9 ?_
          try simp only [qq1, qq2, qq3, Act.put, qq4, qq5, qq6]
          refine tkV 10 ?_
          try simp only [qq1, qq2, qq3, Act.put, qq4, qq5, qq6]
          refine tkV 11 ?_
          try simp only [qq1, qq2, qq3, Act.put, qq4, qq5, qq6]
          refine tkV 12 ?_
          try simp only [qq1, qq2, qq3, Act.put, qq4, qq5, qq6]
          refine tkV 13 ?_
          try simp only [qq1, qq2, qq3, Act.put, qq4, qq5, qq6]
          refine tkV 14 ?_
          try simp only [qq1, qq2, qq3, Act.put, qq4, qq5, qq6]
          refine wpT_one (i := 15) (by kernel_rfl) rfl (fun K hK => ?_)
          go_simp
          refine (rmember_any P Q G v false HG q2 (by omega) (by omega) _).mono ?_
          rintro e wA ⟨rfl, hbA⟩
          refine hK.out _ _ ?_ (fun hHeld => ?_)
          · exact hS3.out _ (hBx3.out _ _ hHeld.2.2.2.2.2.2.2.2.2.2.2.2.2 hbA)
          clear hK K
          try simp only [qq1, qq2, qq3, Act.put, qq4, qq5, qq6]
          refine tkV 16 ?_
          try simp only [qq1, qq2, qq3, Act.put, qq4, qq5, qq6]
          refine tkV 17 ?_
          try simp only [qq1, qq2, qq3, Act.put, qq4, qq5, qq6]
          refine wpT_done (by kernel_rfl) ?_ _
          obtain ⟨x0, x1, x2, x3, x4, x5, x6, x7, x8, x9, x10, x11, x12, FB3⟩ := hHeld
          clear x0 x1 x2 x3 x4 x5 x6 x7 x8 x9 x10 x11 x12 hS3 hBx3 HBA3
          have HL3_w0 := Lib.hid FB3.out.1
          have HL3_wr := Lib.hid FB3.out.2
          obtain ⟨zc0, zc1, zc2, zc3, zc4, zc5, zc6, zc7, zc8, zc9, zc10⟩ := kC.out _ HL3_w0
          obtain ⟨kI_0, kI_1⟩ := kI.out _ HL3_wr
          have hbF := below_ext HBw.out HL3_w0.out
          go_wp2
          go_ret2
          exact ⟨by rw [cmbV, HF.out]; rfl, hbF⟩
      | false =>
        have HF : Hid (cmbE P Q (m : Int) kn E1 E2 ps = 2) := Lib.hid (by rw [cmbE, m1.out, m2.out, HR.out, alla_hit hkl (by rw [paB, hix, hm]; rfl)]; rfl)
        have HM := Lib.hid hm
        clear hm HR hix hvv
        obtain ⟨zc0, zc1, zc2, zc3, zc4, zc5, zc6, zc7, zc8, zc9, zc10⟩ := kC.out _ HBr
        obtain ⟨kI_0, kI_1⟩ := kI.out _ HB_wr_2
        go_wp2_with fail
        clear zc0 zc1 zc2 zc3 zc4 zc5 zc6 zc7 zc8 zc9 zc10 kI_0 kI_1
        have hBx3 := Lib.hid (show ∀ u u2 : World, Hid (Below w0.heap.size w0 u ∧ Below wr.heap.size wr u) → Below u.heap.size u u2 → Hid (Below w0.heap.size w0 u2 ∧ Below wr.heap.size wr u2) from fun u u2 h1 h2 => Lib.hid ⟨(below_ext h1.out.1 h2), (below_ext h1.out.2 h2)⟩)
        have hS3 := Lib.hid (show ∀ u : World, Hid (Below w0.heap.size w0 u ∧ Below wr.heap.size wr u) → (u.cell? ⟨w.heap.size, 0, none⟩ = some (.int .i64 P) ∧ u.cell? ⟨w.heap.size, 1, none⟩ = some (.int .i64 Q) ∧ u.cell? ⟨w.heap.size, 2, none⟩ = some (.int .i64 G) ∧ u.cell? ⟨w.heap.size + 1, 0, none⟩ = some (.int .i64 (m : Int)) ∧ u.cell? ⟨w.heap.size + 1, 1, none⟩ = some (.slice Cs cn cc) ∧ u.cell? ⟨w.heap.size + 1, 2, none⟩ = some (.slice Ks kn kc) ∧ u.cell? ⟨w.heap.size + 2, 0, none⟩ = some (.int .i64 E1) ∧ u.cell? ⟨w.heap.size + 2, 1, none⟩ = some (.int .i64 E2) ∧ u.cell? ⟨w.heap.size + 2, 2, none⟩ = some (.slice A na ca) ∧ u.cell? ⟨w.heap.size + 2, 3, none⟩ = some (.int .i64 C) ∧ u.cell? ⟨w.heap.size + 2, 4, none⟩ = some (.slice Z nz cz) ∧ u.cell? ⟨b, o + k * 5, none⟩ = some (.int .i64 ix) ∧ u.cell? ⟨b, o + k * 5 + 1, none⟩ = some (.int .i64 v) ∧ Hid (Below w0.heap.size w0 u ∧ Below wr.heap.size wr u)) from fun u h1 => by
          obtain ⟨y0, y1, y2, y3, y4, y5, y6, y7, y8, y9, y10⟩ := kC.out _ (Lib.hid h1.out.1)
          obtain ⟨kI_0, kI_1⟩ := kI.out _ (Lib.hid h1.out.2)
          exact ⟨y0, y1, y2, y3, y4, y5, y6, y7, y8, y9, y10, kI_0, kI_1, h1⟩)
        have HBA3 : Hid (Below w0.heap.size w0 wr ∧ Below wr.heap.size wr wr) := Lib.hid ⟨HBr.out, HB_wr_2.out⟩
        refine wp_region_T (S := fun w' => w'.cell? ⟨w.heap.size, 0, none⟩ = some (.int .i64 P) ∧ w'.cell? ⟨w.heap.size, 1, none⟩ = some (.int .i64 Q) ∧ w'.cell? ⟨w.heap.size, 2, none⟩ = some (.int .i64 G) ∧ w'.cell? ⟨w.heap.size + 1, 0, none⟩ = some (.int .i64 (m : Int)) ∧ w'.cell? ⟨w.heap.size + 1, 1, none⟩ = some (.slice Cs cn cc) ∧ w'.cell? ⟨w.heap.size + 1, 2, none⟩ = some (.slice Ks kn kc) ∧ w'.cell? ⟨w.heap.size + 2, 0, none⟩ = some (.int .i64 E1) ∧ w'.cell? ⟨w.heap.size + 2, 1, none⟩ = some (.int .i64 E2) ∧ w'.cell? ⟨w.heap.size + 2, 2, none⟩ = some (.slice A na ca) ∧ w'.cell? ⟨w.heap.size + 2, 3, none⟩ = some (.int .i64 C) ∧ w'.cell? ⟨w.heap.size + 2, 4, none⟩ = some (.slice Z nz cz) ∧ w'.cell? ⟨b, o + k * 5, none⟩ = some (.int .i64 ix) ∧ w'.cell? ⟨b, o + k * 5 + 1, none⟩ = some (.int .i64 v) ∧ Hid (Below w0.heap.size w0 w' ∧ Below wr.heap.size wr w')) (E := []) (by kernel_rfl) (hS3.out _ (hBx3.out _ _ HBA3 ((Below.refl _ _).drew))) (fun hHeld => ?_)
        refine tkV 0 ?_
        try simp only [qq1, qq2, qq3, Act.put, qq4, qq5, qq6]
        refine tkV 1 ?_
        try simp only [qq1, qq2, qq3, Act.put, qq4, qq5, qq6]
        refine tkV 2 ?_
        try simp only [qq1, qq2, qq3, Act.put, qq4, qq5, qq6]
        refine tkV 3 ?_
        try simp only [qq1, qq2, qq3, Act.put, qq4, qq5, qq6]
        refine tkV 4 ?_
        try simp only [qq1, qq2, qq3, Act.put, qq4, qq5, qq6]
        refine tkV 5 ?_
        try simp only [qq1, qq2, qq3, Act.put, qq4, qq5, qq6]
        refine wpT_one (i := 6) (by kernel_rfl) rfl (fun K hK => ?_)
        go_simp
        refine (index50_any (m : Int) Cs cn cc Ks kn kc ix false HM _).mono ?_
        rintro e wA ⟨rfl, hbA⟩
        refine hK.out _ _ ?_ (fun hHeld => ?_)
        · exact hS3.out _ (hBx3.out _ _ hHeld.2.2.2.2.2.2.2.2.2.2.2.2.2 hbA)
        clear hK K
        try simp only [qq1, qq2, qq3, Act.put, qq4, qq5, qq6]
        refine tkV 7 ?_
        try simp only [qq1, qq2, qq3, Act.put, qq4, qq5, qq6]
        refine tkV 8 ?_
        try simp only [qq1, qq2, qq3, Act.put, qq4, qq5, qq6]
        refine tkU 9 ?_
        try simp only [qq1, qq2, qq3, Act.put, qq4, qq5, qq6]
        refine tkU 10 ?_
        try simp only [qq1, qq2, qq3, Act.put, qq4, qq5, qq6]
        refine tkU 11 ?_
        try simp only [qq1, qq2, qq3, Act.put, qq4, qq5, qq6]
        refine tkU 12 ?_
        try simp only [qq1, qq2, qq3, Act.put, qq4, qq5, qq6]
        refine tkU 13 ?_
        try simp only [qq1, qq2, qq3, Act.put, qq4, qq5, qq6]
        refine tkU 14 ?_
        try simp only [qq1, qq2, qq3, Act.put, qq4, qq5, qq6]
        refine tkU 15 ?_
        try simp only [qq1, qq2, qq3, Act.put, qq4, qq5, qq6]
        refine tkU 16 ?_
        try simp only [qq1, qq2, qq3, Act.put, qq4, qq5, qq6]
        refine tkV 17 ?_
        try simp only [qq1, qq2, qq3, Act.put, qq4, qq5, qq6]
        refine wpT_done (by kernel_rfl) ?_ _
        obtain ⟨x0, x1, x2, x3, x4, x5, x6, x7, x8, x9, x10, x11, x12, FB3⟩ := hHeld
        clear x0 x1 x2 x3 x4 x5 x6 x7 x8 x9 x10 x11 x12 hS3 hBx3 HBA3
        have HL3_w0 := Lib.hid FB3.out.1
        have HL3_wr := Lib.hid FB3.out.2
        obtain ⟨zc0, zc1, zc2, zc3, zc4, zc5, zc6, zc7, zc8, zc9, zc10⟩ := kC.out _ HL3_w0
        obtain ⟨kI_0, kI_1⟩ := kI.out _ HL3_wr
        have hbF := below_ext HBw.out HL3_w0.out
        go_wp2
        go_ret2
        exact ⟨by rw [cmbV, HF.out]; rfl, hbF⟩
    · skip
      obtain rfl : k = n := by omega
      have hall : ps.all (paB P Q kn) = true := by rw [HR.out, ← hn.out, List.drop_length]; rfl
      have hox := HOX.out
      rw [List.take_of_length_le (by rw [hn.out]; exact Nat.le_refl _)] at hox
      have hixn : (pxs ps).length = k := by rw [List.length_map]; exact hn.out
      obtain ⟨AX, cX, hvX, sX, hcX⟩ := own_slc hox hixn
      subst hvX
      have HSX := Lib.hid sX
      have HIN := Lib.hid hixn
      have HALL := Lib.hid hall
      clear hall hox hixn sX HR HOX
      have HB_wr_2 : Hid (Below wr.heap.size wr wr) := Lib.hid (Below.refl _ _)
      have kX := Lib.hid (show ∀ u : World, Hid (Below wr.heap.size wr u) → Hid (Sl u AX (pxs ps)) from fun u h => Lib.hid (HSX.out.below h.out))
      obtain ⟨zc0, zc1, zc2, zc3, zc4, zc5, zc6, zc7, zc8, zc9, zc10⟩ := kC.out _ HBr
      by_cases hnt : NoTwice (pxs ps)
      · skip
        have HNTW := Lib.hid hnt
        clear hnt
        go_wp2_with fail
        refine (rtwice_any AX (pxs ps) k cX false (Lib.hid ⟨fun _ => HNTW.out, fun _ => rfl⟩) HIN (by omega) _ (kX.out _ HB_wr_2)).mono ?_
        rintro e w3 ⟨rfl, hb0⟩
        have HB_3 := Lib.hid (below_ext HBr.out hb0)
        have HB_wr_3 := Lib.hid (below_ext HB_wr_2.out hb0)
        clear zc0 zc1 zc2 zc3 zc4 zc5 zc6 zc7 zc8 zc9 zc10
        clear hb0
        obtain ⟨zc0, zc1, zc2, zc3, zc4, zc5, zc6, zc7, zc8, zc9, zc10⟩ := kC.out _ HB_3
        by_cases hfw : k < m
        · skip
          have HF : Hid (cmbE P Q (m : Int) kn E1 E2 ps = 7) := Lib.hid (by rw [cmbE, m1.out, m2.out, HALL.out]; simp [HNTW.out, hn.out]; omega)
          have df : decide ((k : Int) < (m : Int)) = true := by simp; omega
          have hbF := below_ext HBw.out HB_3.out
          go_wp2
          go_ret2
          exact ⟨by rw [cmbV, HF.out]; rfl, hbF⟩
        · skip
          have HF : Hid (cmbE P Q (m : Int) kn E1 E2 ps = 0) := Lib.hid (by rw [cmbE, m1.out, m2.out, HALL.out]; simp [HNTW.out, hn.out]; omega)
          have HVF : Hid (cmbV P Q (m : Int) kn E1 E2 ps = rkM P Q E2 (pvs ps) (wtI Q ((pxs ps).take m) 0) m) := Lib.hid (by rw [cmbV, HF.out]; rfl)
          have df : decide ((k : Int) < (m : Int)) = false := by simp; omega
          have hmc : m ≤ cX := by omega
          have HTN : Hid (((pxs ps).take m).length = m) := Lib.hid (by rw [List.length_take, HIN.out]; omega)
          have HTS : Hid (((pxs ps).take m).all (scB Q) = true) := Lib.hid (pxs_sc HALL.out n3)
          have HPQ : Hid (isP Q = true) := Lib.hid (validG_Q HVG.out)
          have kX2 := Lib.hid (show ∀ u : World, Hid (Below wr.heap.size wr u) → Hid (Sl u AX ((pxs ps).take m)) from fun u h => Lib.hid ((sl_take (HSX.out.below h.out) m)))
          go_upto_region 14 with (fail)
          clear zc0 zc1 zc2 zc3 zc4 zc5 zc6 zc7 zc8 zc9 zc10
          have hBx4 := Lib.hid (show ∀ u u2 : World, Hid (Below w0.heap.size w0 u ∧ Below wr.heap.size wr u) → Below u.heap.size u u2 → Hid (Below w0.heap.size w0 u2 ∧ Below wr.heap.size wr u2) from fun u u2 h1 h2 => Lib.hid ⟨(below_ext h1.out.1 h2), (below_ext h1.out.2 h2)⟩)
          have hS4 := Lib.hid (show ∀ u : World, Hid (Below w0.heap.size w0 u ∧ Below wr.heap.size wr u) → (u.cell? ⟨w.heap.size, 0, none⟩ = some (.int .i64 P) ∧ u.cell? ⟨w.heap.size, 1, none⟩ = some (.int .i64 Q) ∧ u.cell? ⟨w.heap.size, 2, none⟩ = some (.int .i64 G) ∧ u.cell? ⟨w.heap.size + 1, 0, none⟩ = some (.int .i64 (m : Int)) ∧ u.cell? ⟨w.heap.size + 1, 1, none⟩ = some (.slice Cs cn cc) ∧ u.cell? ⟨w.heap.size + 1, 2, none⟩ = some (.slice Ks kn kc) ∧ u.cell? ⟨w.heap.size + 2, 0, none⟩ = some (.int .i64 E1) ∧ u.cell? ⟨w.heap.size + 2, 1, none⟩ = some (.int .i64 E2) ∧ u.cell? ⟨w.heap.size + 2, 2, none⟩ = some (.slice A na ca) ∧ u.cell? ⟨w.heap.size + 2, 3, none⟩ = some (.int .i64 C) ∧ u.cell? ⟨w.heap.size + 2, 4, none⟩ = some (.slice Z nz cz) ∧ Hid (Below w0.heap.size w0 u ∧ Below wr.heap.size wr u)) from fun u h1 => by
            obtain ⟨y0, y1, y2, y3, y4, y5, y6, y7, y8, y9, y10⟩ := kC.out _ (Lib.hid h1.out.1)
            exact ⟨y0, y1, y2, y3, y4, y5, y6, y7, y8, y9, y10, h1⟩)
          have HBA4 : Hid (Below w0.heap.size w0 w3 ∧ Below wr.heap.size wr w3) := Lib.hid ⟨HB_3.out, HB_wr_3.out⟩
          refine wp_region_T (S := fun w' => w'.cell? ⟨w.heap.size, 0, none⟩ = some (.int .i64 P) ∧ w'.cell? ⟨w.heap.size, 1, none⟩ = some (.int .i64 Q) ∧ w'.cell? ⟨w.heap.size, 2, none⟩ = some (.int .i64 G) ∧ w'.cell? ⟨w.heap.size + 1, 0, none⟩ = some (.int .i64 (m : Int)) ∧ w'.cell? ⟨w.heap.size + 1, 1, none⟩ = some (.slice Cs cn cc) ∧ w'.cell? ⟨w.heap.size + 1, 2, none⟩ = some (.slice Ks kn kc) ∧ w'.cell? ⟨w.heap.size + 2, 0, none⟩ = some (.int .i64 E1) ∧ w'.cell? ⟨w.heap.size + 2, 1, none⟩ = some (.int .i64 E2) ∧ w'.cell? ⟨w.heap.size + 2, 2, none⟩ = some (.slice A na ca) ∧ w'.cell? ⟨w.heap.size + 2, 3, none⟩ = some (.int .i64 C) ∧ w'.cell? ⟨w.heap.size + 2, 4, none⟩ = some (.slice Z nz cz) ∧ Hid (Below w0.heap.size w0 w' ∧ Below wr.heap.size wr w')) (E := []) (by kernel_rfl) (hS4.out _ (hBx4.out _ _ HBA4 ((Below.refl _ _).drew))) (fun hHeld => ?_)
          refine tkV 0 ?_
          try simp only [qq1, qq2, qq3, Act.put, qq4, qq5, qq6]
          refine tkV 1 ?_
          try simp only [qq1, qq2, qq3, Act.put, qq4, qq5, qq6]
          refine tkV 2 ?_
          try simp only [qq1, qq2, qq3, Act.put, qq4, qq5, qq6]
          refine tkV 3 ?_
          try simp only [qq1, qq2, qq3, Act.put, qq4, qq5, qq6]
          refine tkV 4 ?_
          try simp only [qq1, qq2, qq3, Act.put, qq4, qq5, qq6]
          refine tkV 5 ?_
          try simp only [qq1, qq2, qq3, Act.put, qq4, qq5, qq6]
          refine wpT_one (i := 6) (by kernel_rfl) rfl (fun K hK => ?_)
          go_simp
          refine (rweights_any Q AX ((pxs ps).take m) m cX 0 (by omega) HPQ HTN (by omega) HTS (by omega) (by omega) _ (kX2.out _ (Lib.hid (hHeld.2.2.2.2.2.2.2.2.2.2.2).out.2))).mono ?_
          intro e wA hW
          obtain ⟨vw, rfl, hOW, hbA⟩ := hW
          have HOW := Lib.hid hOW
          clear hOW
          refine hK.out _ _ ?_ (fun hHeld => ?_)
          · exact hS4.out _ (hBx4.out _ _ hHeld.2.2.2.2.2.2.2.2.2.2.2 hbA)
          clear hK K
          try simp only [qq1, qq2, qq3, Act.put, qq4, qq5, qq6]
          refine tkV 7 ?_
          try simp only [qq1, qq2, qq3, Act.put, qq4, qq5, qq6]
          refine wpT_done (by kernel_rfl) ?_ _
          obtain ⟨x0, x1, x2, x3, x4, x5, x6, x7, x8, x9, x10, FB4⟩ := hHeld
          clear x0 x1 x2 x3 x4 x5 x6 x7 x8 x9 x10 hS4 hBx4 HBA4
          have HL4_w0 := Lib.hid FB4.out.1
          have HL4_wr := Lib.hid FB4.out.2
          obtain ⟨zc0, zc1, zc2, zc3, zc4, zc5, zc6, zc7, zc8, zc9, zc10⟩ := kC.out _ HL4_w0
          have hO9 := HOW.out
          unfold OwnL at hO9
          rw [wtL_length] at hO9
          obtain ⟨AW, cW, hvw, sW, hcW⟩ := own_slc hO9 (wtL_length _ _ _ _)
          subst hvw
          have HSW := Lib.hid sW
          clear hO9 sW HOW
          clear zc0 zc1 zc2 zc3 zc4 zc5 zc6 zc7 zc8 zc9 zc10
          have HB_wA_4 : Hid (Below wA.heap.size wA wA) := Lib.hid (Below.refl _ _)
          have kW := Lib.hid (show ∀ u : World, Hid (Below wA.heap.size wA u) → Hid (Sl u AW (wtL Q ((pxs ps).take m) 0 m)) from fun u h => Lib.hid (HSW.out.below h.out))
          obtain ⟨zc0, zc1, zc2, zc3, zc4, zc5, zc6, zc7, zc8, zc9, zc10⟩ := kC.out _ HL4_w0
          go_wp2
          clear zc0 zc1 zc2 zc3 zc4 zc5 zc6 zc7 zc8 zc9 zc10
          go_loopw [13, 14] (fun a i wz => ∃ j : Nat, j ≤ m ∧ i = .int .i64 j ∧ a = .int .i64 (rkM P Q E2 (pvs ps) (wtI Q ((pxs ps).take m) 0) j) ∧ Hid (Below wA.heap.size wA wz)) (fun _ i _ => m - (intOf i).toNat)
          case atStart => exact ⟨0, by omega, rfl, rfl, Lib.hid (Below.refl _ _)⟩
          case round =>
            obtain ⟨j, hj, rfl, rfl, HBz⟩ := hrel
            have HZ_w0 := Lib.hid (below_ext HL4_w0.out HBz.out)
            have HZ_wr := Lib.hid (below_ext HL4_wr.out HBz.out)
            obtain ⟨r0, r1⟩ := rkM_bounds (E := E2) (Q := Q) (vs := pvs ps) (ws := wtI Q ((pxs ps).take m) 0) q1 (by have := memG_lo m2.out; omega) (memG_hi m2.out) j
            by_cases hltj : j < m
            · skip
              have hkl : j < ps.length := by have := hn.out; omega
              have hjk : j < k := by omega
              obtain ⟨b1, o1, hA1, i1⟩ := (kW.out _ HBz).out j (by rw [wtL_length]; exact hltj)
              subst hA1
              obtain ⟨b2, o2, hA2, j0, j1, j2, j3, j4, hok⟩ := (kL.out _ HZ_w0).out j hkl
              subst hA2
              rw [wtL_get _ _ _ _ _ hltj] at i1
              have ss : rkM P Q E2 (pvs ps) (wtI Q ((pxs ps).take m) 0) (j + 1) = rkM P Q E2 (pvs ps) (wtI Q ((pxs ps).take m) 0) j * pw (pvs ps j) ((0 - wtI Q ((pxs ps).take m) 0 j) % Q) P % P := rfl
              obtain ⟨x0, x1⟩ := wtI_bounds (q := Q) (by omega) ((pxs ps).take m) 0 j
              have hyb := paB_mem (alla_get HALL.out hkl)
              obtain ⟨x, hx⟩ : ∃ x, wtI Q ((pxs ps).take m) 0 j = x := ⟨_, rfl⟩
              obtain ⟨y, hy⟩ : ∃ x, pvs ps j = x := ⟨_, rfl⟩
              obtain ⟨s9, hs9⟩ : ∃ x, rkM P Q E2 (pvs ps) (wtI Q ((pxs ps).take m) 0) j = x := ⟨_, rfl⟩
              rw [hx] at i1 x0 x1 ss
              rw [show (ps.getD j noPart).v = y from hy] at j1
              rw [show (ps.getD j noPart).v = y from hy] at hyb
              rw [hy, hs9] at ss
              rw [hs9] at r0 r1 ⊢
              obtain ⟨p, hp⟩ : ∃ z, pw y ((0 - x) % Q) P = z := ⟨_, rfl⟩
              obtain ⟨t9, ht9⟩ : ∃ z, s9 * p % P = z := ⟨_, rfl⟩
              rw [hp, ht9] at ss
              obtain ⟨p0, p1⟩ : 0 ≤ p ∧ p < P := by rw [← hp]; exact pw_lt _ _ _ (by omega)
              have y0 := memG_lo hyb
              have y1 := memG_hi hyb
              have dneg : IntKind.i64.wrap (0 - x) = -x := by rw [Int.zero_sub]; exact IntWalk.i64_in _ (by omega)
              have dneg2 : IntKind.i64.wrap (-x) = -x := IntWalk.i64_in _ (by omega)
              have dneg3 : wrap64 (0 - x) = -x := by rw [Int.zero_sub]; exact IntWalk.wrap64_in _ (by omega)
              have dneg4 : wrap64 (-x) = -x := IntWalk.wrap64_in _ (by omega)
              have SS := Lib.hid ss
              have HP : Hid (pw y ((-x) % Q) P = p) := Lib.hid (by rw [← Int.zero_sub]; exact hp)
              have HT9 := Lib.hid ht9
              have kI := Lib.hid (show ∀ u : World, Hid (Below wr.heap.size wr u) → u.cell? ⟨b2, o2 + j * 5 + 1, none⟩ = some (.int .i64 y) ∧ u.cell? ⟨b1, o1 + j, none⟩ = some (.int .i64 x) from fun u h => ⟨cell_below j1 h.out, cell_below i1 h.out⟩)
              clear ss hx hy hs9 hp ht9 hkl hyb j0 j1 j2 j3 j4 hok i1
              have HB_wr_4 : Hid (Below wr.heap.size wr wr) := Lib.hid (Below.refl _ _)
              obtain ⟨zc0, zc1, zc2, zc3, zc4, zc5, zc6, zc7, zc8, zc9, zc10⟩ := kC.out _ HZ_w0
              obtain ⟨kI_0, kI_1⟩ := kI.out _ HB_wr_4
              go_wp2_with fail
              clear zc0 zc1 zc2 zc3 zc4 zc5 zc6 zc7 zc8 zc9 zc10 kI_0 kI_1
              have hBx5 := Lib.hid (show ∀ u u2 : World, Hid (Below w0.heap.size w0 u ∧ Below wA.heap.size wA u ∧ Below wr.heap.size wr u) → Below u.heap.size u u2 → Hid (Below w0.heap.size w0 u2 ∧ Below wA.heap.size wA u2 ∧ Below wr.heap.size wr u2) from fun u u2 h1 h2 => Lib.hid ⟨(below_ext h1.out.1 h2), (below_ext h1.out.2.1 h2), (below_ext h1.out.2.2 h2)⟩)
              have hS5 := Lib.hid (show ∀ u : World, Hid (Below w0.heap.size w0 u ∧ Below wA.heap.size wA u ∧ Below wr.heap.size wr u) → (u.cell? ⟨w.heap.size, 0, none⟩ = some (.int .i64 P) ∧ u.cell? ⟨w.heap.size, 1, none⟩ = some (.int .i64 Q) ∧ u.cell? ⟨w.heap.size, 2, none⟩ = some (.int .i64 G) ∧ u.cell? ⟨w.heap.size + 1, 0, none⟩ = some (.int .i64 (m : Int)) ∧ u.cell? ⟨w.heap.size + 1, 1, none⟩ = some (.slice Cs cn cc) ∧ u.cell? ⟨w.heap.size + 1, 2, none⟩ = some (.slice Ks kn kc) ∧ u.cell? ⟨w.heap.size + 2, 0, none⟩ = some (.int .i64 E1) ∧ u.cell? ⟨w.heap.size + 2, 1, none⟩ = some (.int .i64 E2) ∧ u.cell? ⟨w.heap.size + 2, 2, none⟩ = some (.slice A na ca) ∧ u.cell? ⟨w.heap.size + 2, 3, none⟩ = some (.int .i64 C) ∧ u.cell? ⟨w.heap.size + 2, 4, none⟩ = some (.slice Z nz cz) ∧ u.cell? ⟨b2, o2 + j * 5 + 1, none⟩ = some (.int .i64 y) ∧ u.cell? ⟨b1, o1 + j, none⟩ = some (.int .i64 x) ∧ Hid (Below w0.heap.size w0 u ∧ Below wA.heap.size wA u ∧ Below wr.heap.size wr u)) from fun u h1 => by
                obtain ⟨y0, y1, y2, y3, y4, y5, y6, y7, y8, y9, y10⟩ := kC.out _ (Lib.hid h1.out.1)
                obtain ⟨kI_0, kI_1⟩ := kI.out _ (Lib.hid h1.out.2.2)
                exact ⟨y0, y1, y2, y3, y4, y5, y6, y7, y8, y9, y10, kI_0, kI_1, h1⟩)
              have HBA5 : Hid (Below w0.heap.size w0 wr ∧ Below wA.heap.size wA wr ∧ Below wr.heap.size wr wr) := Lib.hid ⟨HZ_w0.out, HBz.out, HB_wr_4.out⟩
              refine wp_region_T (S := fun w' => w'.cell? ⟨w.heap.size, 0, none⟩ = some (.int .i64 P) ∧ w'.cell? ⟨w.heap.size, 1, none⟩ = some (.int .i64 Q) ∧ w'.cell? ⟨w.heap.size, 2, none⟩ = some (.int .i64 G) ∧ w'.cell? ⟨w.heap.size + 1, 0, none⟩ = some (.int .i64 (m : Int)) ∧ w'.cell? ⟨w.heap.size + 1, 1, none⟩ = some (.slice Cs cn cc) ∧ w'.cell? ⟨w.heap.size + 1, 2, none⟩ = some (.slice Ks kn kc) ∧ w'.cell? ⟨w.heap.size + 2, 0, none⟩ = some (.int .i64 E1) ∧ w'.cell? ⟨w.heap.size + 2, 1, none⟩ = some (.int .i64 E2) ∧ w'.cell? ⟨w.heap.size + 2, 2, none⟩ = some (.slice A na ca) ∧ w'.cell? ⟨w.heap.size + 2, 3, none⟩ = some (.int .i64 C) ∧ w'.cell? ⟨w.heap.size + 2, 4, none⟩ = some (.slice Z nz cz) ∧ w'.cell? ⟨b2, o2 + j * 5 + 1, none⟩ = some (.int .i64 y) ∧ w'.cell? ⟨b1, o1 + j, none⟩ = some (.int .i64 x) ∧ Hid (Below w0.heap.size w0 w' ∧ Below wA.heap.size wA w' ∧ Below wr.heap.size wr w')) (E := []) (by kernel_rfl) (hS5.out _ (hBx5.out _ _ HBA5 ((Below.refl _ _).drew))) (fun hHeld => ?_)
              refine tkV 0 ?_
              try simp only [qq1, qq2, qq3, Act.put, qq4, qq5, qq6]
              refine tkV 1 ?_
              try simp only [qq1, qq2, qq3, Act.put, qq4, qq5, qq6]
              refine tkV 2 ?_
              try simp only [qq1, qq2, qq3, Act.put, qq4, qq5, qq6]
              refine tkV 3 ?_
              try simp only [qq1, qq2, qq3, Act.put, qq4, qq5, qq6]
              refine tkV 4 ?_
              try simp only [qq1, qq2, qq3, Act.put, qq4, qq5, qq6]
              refine tkV 5 ?_
              try simp only [qq1, qq2, qq3, Act.put, qq4, qq5, qq6]
              refine tkV 6 ?_
              try simp only [qq1, qq2, qq3, Act.put, qq4, qq5, qq6]
              refine tkV 7 ?_
              try simp only [qq1, qq2, qq3, Act.put, qq4, qq5, qq6]
              refine tkV 8 ?_
              try simp only [qq1, qq2, qq3, Act.put, qq4, qq5, qq6]
              refine tkV 9 ?_
              try simp only [qq1, qq2, qq3, Act.put, qq4, qq5, qq6]
              refine tkV 10 ?_
              try simp only [qq1, qq2, qq3, Act.put, qq4, qq5, qq6]
              refine tkV 11 ?_
              try simp only [qq1, qq2, qq3, Act.put, qq4, qq5, qq6]
              refine tkV 12 ?_
              try simp only [qq1, qq2, qq3, Act.put, qq4, qq5, qq6]
              refine wpT_one (i := 13) (by kernel_rfl) rfl (fun K hK => ?_)
              go_simp
              refine (rpower_any P Q G y (-x) p HP (by omega) q2 (by omega) (by omega) (by omega) y1 (by omega) (by omega) _).mono ?_
              rintro e wA ⟨rfl, hbA⟩
              refine hK.out _ _ ?_ (fun hHeld => ?_)
              · exact hS5.out _ (hBx5.out _ _ hHeld.2.2.2.2.2.2.2.2.2.2.2.2.2 hbA)
              clear hK K
              try simp only [qq1, qq2, qq3, Act.put, qq4, qq5, qq6]
              refine wpT_one (i := 14) (by kernel_rfl) rfl (fun K hK => ?_)
              go_simp
              refine (rgmul_any P Q G s9 p t9 HT9 q2 r0 r1 p0 p1 _).mono ?_
              rintro e wA ⟨rfl, hbA⟩
              refine hK.out _ _ ?_ (fun hHeld => ?_)
              · exact hS5.out _ (hBx5.out _ _ hHeld.2.2.2.2.2.2.2.2.2.2.2.2.2 hbA)
              clear hK K
              try simp only [qq1, qq2, qq3, Act.put, qq4, qq5, qq6]
              refine tkV 15 ?_
              try simp only [qq1, qq2, qq3, Act.put, qq4, qq5, qq6]
              refine wpT_done (by kernel_rfl) ?_ _
              obtain ⟨x0, x1, x2, x3, x4, x5, x6, x7, x8, x9, x10, x11, x12, FB5⟩ := hHeld
              clear x0 x1 x2 x3 x4 x5 x6 x7 x8 x9 x10 x11 x12 hS5 hBx5 HBA5
              have HL5_w0 := Lib.hid FB5.out.1
              have HL5_wA := Lib.hid FB5.out.2.1
              have HL5_wr := Lib.hid FB5.out.2.2
              obtain ⟨zc0, zc1, zc2, zc3, zc4, zc5, zc6, zc7, zc8, zc9, zc10⟩ := kC.out _ HL5_w0
              obtain ⟨kI_0, kI_1⟩ := kI.out _ HL5_wr
              go_wp2
              go_roundw
              case rel => exact ⟨j + 1, by omega, by go_num, by rw [SS.out], HL5_wA⟩
              case measure => simp [intOf]; omega
            · skip
              obtain rfl : j = m := by omega
              obtain ⟨zc0, zc1, zc2, zc3, zc4, zc5, zc6, zc7, zc8, zc9, zc10⟩ := kC.out _ HZ_w0
              have hbF := below_ext HBw.out HZ_w0.out
              go_wp2
              go_ret2
              exact ⟨by rw [HVF.out, HF.out]; rfl, hbF⟩
      · skip
        have HF : Hid (cmbE P Q (m : Int) kn E1 E2 ps = 8) := Lib.hid (by rw [cmbE, m1.out, m2.out, HALL.out]; simp [hnt])
        have HNTW := Lib.hid hnt
        clear hnt
        go_wp2_with fail
        refine (rtwice_any AX (pxs ps) k cX true (Lib.hid ⟨fun h => (by cases h), fun h => absurd h HNTW.out⟩) HIN (by omega) _ (kX.out _ HB_wr_2)).mono ?_
        rintro e w3 ⟨rfl, hb0⟩
        have HB_3 := Lib.hid (below_ext HBr.out hb0)
        have HB_wr_3 := Lib.hid (below_ext HB_wr_2.out hb0)
        clear zc0 zc1 zc2 zc3 zc4 zc5 zc6 zc7 zc8 zc9 zc10
        clear hb0
        obtain ⟨zc0, zc1, zc2, zc3, zc4, zc5, zc6, zc7, zc8, zc9, zc10⟩ := kC.out _ HB_3
        have hbF := below_ext HBw.out HB_3.out
        go_wp2
        go_ret2
        exact ⟨by rw [cmbV, HF.out]; rfl, hbF⟩
end Go.Proofs.YtjnoaejikapmdaaGreatDoor
