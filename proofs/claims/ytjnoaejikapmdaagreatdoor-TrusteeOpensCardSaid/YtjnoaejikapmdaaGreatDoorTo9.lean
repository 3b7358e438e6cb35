/- Contracts and lemmas: TruH, TruJ. -/
import Derived.Test.YtjnoaejikapmdaaGreatDoorTo8
namespace Go.Proofs.YtjnoaejikapmdaaGreatDoor
open Go.RowKit SpM
set_option linter.unusedVariables false
set_option linter.unusedSimpArgs false
set_option maxRecDepth 100000
def tvrB (P Q G need : Int) (cs ks : List Int) (E1 ix v C : Int) (lb al zs : List Int) : Bool := trB P Q G need cs ks && (memB ks.length ix && eqVer P Q G G (ks.getD (ix - 1).toNat 0) E1 v C lb al zs)
set_option maxRecDepth 100000 in
theorem stz9 (P : Int) (Q : Int) (G : Int) (need : Int) (Cs : Option Addr) (cn : Nat) (cc : Nat) (Ks : Option Addr) (kn : Nat) (kc : Nat) (E1 : Int) (E2 : Int) (A : Option Addr) (na : Nat) (ca : Nat) (C : Int) (Z : Option Addr) (nz : Nat) (cz : Nat) (ix : Int) (v : Int) (pA : Option Addr) (pna : Nat) (pca : Nat) (pC : Int) (pZ : Option Addr) (pnz : Nat) (pcz : Nat) (w : World) : ∃ w0, Hid (((((w.alloc (gObj P Q G)).alloc (trO need Cs cn cc Ks kn kc)).alloc (esO E1 E2 A na ca C Z nz cz)).alloc (paO ix v pA pna pca pC pZ pnz pcz)) = w0) ∧ Hid (Below w.heap.size w w0) ∧ Hid (∀ u : World, Hid (Below w0.heap.size w0 u) → u.cell? ⟨w.heap.size, 0, none⟩ = some (.int .i64 P) ∧ u.cell? ⟨w.heap.size, 1, none⟩ = some (.int .i64 Q) ∧ u.cell? ⟨w.heap.size, 2, none⟩ = some (.int .i64 G) ∧ u.cell? ⟨w.heap.size + 1, 0, none⟩ = some (.int .i64 need) ∧ u.cell? ⟨w.heap.size + 1, 1, none⟩ = some (.slice Cs cn cc) ∧ u.cell? ⟨w.heap.size + 1, 2, none⟩ = some (.slice Ks kn kc) ∧ u.cell? ⟨w.heap.size + 2, 0, none⟩ = some (.int .i64 E1) ∧ u.cell? ⟨w.heap.size + 2, 1, none⟩ = some (.int .i64 E2) ∧ u.cell? ⟨w.heap.size + 2, 2, none⟩ = some (.slice A na ca) ∧ u.cell? ⟨w.heap.size + 2, 3, none⟩ = some (.int .i64 C) ∧ u.cell? ⟨w.heap.size + 2, 4, none⟩ = some (.slice Z nz cz) ∧ u.cell? ⟨w.heap.size + 3, 0, none⟩ = some (.int .i64 ix) ∧ u.cell? ⟨w.heap.size + 3, 1, none⟩ = some (.int .i64 v) ∧ u.cell? ⟨w.heap.size + 3, 2, none⟩ = some (.slice pA pna pca) ∧ u.cell? ⟨w.heap.size + 3, 3, none⟩ = some (.int .i64 pC) ∧ u.cell? ⟨w.heap.size + 3, 4, none⟩ = some (.slice pZ pnz pcz)) := by
  obtain ⟨w0, hW⟩ : ∃ W, ((((w.alloc (gObj P Q G)).alloc (trO need Cs cn cc Ks kn kc)).alloc (esO E1 E2 A na ca C Z nz cz)).alloc (paO ix v pA pna pca pC pZ pnz pcz)) = W := ⟨_, rfl⟩
  have HBw : Hid (Below w.heap.size w w0) := Lib.hid (by rw [← hW]; exact below_ext (below_ext (below_ext (below_box0 _ _) (below_box0 _ _)) (below_box0 _ _)) (below_box0 _ _))
  have hc : w0.cell? ⟨w.heap.size, 0, none⟩ = some (.int .i64 P) ∧ w0.cell? ⟨w.heap.size, 1, none⟩ = some (.int .i64 Q) ∧ w0.cell? ⟨w.heap.size, 2, none⟩ = some (.int .i64 G) ∧ w0.cell? ⟨w.heap.size + 1, 0, none⟩ = some (.int .i64 need) ∧ w0.cell? ⟨w.heap.size + 1, 1, none⟩ = some (.slice Cs cn cc) ∧ w0.cell? ⟨w.heap.size + 1, 2, none⟩ = some (.slice Ks kn kc) ∧ w0.cell? ⟨w.heap.size + 2, 0, none⟩ = some (.int .i64 E1) ∧ w0.cell? ⟨w.heap.size + 2, 1, none⟩ = some (.int .i64 E2) ∧ w0.cell? ⟨w.heap.size + 2, 2, none⟩ = some (.slice A na ca) ∧ w0.cell? ⟨w.heap.size + 2, 3, none⟩ = some (.int .i64 C) ∧ w0.cell? ⟨w.heap.size + 2, 4, none⟩ = some (.slice Z nz cz) ∧ w0.cell? ⟨w.heap.size + 3, 0, none⟩ = some (.int .i64 ix) ∧ w0.cell? ⟨w.heap.size + 3, 1, none⟩ = some (.int .i64 v) ∧ w0.cell? ⟨w.heap.size + 3, 2, none⟩ = some (.slice pA pna pca) ∧ w0.cell? ⟨w.heap.size + 3, 3, none⟩ = some (.int .i64 pC) ∧ w0.cell? ⟨w.heap.size + 3, 4, none⟩ = some (.slice pZ pnz pcz) := by rw [← hW]; exact ⟨cell_below (cell_below (cell_below (allocs_cell (by simp) (by rfl)) (below_box0 _ _)) (below_box0 _ _)) (below_box0 _ _), cell_below (cell_below (cell_below (allocs_cell (by simp) (by rfl)) (below_box0 _ _)) (below_box0 _ _)) (below_box0 _ _), cell_below (cell_below (cell_below (allocs_cell (by simp) (by rfl)) (below_box0 _ _)) (below_box0 _ _)) (below_box0 _ _), cell_below (cell_below (allocs_cell (by simp) (by rfl)) (below_box0 _ _)) (below_box0 _ _), cell_below (cell_below (allocs_cell (by simp) (by rfl)) (below_box0 _ _)) (below_box0 _ _), cell_below (cell_below (allocs_cell (by simp) (by rfl)) (below_box0 _ _)) (below_box0 _ _), cell_below (allocs_cell (by simp) (by rfl)) (below_box0 _ _), cell_below (allocs_cell (by simp) (by rfl)) (below_box0 _ _), cell_below (allocs_cell (by simp) (by rfl)) (below_box0 _ _), cell_below (allocs_cell (by simp) (by rfl)) (below_box0 _ _), cell_below (allocs_cell (by simp) (by rfl)) (below_box0 _ _), allocs_cell (by simp) (by rfl), allocs_cell (by simp) (by rfl), allocs_cell (by simp) (by rfl), allocs_cell (by simp) (by rfl), allocs_cell (by simp) (by rfl)⟩
  have kC := Lib.hid (show ∀ u : World, Hid (Below w0.heap.size w0 u) → u.cell? ⟨w.heap.size, 0, none⟩ = some (.int .i64 P) ∧ u.cell? ⟨w.heap.size, 1, none⟩ = some (.int .i64 Q) ∧ u.cell? ⟨w.heap.size, 2, none⟩ = some (.int .i64 G) ∧ u.cell? ⟨w.heap.size + 1, 0, none⟩ = some (.int .i64 need) ∧ u.cell? ⟨w.heap.size + 1, 1, none⟩ = some (.slice Cs cn cc) ∧ u.cell? ⟨w.heap.size + 1, 2, none⟩ = some (.slice Ks kn kc) ∧ u.cell? ⟨w.heap.size + 2, 0, none⟩ = some (.int .i64 E1) ∧ u.cell? ⟨w.heap.size + 2, 1, none⟩ = some (.int .i64 E2) ∧ u.cell? ⟨w.heap.size + 2, 2, none⟩ = some (.slice A na ca) ∧ u.cell? ⟨w.heap.size + 2, 3, none⟩ = some (.int .i64 C) ∧ u.cell? ⟨w.heap.size + 2, 4, none⟩ = some (.slice Z nz cz) ∧ u.cell? ⟨w.heap.size + 3, 0, none⟩ = some (.int .i64 ix) ∧ u.cell? ⟨w.heap.size + 3, 1, none⟩ = some (.int .i64 v) ∧ u.cell? ⟨w.heap.size + 3, 2, none⟩ = some (.slice pA pna pca) ∧ u.cell? ⟨w.heap.size + 3, 3, none⟩ = some (.int .i64 pC) ∧ u.cell? ⟨w.heap.size + 3, 4, none⟩ = some (.slice pZ pnz pcz) from fun u h => ⟨cell_below hc.1 h.out, cell_below hc.2.1 h.out, cell_below hc.2.2.1 h.out, cell_below hc.2.2.2.1 h.out, cell_below hc.2.2.2.2.1 h.out, cell_below hc.2.2.2.2.2.1 h.out, cell_below hc.2.2.2.2.2.2.1 h.out, cell_below hc.2.2.2.2.2.2.2.1 h.out, cell_below hc.2.2.2.2.2.2.2.2.1 h.out, cell_below hc.2.2.2.2.2.2.2.2.2.1 h.out, cell_below hc.2.2.2.2.2.2.2.2.2.2.1 h.out, cell_below hc.2.2.2.2.2.2.2.2.2.2.2.1 h.out, cell_below hc.2.2.2.2.2.2.2.2.2.2.2.2.1 h.out, cell_below hc.2.2.2.2.2.2.2.2.2.2.2.2.2.1 h.out, cell_below hc.2.2.2.2.2.2.2.2.2.2.2.2.2.2.1 h.out, cell_below hc.2.2.2.2.2.2.2.2.2.2.2.2.2.2.2 h.out⟩)
  exact ⟨w0, Lib.hid hW, HBw, kC⟩
set_option maxHeartbeats 6400000 in
theorem tver_1 (P Q G need : Int) (Cs : Option Addr) (cs : List Int) (cn cc : Nat) (Ks : Option Addr) (ks : List Int) (kn kc : Nat) (hcn : Hid (cs.length = cn)) (hkn : Hid (ks.length = kn)) (E1 E2 : Int) (A : Option Addr) (na ca : Nat) (C : Int) (Z : Option Addr) (nz cz : Nat) (ix : Int) (v : Int) (pA : Option Addr) (pal : List Int) (pna pca : Nat) (pC : Int) (pZ : Option Addr) (pzs : List Int) (pnz pcz : Nat) (han : Hid (pal.length = pna)) (hzn : Hid (pzs.length = pnz)) (hna : pna < 1000000) (hnz : pnz < 1000000) (s : ByteArray) (hs : s.size ≤ 1000) (ht : Hid (trB P Q G need cs ks = false)) (hQ : Q < 9223372036854775808) (w : World) (hv : Hid (Vars w)) (hd0 : Hid (VarsD w)) (hC : Hid (Sl w Cs cs)) (hK : Hid (Sl w Ks ks)) (hpA : Hid (Sl w pA pal)) (hpZ : Hid (Sl w pZ pzs)) :
    Calls Tryz.prog 23 #[gv P Q G, trV need Cs cn cc Ks kn kc, esV E1 E2 A na ca C Z nz cz, .string s, paV ix v pA pna pca pC pZ pnz pcz] w fun e' w' => e' = .returned (.bool false) ∧ Below w.heap.size w w' := by
  obtain ⟨w0, HW, HBw, kC⟩ := stz9 P Q G need Cs cn cc Ks kn kc E1 E2 A na ca C Z nz cz ix v pA pna pca pC pZ pnz pcz w
  have kV := Lib.hid (show ∀ u : World, Hid (Below w0.heap.size w0 u) → Hid (Vars u) from fun u h => Lib.hid ((hv.out.below) (below_ext HBw.out h.out)))
  have kD := Lib.hid (show ∀ u : World, Hid (Below w0.heap.size w0 u) → Hid (VarsD u) from fun u h => Lib.hid ((hd0.out.below) (below_ext HBw.out h.out)))
  have kCs := Lib.hid (show ∀ u : World, Hid (Below w0.heap.size w0 u) → Hid (Sl u Cs cs) from fun u h => Lib.hid ((hC.out.below) (below_ext HBw.out h.out)))
  have kKs := Lib.hid (show ∀ u : World, Hid (Below w0.heap.size w0 u) → Hid (Sl u Ks ks) from fun u h => Lib.hid ((hK.out.below) (below_ext HBw.out h.out)))
  have kPA := Lib.hid (show ∀ u : World, Hid (Below w0.heap.size w0 u) → Hid (Sl u pA pal) from fun u h => Lib.hid ((hpA.out.below) (below_ext HBw.out h.out)))
  have kPZ := Lib.hid (show ∀ u : World, Hid (Below w0.heap.size w0 u) → Hid (Sl u pZ pzs) from fun u h => Lib.hid ((hpZ.out.below) (below_ext HBw.out h.out)))
  have HB_0 : Hid (Below w0.heap.size w0 w0) := Lib.hid (Below.refl _ _)
  clear hv hd0 hC hK hpA hpZ
  go_enter Tryz.func23, Tryz.ntmps23
  go_wp2_with fail
  rw [HW.out]
  obtain ⟨zc0, zc1, zc2, zc3, zc4, zc5, zc6, zc7, zc8, zc9, zc10, zc11, zc12, zc13, zc14, zc15⟩ := kC.out _ HB_0
  clear zc0 zc1 zc2 zc3 zc4 zc5 zc6 zc7 zc8 zc9 zc10 zc11 zc12 zc13 zc14 zc15
  have hBx1 := Lib.hid (show ∀ u u2 : World, Hid (Below w0.heap.size w0 u) → Below u.heap.size u u2 → Hid (Below w0.heap.size w0 u2) from fun u u2 h1 h2 => Lib.hid (below_ext h1.out h2))
  have hS1 := Lib.hid (show ∀ u : World, Hid (Below w0.heap.size w0 u) → (u.cell? ⟨w.heap.size, 0, none⟩ = some (.int .i64 P) ∧ u.cell? ⟨w.heap.size, 1, none⟩ = some (.int .i64 Q) ∧ u.cell? ⟨w.heap.size, 2, none⟩ = some (.int .i64 G) ∧ u.cell? ⟨w.heap.size + 1, 0, none⟩ = some (.int .i64 need) ∧ u.cell? ⟨w.heap.size + 1, 1, none⟩ = some (.slice Cs cn cc) ∧ u.cell? ⟨w.heap.size + 1, 2, none⟩ = some (.slice Ks kn kc) ∧ u.cell? ⟨w.heap.size + 2, 0, none⟩ = some (.int .i64 E1) ∧ u.cell? ⟨w.heap.size + 2, 1, none⟩ = some (.int .i64 E2) ∧ u.cell? ⟨w.heap.size + 2, 2, none⟩ = some (.slice A na ca) ∧ u.cell? ⟨w.heap.size + 2, 3, none⟩ = some (.int .i64 C) ∧ u.cell? ⟨w.heap.size + 2, 4, none⟩ = some (.slice Z nz cz) ∧ u.cell? ⟨w.heap.size + 3, 0, none⟩ = some (.int .i64 ix) ∧ u.cell? ⟨w.heap.size + 3, 1, none⟩ = some (.int .i64 v) ∧ u.cell? ⟨w.heap.size + 3, 2, none⟩ = some (.slice pA pna pca) ∧ u.cell? ⟨w.heap.size + 3, 3, none⟩ = some (.int .i64 pC) ∧ u.cell? ⟨w.heap.size + 3, 4, none⟩ = some (.slice pZ pnz pcz) ∧ Hid (Below w0.heap.size w0 u)) from fun u h1 => by
    obtain ⟨y0, y1, y2, y3, y4, y5, y6, y7, y8, y9, y10, y11, y12, y13, y14, y15⟩ := kC.out _ (Lib.hid h1.out)
    exact ⟨y0, y1, y2, y3, y4, y5, y6, y7, y8, y9, y10, y11, y12, y13, y14, y15, h1⟩)
  have HBA1 : Hid (Below w0.heap.size w0 w0) := Lib.hid HB_0.out
  refine wp_region_T (S := fun w' => w'.cell? ⟨w.heap.size, 0, none⟩ = some (.int .i64 P) ∧ w'.cell? ⟨w.heap.size, 1, none⟩ = some (.int .i64 Q) ∧ w'.cell? ⟨w.heap.size, 2, none⟩ = some (.int .i64 G) ∧ w'.cell? ⟨w.heap.size + 1, 0, none⟩ = some (.int .i64 need) ∧ w'.cell? ⟨w.heap.size + 1, 1, none⟩ = some (.slice Cs cn cc) ∧ w'.cell? ⟨w.heap.size + 1, 2, none⟩ = some (.slice Ks kn kc) ∧ w'.cell? ⟨w.heap.size + 2, 0, none⟩ = some (.int .i64 E1) ∧ w'.cell? ⟨w.heap.size + 2, 1, none⟩ = some (.int .i64 E2) ∧ w'.cell? ⟨w.heap.size + 2, 2, none⟩ = some (.slice A na ca) ∧ w'.cell? ⟨w.heap.size + 2, 3, none⟩ = some (.int .i64 C) ∧ w'.cell? ⟨w.heap.size + 2, 4, none⟩ = some (.slice Z nz cz) ∧ w'.cell? ⟨w.heap.size + 3, 0, none⟩ = some (.int .i64 ix) ∧ w'.cell? ⟨w.heap.size + 3, 1, none⟩ = some (.int .i64 v) ∧ w'.cell? ⟨w.heap.size + 3, 2, none⟩ = some (.slice pA pna pca) ∧ w'.cell? ⟨w.heap.size + 3, 3, none⟩ = some (.int .i64 pC) ∧ w'.cell? ⟨w.heap.size + 3, 4, none⟩ = some (.slice pZ pnz pcz) ∧ Hid (Below w0.heap.size w0 w')) (E := []) (by kernel_rfl) (hS1.out _ (hBx1.out _ _ HBA1 ((Below.refl _ _).drew))) (fun hHeld => ?_)
  refine tkV 0 ?_
  try simp only [qq1, qq2, qq3, Act.put, qq4, qq5, qq6]
  refine tkV 1 ?_
  try simp only [qq1, qq2, qq3, Act.put, qq4, qq5, qq6]
  refine wpT_one (i := 2) (by kernel_rfl) rfl (fun K hK => ?_)
  go_simp
  refine (trv_any P Q G need Cs cs cn cc Ks ks kn kc hcn hkn false ht hQ _ (kV.out _ (Lib.hid (hHeld.2.2.2.2.2.2.2.2.2.2.2.2.2.2.2.2).out)) (kCs.out _ (Lib.hid (hHeld.2.2.2.2.2.2.2.2.2.2.2.2.2.2.2.2).out)) (kKs.out _ (Lib.hid (hHeld.2.2.2.2.2.2.2.2.2.2.2.2.2.2.2.2).out))).mono ?_
  rintro e wA ⟨rfl, hbA⟩
  refine hK.out _ _ ?_ (fun hHeld => ?_)
  · exact hS1.out _ (hBx1.out _ _ hHeld.2.2.2.2.2.2.2.2.2.2.2.2.2.2.2.2 hbA)
  clear hK K
  try simp only [qq1, qq2, qq3, Act.put, qq4, qq5, qq6]
  refine tkV 3 ?_
  try simp only [qq1, qq2, qq3, Act.put, qq4, qq5, qq6]
  refine tkU 4 ?_
  try simp only [qq1, qq2, qq3, Act.put, qq4, qq5, qq6]
  refine tkU 5 ?_
  try simp only [qq1, qq2, qq3, Act.put, qq4, qq5, qq6]
  refine tkU 6 ?_
  try simp only [qq1, qq2, qq3, Act.put, qq4, qq5, qq6]
  refine tkU 7 ?_
  try simp only [qq1, qq2, qq3, Act.put, qq4, qq5, qq6]
  refine tkV 8 ?_
  try simp only [qq1, qq2, qq3, Act.put, qq4, qq5, qq6]
  refine tkV 9 ?_
  try simp only [qq1, qq2, qq3, Act.put, qq4, qq5, qq6]
  refine tkU 10 ?_
  try simp only [qq1, qq2, qq3, Act.put, qq4, qq5, qq6]
  refine tkU 11 ?_
  try simp only [qq1, qq2, qq3, Act.put, qq4, qq5, qq6]
  refine tkU 12 ?_
  try simp only [qq1, qq2, qq3, Act.put, qq4, qq5, qq6]
  refine tkU 13 ?_
  try simp only [qq1, qq2, qq3, Act.put, qq4, qq5, qq6]
  refine tkU 14 ?_
  try simp only [qq1, qq2, qq3, Act.put, qq4, qq5, qq6]
  refine tkU 15 ?_
  try simp only [qq1, qq2, qq3, Act.put, qq4, qq5, qq6]
  refine tkU 16 ?_
  try simp only [qq1, qq2, qq3, Act.put, qq4, qq5, qq6]
  refine tkU 17 ?_
  try simp only [qq1, qq2, qq3, Act.put, qq4, qq5, qq6]
  refine tkU 18 ?_
  try simp only [qq1, qq2, qq3, Act.put, qq4, qq5, qq6]
  refine tkU 19 ?_
  try simp only [qq1, qq2, qq3, Act.put, qq4, qq5, qq6]
  refine tkU 20 ?_
  try simp only [qq1, qq2, qq3, Act.put, qq4, qq5, qq6]
  refine tkU 21 ?_
  try simp only [qq1, qq2, qq3, Act.put, qq4, qq5, qq6]
  refine tkU 22 ?_
  try simp only [qq1, qq2, qq3, Act.put, qq4, qq5, qq6]
  refine tkU 23 ?_
  try simp only [qq1, qq2, qq3, Act.put, qq4, qq5, qq6]
  refine tkU 24 ?_
  try simp only [qq1, qq2, qq3, Act.put, qq4, qq5, qq6]
  refine tkU 25 ?_
  try simp only [qq1, qq2, qq3, Act.put, qq4, qq5, qq6]
  refine tkU 26 ?_
  try simp only [qq1, qq2, qq3, Act.put, qq4, qq5, qq6]
  refine tkU 27 ?_
  try simp only [qq1, qq2, qq3, Act.put, qq4, qq5, qq6]
  refine tkV 28 ?_
  try simp only [qq1, qq2, qq3, Act.put, qq4, qq5, qq6]
  refine tkV 29 ?_
  try simp only [qq1, qq2, qq3, Act.put, qq4, qq5, qq6]
  refine wpT_done (by kernel_rfl) ?_ _
  obtain ⟨x0, x1, x2, x3, x4, x5, x6, x7, x8, x9, x10, x11, x12, x13, x14, x15, FB1⟩ := hHeld
  clear x0 x1 x2 x3 x4 x5 x6 x7 x8 x9 x10 x11 x12 x13 x14 x15 hS1 hBx1 HBA1
  have HL1_w0 := Lib.hid FB1.out
  obtain ⟨zc0, zc1, zc2, zc3, zc4, zc5, zc6, zc7, zc8, zc9, zc10, zc11, zc12, zc13, zc14, zc15⟩ := kC.out _ HL1_w0
  have hbF := below_ext HBw.out HL1_w0.out
  go_wp2
  go_ret
  exact ⟨rfl, hbF⟩
set_option maxHeartbeats 6400000 in
theorem tver_2 (P Q G need : Int) (Cs : Option Addr) (cs : List Int) (cn cc : Nat) (Ks : Option Addr) (ks : List Int) (kn kc : Nat) (hcn : Hid (cs.length = cn)) (hkn : Hid (ks.length = kn)) (E1 E2 : Int) (A : Option Addr) (na ca : Nat) (C : Int) (Z : Option Addr) (nz cz : Nat) (ix : Int) (v : Int) (pA : Option Addr) (pal : List Int) (pna pca : Nat) (pC : Int) (pZ : Option Addr) (pzs : List Int) (pnz pcz : Nat) (han : Hid (pal.length = pna)) (hzn : Hid (pzs.length = pnz)) (hna : pna < 1000000) (hnz : pnz < 1000000) (s : ByteArray) (hs : s.size ≤ 1000) (ht : Hid (trB P Q G need cs ks = true)) (hm : Hid (memB kn ix = false)) (hQ : Q < 9223372036854775808) (w : World) (hv : Hid (Vars w)) (hd0 : Hid (VarsD w)) (hC : Hid (Sl w Cs cs)) (hK : Hid (Sl w Ks ks)) (hpA : Hid (Sl w pA pal)) (hpZ : Hid (Sl w pZ pzs)) :
    Calls Tryz.prog 23 #[gv P Q G, trV need Cs cn cc Ks kn kc, esV E1 E2 A na ca C Z nz cz, .string s, paV ix v pA pna pca pC pZ pnz pcz] w fun e' w' => e' = .returned (.bool false) ∧ Below w.heap.size w w' := by
  obtain ⟨w0, HW, HBw, kC⟩ := stz9 P Q G need Cs cn cc Ks kn kc E1 E2 A na ca C Z nz cz ix v pA pna pca pC pZ pnz pcz w
  have kV := Lib.hid (show ∀ u : World, Hid (Below w0.heap.size w0 u) → Hid (Vars u) from fun u h => Lib.hid ((hv.out.below) (below_ext HBw.out h.out)))
  have kD := Lib.hid (show ∀ u : World, Hid (Below w0.heap.size w0 u) → Hid (VarsD u) from fun u h => Lib.hid ((hd0.out.below) (below_ext HBw.out h.out)))
  have kCs := Lib.hid (show ∀ u : World, Hid (Below w0.heap.size w0 u) → Hid (Sl u Cs cs) from fun u h => Lib.hid ((hC.out.below) (below_ext HBw.out h.out)))
  have kKs := Lib.hid (show ∀ u : World, Hid (Below w0.heap.size w0 u) → Hid (Sl u Ks ks) from fun u h => Lib.hid ((hK.out.below) (below_ext HBw.out h.out)))
  have kPA := Lib.hid (show ∀ u : World, Hid (Below w0.heap.size w0 u) → Hid (Sl u pA pal) from fun u h => Lib.hid ((hpA.out.below) (below_ext HBw.out h.out)))
  have kPZ := Lib.hid (show ∀ u : World, Hid (Below w0.heap.size w0 u) → Hid (Sl u pZ pzs) from fun u h => Lib.hid ((hpZ.out.below) (below_ext HBw.out h.out)))
  have HB_0 : Hid (Below w0.heap.size w0 w0) := Lib.hid (Below.refl _ _)
  clear hv hd0 hC hK hpA hpZ
  go_enter Tryz.func23, Tryz.ntmps23
  go_wp2_with fail
  rw [HW.out]
  obtain ⟨zc0, zc1, zc2, zc3, zc4, zc5, zc6, zc7, zc8, zc9, zc10, zc11, zc12, zc13, zc14, zc15⟩ := kC.out _ HB_0
  clear zc0 zc1 zc2 zc3 zc4 zc5 zc6 zc7 zc8 zc9 zc10 zc11 zc12 zc13 zc14 zc15
  have hBx1 := Lib.hid (show ∀ u u2 : World, Hid (Below w0.heap.size w0 u) → Below u.heap.size u u2 → Hid (Below w0.heap.size w0 u2) from fun u u2 h1 h2 => Lib.hid (below_ext h1.out h2))
  have hS1 := Lib.hid (show ∀ u : World, Hid (Below w0.heap.size w0 u) → (u.cell? ⟨w.heap.size, 0, none⟩ = some (.int .i64 P) ∧ u.cell? ⟨w.heap.size, 1, none⟩ = some (.int .i64 Q) ∧ u.cell? ⟨w.heap.size, 2, none⟩ = some (.int .i64 G) ∧ u.cell? ⟨w.heap.size + 1, 0, none⟩ = some (.int .i64 need) ∧ u.cell? ⟨w.heap.size + 1, 1, none⟩ = some (.slice Cs cn cc) ∧ u.cell? ⟨w.heap.size + 1, 2, none⟩ = some (.slice Ks kn kc) ∧ u.cell? ⟨w.heap.size + 2, 0, none⟩ = some (.int .i64 E1) ∧ u.cell? ⟨w.heap.size + 2, 1, none⟩ = some (.int .i64 E2) ∧ u.cell? ⟨w.heap.size + 2, 2, none⟩ = some (.slice A na ca) ∧ u.cell? ⟨w.heap.size + 2, 3, none⟩ = some (.int .i64 C) ∧ u.cell? ⟨w.heap.size + 2, 4, none⟩ = some (.slice Z nz cz) ∧ u.cell? ⟨w.heap.size + 3, 0, none⟩ = some (.int .i64 ix) ∧ u.cell? ⟨w.heap.size + 3, 1, none⟩ = some (.int .i64 v) ∧ u.cell? ⟨w.heap.size + 3, 2, none⟩ = some (.slice pA pna pca) ∧ u.cell? ⟨w.heap.size + 3, 3, none⟩ = some (.int .i64 pC) ∧ u.cell? ⟨w.heap.size + 3, 4, none⟩ = some (.slice pZ pnz pcz) ∧ Hid (Below w0.heap.size w0 u)) from fun u h1 => by
    obtain ⟨y0, y1, y2, y3, y4, y5, y6, y7, y8, y9, y10, y11, y12, y13, y14, y15⟩ := kC.out _ (Lib.hid h1.out)
    exact ⟨y0, y1, y2, y3, y4, y5, y6, y7, y8, y9, y10, y11, y12, y13, y14, y15, h1⟩)
  have HBA1 : Hid (Below w0.heap.size w0 w0) := Lib.hid HB_0.out
  refine wp_region_T (S := fun w' => w'.cell? ⟨w.heap.size, 0, none⟩ = some (.int .i64 P) ∧ w'.cell? ⟨w.heap.size, 1, none⟩ = some (.int .i64 Q) ∧ w'.cell? ⟨w.heap.size, 2, none⟩ = some (.int .i64 G) ∧ w'.cell? ⟨w.heap.size + 1, 0, none⟩ = some (.int .i64 need) ∧ w'.cell? ⟨w.heap.size + 1, 1, none⟩ = some (.slice Cs cn cc) ∧ w'.cell? ⟨w.heap.size + 1, 2, none⟩ = some (.slice Ks kn kc) ∧ w'.cell? ⟨w.heap.size + 2, 0, none⟩ = some (.int .i64 E1) ∧ w'.cell? ⟨w.heap.size + 2, 1, none⟩ = some (.int .i64 E2) ∧ w'.cell? ⟨w.heap.size + 2, 2, none⟩ = some (.slice A na ca) ∧ w'.cell? ⟨w.heap.size + 2, 3, none⟩ = some (.int .i64 C) ∧ w'.cell? ⟨w.heap.size + 2, 4, none⟩ = some (.slice Z nz cz) ∧ w'.cell? ⟨w.heap.size + 3, 0, none⟩ = some (.int .i64 ix) ∧ w'.cell? ⟨w.heap.size + 3, 1, none⟩ = some (.int .i64 v) ∧ w'.cell? ⟨w.heap.size + 3, 2, none⟩ = some (.slice pA pna pca) ∧ w'.cell? ⟨w.heap.size + 3, 3, none⟩ = some (.int .i64 pC) ∧ w'.cell? ⟨w.heap.size + 3, 4, none⟩ = some (.slice pZ pnz pcz) ∧ Hid (Below w0.heap.size w0 w')) (E := []) (by kernel_rfl) (hS1.out _ (hBx1.out _ _ HBA1 ((Below.refl _ _).drew))) (fun hHeld => ?_)
  refine tkV 0 ?_
  try simp only [qq1, qq2, qq3, Act.put, qq4, qq5, qq6]
  refine tkV 1 ?_
  try simp only [qq1, qq2, qq3, Act.put, qq4, qq5, qq6]
  refine wpT_one (i := 2) (by kernel_rfl) rfl (fun K hK => ?_)
  go_simp
  refine (trv_any P Q G need Cs cs cn cc Ks ks kn kc hcn hkn true ht hQ _ (kV.out _ (Lib.hid (hHeld.2.2.2.2.2.2.2.2.2.2.2.2.2.2.2.2).out)) (kCs.out _ (Lib.hid (hHeld.2.2.2.2.2.2.2.2.2.2.2.2.2.2.2.2).out)) (kKs.out _ (Lib.hid (hHeld.2.2.2.2.2.2.2.2.2.2.2.2.2.2.2.2).out))).mono ?_
  rintro e wA ⟨rfl, hbA⟩
  refine hK.out _ _ ?_ (fun hHeld => ?_)
  · exact hS1.out _ (hBx1.out _ _ hHeld.2.2.2.2.2.2.2.2.2.2.2.2.2.2.2.2 hbA)
  clear hK K
  try simp only [qq1, qq2, qq3, Act.put, qq4, qq5, qq6]
  refine tkV 3 ?_
  try simp only [qq1, qq2, qq3, Act.put, qq4, qq5, qq6]
  refine tkV 4 ?_
  try simp only [qq1, qq2, qq3, Act.put, qq4, qq5, qq6]
  refine tkV 5 ?_
  try simp only [qq1, qq2, qq3, Act.put, qq4, qq5, qq6]
  refine tkV 6 ?_
  try simp only [qq1, qq2, qq3, Act.put, qq4, qq5, qq6]
  refine wpT_one (i := 7) (by kernel_rfl) rfl (fun K hK => ?_)
  go_simp
  refine (member_any need Cs cn cc Ks kn kc ix false hm _).mono ?_
  rintro e wA ⟨rfl, hbA⟩
  refine hK.out _ _ ?_ (fun hHeld => ?_)
  · exact hS1.out _ (hBx1.out _ _ hHeld.2.2.2.2.2.2.2.2.2.2.2.2.2.2.2.2 hbA)
  clear hK K
  try simp only [qq1, qq2, qq3, Act.put, qq4, qq5, qq6]
  refine tkV 8 ?_
  try simp only [qq1, qq2, qq3, Act.put, qq4, qq5, qq6]
  refine tkV 9 ?_
  try simp only [qq1, qq2, qq3, Act.put, qq4, qq5, qq6]
  refine tkU 10 ?_
  try simp only [qq1, qq2, qq3, Act.put, qq4, qq5, qq6]
  refine tkU 11 ?_
  try simp only [qq1, qq2, qq3, Act.put, qq4, qq5, qq6]
  refine tkU 12 ?_
  try simp only [qq1, qq2, qq3, Act.put, qq4, qq5, qq6]
  refine tkU 13 ?_
  try simp only [qq1, qq2, qq3, Act.put, qq4, qq5, qq6]
  refine tkU 14 ?_
  try simp only [qq1, qq2, qq3, Act.put, qq4, qq5, qq6]
  refine tkU 15 ?_
  try simp only [qq1, qq2, qq3, Act.put, qq4, qq5, qq6]
  refine tkU 16 ?_
  try simp only [qq1, qq2, qq3, Act.put, qq4, qq5, qq6]
  refine tkU 17 ?_
  try simp only [qq1, qq2, qq3, Act.put, qq4, qq5, qq6]
  refine tkU 18 ?_
  try simp only [qq1, qq2, qq3, Act.put, qq4, qq5, qq6]
  refine tkU 19 ?_
  try simp only [qq1, qq2, qq3, Act.put, qq4, qq5, qq6]
  refine tkU 20 ?_
  try simp only [qq1, qq2, qq3, Act.put, qq4, qq5, qq6]
  refine tkU 21 ?_
  try simp only [qq1, qq2, qq3, Act.put, qq4, qq5, qq6]
  refine tkU 22 ?_
  try simp only [qq1, qq2, qq3, Act.put, qq4, qq5, qq6]
  refine tkU 23 ?_
  try simp only [qq1, qq2, qq3, Act.put, qq4, qq5, qq6]
  refine tkU 24 ?_
  try simp only [qq1, qq2, qq3, Act.put, qq4, qq5, qq6]
  refine tkU 25 ?_
  try simp only [qq1, qq2, qq3, Act.put, qq4, qq5, qq6]
  refine tkU 26 ?_
  try simp only [qq1, qq2, qq3, Act.put, qq4, qq5, qq6]
  refine tkU 27 ?_
  try simp only [qq1, qq2, qq3, Act.put, qq4, qq5, qq6]
  refine tkV 28 ?_
  try simp only [qq1, qq2, qq3, Act.put, qq4, qq5, qq6]
  refine tkV 29 ?_
  try simp only [qq1, qq2, qq3, Act.put, qq4, qq5, qq6]
  refine wpT_done (by kernel_rfl) ?_ _
  obtain ⟨x0, x1, x2, x3, x4, x5, x6, x7, x8, x9, x10, x11, x12, x13, x14, x15, FB1⟩ := hHeld
  clear x0 x1 x2 x3 x4 x5 x6 x7 x8 x9 x10 x11 x12 x13 x14 x15 hS1 hBx1 HBA1
  have HL1_w0 := Lib.hid FB1.out
  obtain ⟨zc0, zc1, zc2, zc3, zc4, zc5, zc6, zc7, zc8, zc9, zc10, zc11, zc12, zc13, zc14, zc15⟩ := kC.out _ HL1_w0
  have hbF := below_ext HBw.out HL1_w0.out
  go_wp2
  go_ret
  exact ⟨rfl, hbF⟩
set_option maxRecDepth 100000 in
theorem stz10 (P : Int) (Q : Int) (G : Int) (need : Int) (Cs : Option Addr) (cn : Nat) (cc : Nat) (bK : Nat) (oK : Nat) (kn : Nat) (kc : Nat) (E1 : Int) (E2 : Int) (A : Option Addr) (na : Nat) (ca : Nat) (C : Int) (Z : Option Addr) (nz : Nat) (cz : Nat) (j : Nat) (v : Int) (pA : Option Addr) (pna : Nat) (pca : Nat) (pC : Int) (pZ : Option Addr) (pnz : Nat) (pcz : Nat) (w : World) : ∃ w0, Hid (((((w.alloc (gObj P Q G)).alloc (trO need Cs cn cc (some ⟨bK, oK, none⟩) kn kc)).alloc (esO E1 E2 A na ca C Z nz cz)).alloc (paO ((j : Int) + 1) v pA pna pca pC pZ pnz pcz)) = w0) ∧ Hid (Below w.heap.size w w0) ∧ Hid (∀ u : World, Hid (Below w0.heap.size w0 u) → u.cell? ⟨w.heap.size, 0, none⟩ = some (.int .i64 P) ∧ u.cell? ⟨w.heap.size, 1, none⟩ = some (.int .i64 Q) ∧ u.cell? ⟨w.heap.size, 2, none⟩ = some (.int .i64 G) ∧ u.cell? ⟨w.heap.size + 1, 0, none⟩ = some (.int .i64 need) ∧ u.cell? ⟨w.heap.size + 1, 1, none⟩ = some (.slice Cs cn cc) ∧ u.cell? ⟨w.heap.size + 1, 2, none⟩ = some (.slice (some ⟨bK, oK, none⟩) kn kc) ∧ u.cell? ⟨w.heap.size + 2, 0, none⟩ = some (.int .i64 E1) ∧ u.cell? ⟨w.heap.size + 2, 1, none⟩ = some (.int .i64 E2) ∧ u.cell? ⟨w.heap.size + 2, 2, none⟩ = some (.slice A na ca) ∧ u.cell? ⟨w.heap.size + 2, 3, none⟩ = some (.int .i64 C) ∧ u.cell? ⟨w.heap.size + 2, 4, none⟩ = some (.slice Z nz cz) ∧ u.cell? ⟨w.heap.size + 3, 0, none⟩ = some (.int .i64 ((j : Int) + 1)) ∧ u.cell? ⟨w.heap.size + 3, 1, none⟩ = some (.int .i64 v) ∧ u.cell? ⟨w.heap.size + 3, 2, none⟩ = some (.slice pA pna pca) ∧ u.cell? ⟨w.heap.size + 3, 3, none⟩ = some (.int .i64 pC) ∧ u.cell? ⟨w.heap.size + 3, 4, none⟩ = some (.slice pZ pnz pcz)) := by
  obtain ⟨w0, hW⟩ : ∃ W, ((((w.alloc (gObj P Q G)).alloc (trO need Cs cn cc (some ⟨bK, oK, none⟩) kn kc)).alloc (esO E1 E2 A na ca C Z nz cz)).alloc (paO ((j : Int) + 1) v pA pna pca pC pZ pnz pcz)) = W := ⟨_, rfl⟩
  have HBw : Hid (Below w.heap.size w w0) := Lib.hid (by rw [← hW]; exact below_ext (below_ext (below_ext (below_box0 _ _) (below_box0 _ _)) (below_box0 _ _)) (below_box0 _ _))
  have hc : w0.cell? ⟨w.heap.size, 0, none⟩ = some (.int .i64 P) ∧ w0.cell? ⟨w.heap.size, 1, none⟩ = some (.int .i64 Q) ∧ w0.cell? ⟨w.heap.size, 2, none⟩ = some (.int .i64 G) ∧ w0.cell? ⟨w.heap.size + 1, 0, none⟩ = some (.int .i64 need) ∧ w0.cell? ⟨w.heap.size + 1, 1, none⟩ = some (.slice Cs cn cc) ∧ w0.cell? ⟨w.heap.size + 1, 2, none⟩ = some (.slice (some ⟨bK, oK, none⟩) kn kc) ∧ w0.cell? ⟨w.heap.size + 2, 0, none⟩ = some (.int .i64 E1) ∧ w0.cell? ⟨w.heap.size + 2, 1, none⟩ = some (.int .i64 E2) ∧ w0.cell? ⟨w.heap.size + 2, 2, none⟩ = some (.slice A na ca) ∧ w0.cell? ⟨w.heap.size + 2, 3, none⟩ = some (.int .i64 C) ∧ w0.cell? ⟨w.heap.size + 2, 4, none⟩ = some (.slice Z nz cz) ∧ w0.cell? ⟨w.heap.size + 3, 0, none⟩ = some (.int .i64 ((j : Int) + 1)) ∧ w0.cell? ⟨w.heap.size + 3, 1, none⟩ = some (.int .i64 v) ∧ w0.cell? ⟨w.heap.size + 3, 2, none⟩ = some (.slice pA pna pca) ∧ w0.cell? ⟨w.heap.size + 3, 3, none⟩ = some (.int .i64 pC) ∧ w0.cell? ⟨w.heap.size + 3, 4, none⟩ = some (.slice pZ pnz pcz) := by rw [← hW]; exact ⟨cell_below (cell_below (cell_below (allocs_cell (by simp) (by rfl)) (below_box0 _ _)) (below_box0 _ _)) (below_box0 _ _), cell_below (cell_below (cell_below (allocs_cell (by simp) (by rfl)) (below_box0 _ _)) (below_box0 _ _)) (below_box0 _ _), cell_below (cell_below (cell_below (allocs_cell (by simp) (by rfl)) (below_box0 _ _)) (below_box0 _ _)) (below_box0 _ _), cell_below (cell_below (allocs_cell (by simp) (by rfl)) (below_box0 _ _)) (below_box0 _ _), cell_below (cell_below (allocs_cell (by simp) (by rfl)) (below_box0 _ _)) (below_box0 _ _), cell_below (cell_below (allocs_cell (by simp) (by rfl)) (below_box0 _ _)) (below_box0 _ _), cell_below (allocs_cell (by simp) (by rfl)) (below_box0 _ _), cell_below (allocs_cell (by simp) (by rfl)) (below_box0 _ _), cell_below (allocs_cell (by simp) (by rfl)) (below_box0 _ _), cell_below (allocs_cell (by simp) (by rfl)) (below_box0 _ _), cell_below (allocs_cell (by simp) (by rfl)) (below_box0 _ _), allocs_cell (by simp) (by rfl), allocs_cell (by simp) (by rfl), allocs_cell (by simp) (by rfl), allocs_cell (by simp) (by rfl), allocs_cell (by simp) (by rfl)⟩
  have kC := Lib.hid (show ∀ u : World, Hid (Below w0.heap.size w0 u) → u.cell? ⟨w.heap.size, 0, none⟩ = some (.int .i64 P) ∧ u.cell? ⟨w.heap.size, 1, none⟩ = some (.int .i64 Q) ∧ u.cell? ⟨w.heap.size, 2, none⟩ = some (.int .i64 G) ∧ u.cell? ⟨w.heap.size + 1, 0, none⟩ = some (.int .i64 need) ∧ u.cell? ⟨w.heap.size + 1, 1, none⟩ = some (.slice Cs cn cc) ∧ u.cell? ⟨w.heap.size + 1, 2, none⟩ = some (.slice (some ⟨bK, oK, none⟩) kn kc) ∧ u.cell? ⟨w.heap.size + 2, 0, none⟩ = some (.int .i64 E1) ∧ u.cell? ⟨w.heap.size + 2, 1, none⟩ = some (.int .i64 E2) ∧ u.cell? ⟨w.heap.size + 2, 2, none⟩ = some (.slice A na ca) ∧ u.cell? ⟨w.heap.size + 2, 3, none⟩ = some (.int .i64 C) ∧ u.cell? ⟨w.heap.size + 2, 4, none⟩ = some (.slice Z nz cz) ∧ u.cell? ⟨w.heap.size + 3, 0, none⟩ = some (.int .i64 ((j : Int) + 1)) ∧ u.cell? ⟨w.heap.size + 3, 1, none⟩ = some (.int .i64 v) ∧ u.cell? ⟨w.heap.size + 3, 2, none⟩ = some (.slice pA pna pca) ∧ u.cell? ⟨w.heap.size + 3, 3, none⟩ = some (.int .i64 pC) ∧ u.cell? ⟨w.heap.size + 3, 4, none⟩ = some (.slice pZ pnz pcz) from fun u h => ⟨cell_below hc.1 h.out, cell_below hc.2.1 h.out, cell_below hc.2.2.1 h.out, cell_below hc.2.2.2.1 h.out, cell_below hc.2.2.2.2.1 h.out, cell_below hc.2.2.2.2.2.1 h.out, cell_below hc.2.2.2.2.2.2.1 h.out, cell_below hc.2.2.2.2.2.2.2.1 h.out, cell_below hc.2.2.2.2.2.2.2.2.1 h.out, cell_below hc.2.2.2.2.2.2.2.2.2.1 h.out, cell_below hc.2.2.2.2.2.2.2.2.2.2.1 h.out, cell_below hc.2.2.2.2.2.2.2.2.2.2.2.1 h.out, cell_below hc.2.2.2.2.2.2.2.2.2.2.2.2.1 h.out, cell_below hc.2.2.2.2.2.2.2.2.2.2.2.2.2.1 h.out, cell_below hc.2.2.2.2.2.2.2.2.2.2.2.2.2.2.1 h.out, cell_below hc.2.2.2.2.2.2.2.2.2.2.2.2.2.2.2 h.out⟩)
  exact ⟨w0, Lib.hid hW, HBw, kC⟩
set_option maxHeartbeats 12800000 in
theorem tver_3 (P Q G need : Int) (Cs : Option Addr) (cs : List Int) (cn cc : Nat) (bK oK : Nat) (ks : List Int) (kn kc : Nat) (hcn : Hid (cs.length = cn)) (hkn : Hid (ks.length = kn)) (E1 E2 : Int) (A : Option Addr) (na ca : Nat) (C : Int) (Z : Option Addr) (nz cz : Nat) (j : Nat) (hjk : j < kn) (hkb : kn ≤ 8) (v : Int) (pA : Option Addr) (pal : List Int) (pna pca : Nat) (pC : Int) (pZ : Option Addr) (pzs : List Int) (pnz pcz : Nat) (han : Hid (pal.length = pna)) (hzn : Hid (pzs.length = pnz)) (hna : pna < 1000000) (hnz : pnz < 1000000) (s : ByteArray) (hs : s.size ≤ 1000) (ht : Hid (trB P Q G need cs ks = true)) (hm : Hid (memB kn ((j : Int) + 1) = true)) (kj : Int) (hKj : Hid (ks.getD j 0 = kj)) (r : Bool) (HV : Kp (eqVer P Q G G kj E1 v pC (bys s) pal pzs = r)) (hQ : Q < 9223372036854775808) (w : World) (hv : Hid (Vars w)) (hd0 : Hid (VarsD w)) (hC : Hid (Sl w Cs cs)) (hK : Hid (Sl w (some ⟨bK, oK, none⟩) ks)) (hpA : Hid (Sl w pA pal)) (hpZ : Hid (Sl w pZ pzs)) :
    Calls Tryz.prog 23 #[gv P Q G, trV need Cs cn cc (some ⟨bK, oK, none⟩) kn kc, esV E1 E2 A na ca C Z nz cz, .string s, paV ((j : Int) + 1) v pA pna pca pC pZ pnz pcz] w fun e' w' => e' = .returned (.bool r) ∧ Below w.heap.size w w' := by
  obtain ⟨dj, dj1, dj2, dj3, dj4⟩ := dj_facts hjk hkb
  have hjl : j < ks.length := by rw [hkn.out]; exact hjk
  obtain ⟨w0, HW, HBw, kC⟩ := stz10 P Q G need Cs cn cc bK oK kn kc E1 E2 A na ca C Z nz cz j v pA pna pca pC pZ pnz pcz w
  have kV := Lib.hid (show ∀ u : World, Hid (Below w0.heap.size w0 u) → Hid (Vars u) from fun u h => Lib.hid ((hv.out.below) (below_ext HBw.out h.out)))
  have kD := Lib.hid (show ∀ u : World, Hid (Below w0.heap.size w0 u) → Hid (VarsD u) from fun u h => Lib.hid ((hd0.out.below) (below_ext HBw.out h.out)))
  have kCs := Lib.hid (show ∀ u : World, Hid (Below w0.heap.size w0 u) → Hid (Sl u Cs cs) from fun u h => Lib.hid ((hC.out.below) (below_ext HBw.out h.out)))
  have kKs := Lib.hid (show ∀ u : World, Hid (Below w0.heap.size w0 u) → Hid (Sl u (some ⟨bK, oK, none⟩) ks) from fun u h => Lib.hid ((hK.out.below) (below_ext HBw.out h.out)))
  have kPA := Lib.hid (show ∀ u : World, Hid (Below w0.heap.size w0 u) → Hid (Sl u pA pal) from fun u h => Lib.hid ((hpA.out.below) (below_ext HBw.out h.out)))
  have kPZ := Lib.hid (show ∀ u : World, Hid (Below w0.heap.size w0 u) → Hid (Sl u pZ pzs) from fun u h => Lib.hid ((hpZ.out.below) (below_ext HBw.out h.out)))
  have HB_0 : Hid (Below w0.heap.size w0 w0) := Lib.hid (Below.refl _ _)
  clear hv hd0 hC hK hpA hpZ
  have kI := Lib.hid (show ∀ u : World, Hid (Below w0.heap.size w0 u) → u.cell? ⟨bK, oK + j, none⟩ = some (.int .i64 kj) from fun u h => by
    obtain ⟨b9, o9, hA, hi⟩ := (kKs.out u h).out j hjl
    cases hA
    rwa [hKj.out] at hi)
  go_enter Tryz.func23, Tryz.ntmps23
  go_wp2_with fail
  rw [HW.out]
  obtain ⟨zc0, zc1, zc2, zc3, zc4, zc5, zc6, zc7, zc8, zc9, zc10, zc11, zc12, zc13, zc14, zc15⟩ := kC.out _ HB_0
  have kI_0 := kI.out _ HB_0
  clear zc0 zc1 zc2 zc3 zc4 zc5 zc6 zc7 zc8 zc9 zc10 zc11 zc12 zc13 zc14 zc15 kI_0
  have hBx1 := Lib.hid (show ∀ u u2 : World, Hid (Below w0.heap.size w0 u) → Below u.heap.size u u2 → Hid (Below w0.heap.size w0 u2) from fun u u2 h1 h2 => Lib.hid (below_ext h1.out h2))
  have hS1 := Lib.hid (show ∀ u : World, Hid (Below w0.heap.size w0 u) → (u.cell? ⟨w.heap.size, 0, none⟩ = some (.int .i64 P) ∧ u.cell? ⟨w.heap.size, 1, none⟩ = some (.int .i64 Q) ∧ u.cell? ⟨w.heap.size, 2, none⟩ = some (.int .i64 G) ∧ u.cell? ⟨w.heap.size + 1, 0, none⟩ = some (.int .i64 need) ∧ u.cell? ⟨w.heap.size + 1, 1, none⟩ = some (.slice Cs cn cc) ∧ u.cell? ⟨w.heap.size + 1, 2, none⟩ = some (.slice (some ⟨bK, oK, none⟩) kn kc) ∧ u.cell? ⟨w.heap.size + 2, 0, none⟩ = some (.int .i64 E1) ∧ u.cell? ⟨w.heap.size + 2, 1, none⟩ = some (.int .i64 E2) ∧ u.cell? ⟨w.heap.size + 2, 2, none⟩ = some (.slice A na ca) ∧ u.cell? ⟨w.heap.size + 2, 3, none⟩ = some (.int .i64 C) ∧ u.cell? ⟨w.heap.size + 2, 4, none⟩ = some (.slice Z nz cz) ∧ u.cell? ⟨w.heap.size + 3, 0, none⟩ = some (.int .i64 ((j : Int) + 1)) ∧ u.cell? ⟨w.heap.size + 3, 1, none⟩ = some (.int .i64 v) ∧ u.cell? ⟨w.heap.size + 3, 2, none⟩ = some (.slice pA pna pca) ∧ u.cell? ⟨w.heap.size + 3, 3, none⟩ = some (.int .i64 pC) ∧ u.cell? ⟨w.heap.size + 3, 4, none⟩ = some (.slice pZ pnz pcz) ∧ u.cell? ⟨bK, oK + j, none⟩ = some (.int .i64 kj) ∧ Hid (Below w0.heap.size w0 u)) from fun u h1 => by
    obtain ⟨y0, y1, y2, y3, y4, y5, y6, y7, y8, y9, y10, y11, y12, y13, y14, y15⟩ := kC.out _ (Lib.hid h1.out)
    have kI_0 := kI.out _ (Lib.hid h1.out)
    exact ⟨y0, y1, y2, y3, y4, y5, y6, y7, y8, y9, y10, y11, y12, y13, y14, y15, kI_0, h1⟩)
  have HBA1 : Hid (Below w0.heap.size w0 w0) := Lib.hid HB_0.out
  refine wp_region_T (S := fun w' => w'.cell? ⟨w.heap.size, 0, none⟩ = some (.int .i64 P) ∧ w'.cell? ⟨w.heap.size, 1, none⟩ = some (.int .i64 Q) ∧ w'.cell? ⟨w.heap.size, 2, none⟩ = some (.int .i64 G) ∧ w'.cell? ⟨w.heap.size + 1, 0, none⟩ = some (.int .i64 need) ∧ w'.cell? ⟨w.heap.size + 1, 1, none⟩ = some (.slice Cs cn cc) ∧ w'.cell? ⟨w.heap.size + 1, 2, none⟩ = some (.slice (some ⟨bK, oK, none⟩) kn kc) ∧ w'.cell? ⟨w.heap.size + 2, 0, none⟩ = some (.int .i64 E1) ∧ w'.cell? ⟨w.heap.size + 2, 1, none⟩ = some (.int .i64 E2) ∧ w'.cell? ⟨w.heap.size + 2, 2, none⟩ = some (.slice A na ca) ∧ w'.cell? ⟨w.heap.size + 2, 3, none⟩ = some (.int .i64 C) ∧ w'.cell? ⟨w.heap.size + 2, 4, none⟩ = some (.slice Z nz cz) ∧ w'.cell? ⟨w.heap.size + 3, 0, none⟩ = some (.int .i64 ((j : Int) + 1)) ∧ w'.cell? ⟨w.heap.size + 3, 1, none⟩ = some (.int .i64 v) ∧ w'.cell? ⟨w.heap.size + 3, 2, none⟩ = some (.slice pA pna pca) ∧ w'.cell? ⟨w.heap.size + 3, 3, none⟩ = some (.int .i64 pC) ∧ w'.cell? ⟨w.heap.size + 3, 4, none⟩ = some (.slice pZ pnz pcz) ∧ w'.cell? ⟨bK, oK + j, none⟩ = some (.int .i64 kj) ∧ Hid (Below w0.heap.size w0 w')) (E := []) (by kernel_rfl) (hS1.out _ (hBx1.out _ _ HBA1 ((Below.refl _ _).drew))) (fun hHeld => ?_)
  refine tkV 0 ?_
  try simp only [qq1, qq2, qq3, Act.put, qq4, qq5, qq6]
  refine tkV 1 ?_
  try simp only [qq1, qq2, qq3, Act.put, qq4, qq5, qq6]
  refine wpT_one (i := 2) (by kernel_rfl) rfl (fun K hK => ?_)
  go_simp
  refine (trv_any P Q G need Cs cs cn cc (some ⟨bK, oK, none⟩) ks kn kc hcn hkn true ht hQ _ (kV.out _ (Lib.hid (hHeld.2.2.2.2.2.2.2.2.2.2.2.2.2.2.2.2.2).out)) (kCs.out _ (Lib.hid (hHeld.2.2.2.2.2.2.2.2.2.2.2.2.2.2.2.2.2).out)) (kKs.out _ (Lib.hid (hHeld.2.2.2.2.2.2.2.2.2.2.2.2.2.2.2.2.2).out))).mono ?_
  rintro e wA ⟨rfl, hbA⟩
  refine hK.out _ _ ?_ (fun hHeld => ?_)
  · exact hS1.out _ (hBx1.out _ _ hHeld.2.2.2.2.2.2.2.2.2.2.2.2.2.2.2.2.2 hbA)
  clear hK K
  try simp only [qq1, qq2, qq3, Act.put, qq4, qq5, qq6]
  refine tkV 3 ?_
  try simp only [qq1, qq2, qq3, Act.put, qq4, qq5, qq6]
  refine tkV 4 ?_
  try simp only [qq1, qq2, qq3, Act.put, qq4, qq5, qq6]
  refine tkV 5 ?_
  try simp only [qq1, qq2, qq3, Act.put, qq4, qq5, qq6]
  refine tkV 6 ?_
  try simp only [qq1, qq2, qq3, Act.put, qq4, qq5, qq6]
  refine wpT_one (i := 7) (by kernel_rfl) rfl (fun K hK => ?_)
  go_simp
  refine (member_any need Cs cn cc (some ⟨bK, oK, none⟩) kn kc ((j : Int) + 1) true hm _).mono ?_
  rintro e wA ⟨rfl, hbA⟩
  refine hK.out _ _ ?_ (fun hHeld => ?_)
  · exact hS1.out _ (hBx1.out _ _ hHeld.2.2.2.2.2.2.2.2.2.2.2.2.2.2.2.2.2 hbA)
  clear hK K
  try simp only [qq1, qq2, qq3, Act.put, qq4, qq5, qq6]
  refine tkV 8 ?_
  try simp only [qq1, qq2, qq3, Act.put, qq4, qq5, qq6]
  refine tkV 9 ?_
  try simp only [qq1, qq2, qq3, Act.put, qq4, qq5, qq6]
  refine tkV 10 ?_
  try simp only [qq1, qq2, qq3, Act.put, qq4, qq5, qq6]
  refine tkV 11 ?_
  try simp only [qq1, qq2, qq3, Act.put, qq4, qq5, qq6]
  refine tkV 12 ?_
  try simp only [qq1, qq2, qq3, Act.put, qq4, qq5, qq6]
  refine tkV 13 ?_
  try simp only [qq1, qq2, qq3, Act.put, qq4, qq5, qq6]
  refine tkV 14 ?_
  try simp only [qq1, qq2, qq3, Act.put, qq4, qq5, qq6]
  refine tkV 15 ?_
  try simp only [qq1, qq2, qq3, Act.put, qq4, qq5, qq6]
  refine tkV 16 ?_
  try simp only [qq1, qq2, qq3, Act.put, qq4, qq5, qq6]
  refine tkV 17 ?_
  try simp only [qq1, qq2, qq3, Act.put, qq4, qq5, qq6]
  refine tkV 18 ?_
  try simp only [qq1, qq2, qq3, Act.put, qq4, qq5, qq6]
  refine tkV 19 ?_
  try simp only [qq1, qq2, qq3, Act.put, qq4, qq5, qq6]
  refine tkV 20 ?_
  try simp only [qq1, qq2, qq3, Act.put, qq4, qq5, qq6]
  refine tkV 21 ?_
  try simp only [qq1, qq2, qq3, Act.put, qq4, qq5, qq6]
  refine tkV 22 ?_
  try simp only [qq1, qq2, qq3, Act.put, qq4, qq5, qq6]
  refine tkV 23 ?_
  try simp only [qq1, qq2, qq3, Act.put, qq4, qq5, qq6]
  refine tkV 24 ?_
  try simp only [qq1, qq2, qq3, Act.put, qq4, qq5, qq6]
  refine tkV 25 ?_
  try simp only [qq1, qq2, qq3, Act.put, qq4, qq5, qq6]
  refine tkV 26 ?_
  try simp only [qq1, qq2, qq3, Act.put, qq4, qq5, qq6]
  refine wpT_one (i := 27) (by kernel_rfl) rfl (fun K hK => ?_)
  go_simp
  refine (eqvr_any P Q G G kj E1 v pA pal pna pca pC pZ pzs pnz pcz han hzn hna hnz hQ s hs r HV _ (kV.out _ (Lib.hid (hHeld.2.2.2.2.2.2.2.2.2.2.2.2.2.2.2.2.2).out)) (kD.out _ (Lib.hid (hHeld.2.2.2.2.2.2.2.2.2.2.2.2.2.2.2.2.2).out)) (kPA.out _ (Lib.hid (hHeld.2.2.2.2.2.2.2.2.2.2.2.2.2.2.2.2.2).out)) (kPZ.out _ (Lib.hid (hHeld.2.2.2.2.2.2.2.2.2.2.2.2.2.2.2.2.2).out))).mono ?_
  rintro e wA ⟨rfl, hbA⟩
  refine hK.out _ _ ?_ (fun hHeld => ?_)
  · exact hS1.out _ (hBx1.out _ _ hHeld.2.2.2.2.2.2.2.2.2.2.2.2.2.2.2.2.2 hbA)
  clear hK K
  try simp only [qq1, qq2, qq3, Act.put, qq4, qq5, qq6]
  refine tkV 28 ?_
  try simp only [qq1, qq2, qq3, Act.put, qq4, qq5, qq6]
  refine tkV 29 ?_
  try simp only [qq1, qq2, qq3, Act.put, qq4, qq5, qq6]
  refine wpT_done (by kernel_rfl) ?_ _
  obtain ⟨x0, x1, x2, x3, x4, x5, x6, x7, x8, x9, x10, x11, x12, x13, x14, x15, x16, FB1⟩ := hHeld
  clear x0 x1 x2 x3 x4 x5 x6 x7 x8 x9 x10 x11 x12 x13 x14 x15 x16 hS1 hBx1 HBA1
  have HL1_w0 := Lib.hid FB1.out
  obtain ⟨zc0, zc1, zc2, zc3, zc4, zc5, zc6, zc7, zc8, zc9, zc10, zc11, zc12, zc13, zc14, zc15⟩ := kC.out _ HL1_w0
  have kI_0 := kI.out _ HL1_w0
  have hbF := below_ext HBw.out HL1_w0.out
  go_wp2
  go_ret
  exact ⟨rfl, hbF⟩
theorem tver_any (P Q G need : Int) (Cs : Option Addr) (cs : List Int) (cn cc : Nat) (Ks : Option Addr) (ks : List Int) (kn kc : Nat) (hcn : Hid (cs.length = cn)) (hkn : Hid (ks.length = kn)) (E1 E2 : Int) (A : Option Addr) (na ca : Nat) (C : Int) (Z : Option Addr) (nz cz : Nat) (ix : Int) (v : Int) (pA : Option Addr) (pal : List Int) (pna pca : Nat) (pC : Int) (pZ : Option Addr) (pzs : List Int) (pnz pcz : Nat) (han : Hid (pal.length = pna)) (hzn : Hid (pzs.length = pnz)) (hna : pna < 1000000) (hnz : pnz < 1000000) (s : ByteArray) (hs : s.size ≤ 1000) (r : Bool) (hr : Kp (tvrB P Q G need cs ks E1 ix v pC (bys s) pal pzs = r)) (hQ : Q < 9223372036854775808) (w : World) (hv : Hid (Vars w)) (hd0 : Hid (VarsD w)) (hC : Hid (Sl w Cs cs)) (hK : Hid (Sl w Ks ks)) (hpA : Hid (Sl w pA pal)) (hpZ : Hid (Sl w pZ pzs)) :
    Calls Tryz.prog 23 #[gv P Q G, trV need Cs cn cc Ks kn kc, esV E1 E2 A na ca C Z nz cz, .string s, paV ix v pA pna pca pC pZ pnz pcz] w fun e' w' => e' = .returned (.bool r) ∧ Below w.heap.size w w' := by
  have hr1 := hr.1
  unfold tvrB at hr1
  rw [hkn.out] at hr1
  cases h1 : trB P Q G need cs ks with
  | false =>
    obtain rfl : r = false := by rw [← hr1, h1]; rfl
    exact tver_1 P Q G need Cs cs cn cc Ks ks kn kc hcn hkn E1 E2 A na ca C Z nz cz ix v pA pal pna pca pC pZ pzs pnz pcz han hzn hna hnz s hs (Lib.hid h1) hQ w hv hd0 hC hK hpA hpZ
  | true =>
    cases h2 : memB kn ix with
    | false =>
      obtain rfl : r = false := by rw [← hr1, h1, h2]; rfl
      exact tver_2 P Q G need Cs cs cn cc Ks ks kn kc hcn hkn E1 E2 A na ca C Z nz cz ix v pA pal pna pca pC pZ pzs pnz pcz han hzn hna hnz s hs (Lib.hid h1) (Lib.hid h2) hQ w hv hd0 hC hK hpA hpZ
    | true =>
      obtain ⟨HVG, n1, n2, n3, n4, n5, n6⟩ := trB_parts h1 hcn.out hkn.out
      obtain ⟨j, hjk, rfl⟩ := memB_parts h2
      obtain ⟨bK, oK, rfl⟩ := sl_some hK.out (by rw [hkn.out]; omega)
      rw [h1, h2, show ((j : Int) + 1 - 1).toNat = j by omega] at hr1
      exact tver_3 P Q G need Cs cs cn cc bK oK ks kn kc hcn hkn E1 E2 A na ca C Z nz cz j hjk n2 v pA pal pna pca pC pZ pzs pnz pcz han hzn hna hnz s hs (Lib.hid h1) (Lib.hid h2) _ (Lib.hid rfl) r ⟨by rw [← hr1]; rfl⟩ hQ w hv hd0 hC hK hpA hpZ
set_option maxHeartbeats 6400000 in
theorem rtver_1 (P Q G need : Int) (Cs : Option Addr) (cs : List Int) (cn cc : Nat) (Ks : Option Addr) (ks : List Int) (kn kc : Nat) (hcn : Hid (cs.length = cn)) (hkn : Hid (ks.length = kn)) (E1 E2 : Int) (A : Option Addr) (na ca : Nat) (C : Int) (Z : Option Addr) (nz cz : Nat) (ix : Int) (v : Int) (pA : Option Addr) (pal : List Int) (pna pca : Nat) (pC : Int) (pZ : Option Addr) (pzs : List Int) (pnz pcz : Nat) (han : Hid (pal.length = pna)) (hzn : Hid (pzs.length = pnz)) (hna : pna < 1000000) (hnz : pnz < 1000000) (s : ByteArray) (hs : s.size ≤ 1000) (ht : Hid (trB P Q G need cs ks = false)) (hQ : Q < 9223372036854775808) (w : World) (hC : Hid (Sl w Cs cs)) (hK : Hid (Sl w Ks ks)) (hpA : Hid (Sl w pA pal)) (hpZ : Hid (Sl w pZ pzs)) :
    Calls Tryz.prog 25 #[gv P Q G, trV need Cs cn cc Ks kn kc, esV E1 E2 A na ca C Z nz cz, .string s, paV ix v pA pna pca pC pZ pnz pcz] w fun e' w' => e' = .returned (.bool false) ∧ Below w.heap.size w w' := by
  obtain ⟨w0, HW, HBw, kC⟩ := stz9 P Q G need Cs cn cc Ks kn kc E1 E2 A na ca C Z nz cz ix v pA pna pca pC pZ pnz pcz w
  have kCs := Lib.hid (show ∀ u : World, Hid (Below w0.heap.size w0 u) → Hid (Sl u Cs cs) from fun u h => Lib.hid ((hC.out.below) (below_ext HBw.out h.out)))
  have kKs := Lib.hid (show ∀ u : World, Hid (Below w0.heap.size w0 u) → Hid (Sl u Ks ks) from fun u h => Lib.hid ((hK.out.below) (below_ext HBw.out h.out)))
  have kPA := Lib.hid (show ∀ u : World, Hid (Below w0.heap.size w0 u) → Hid (Sl u pA pal) from fun u h => Lib.hid ((hpA.out.below) (below_ext HBw.out h.out)))
  have kPZ := Lib.hid (show ∀ u : World, Hid (Below w0.heap.size w0 u) → Hid (Sl u pZ pzs) from fun u h => Lib.hid ((hpZ.out.below) (below_ext HBw.out h.out)))
  have HB_0 : Hid (Below w0.heap.size w0 w0) := Lib.hid (Below.refl _ _)
  clear hC hK hpA hpZ
  go_enter Tryz.func25, Tryz.ntmps25
  go_wp2_with fail
  rw [HW.out]
  obtain ⟨zc0, zc1, zc2, zc3, zc4, zc5, zc6, zc7, zc8, zc9, zc10, zc11, zc12, zc13, zc14, zc15⟩ := kC.out _ HB_0
  clear zc0 zc1 zc2 zc3 zc4 zc5 zc6 zc7 zc8 zc9 zc10 zc11 zc12 zc13 zc14 zc15
  have hBx1 := Lib.hid (show ∀ u u2 : World, Hid (Below w0.heap.size w0 u) → Below u.heap.size u u2 → Hid (Below w0.heap.size w0 u2) from fun u u2 h1 h2 => Lib.hid (below_ext h1.out h2))
  have hS1 := Lib.hid (show ∀ u : World, Hid (Below w0.heap.size w0 u) → (u.cell? ⟨w.heap.size, 0, none⟩ = some (.int .i64 P) ∧ u.cell? ⟨w.heap.size, 1, none⟩ = some (.int .i64 Q) ∧ u.cell? ⟨w.heap.size, 2, none⟩ = some (.int .i64 G) ∧ u.cell? ⟨w.heap.size + 1, 0, none⟩ = some (.int .i64 need) ∧ u.cell? ⟨w.heap.size + 1, 1, none⟩ = some (.slice Cs cn cc) ∧ u.cell? ⟨w.heap.size + 1, 2, none⟩ = some (.slice Ks kn kc) ∧ u.cell? ⟨w.heap.size + 2, 0, none⟩ = some (.int .i64 E1) ∧ u.cell? ⟨w.heap.size + 2, 1, none⟩ = some (.int .i64 E2) ∧ u.cell? ⟨w.heap.size + 2, 2, none⟩ = some (.slice A na ca) ∧ u.cell? ⟨w.heap.size + 2, 3, none⟩ = some (.int .i64 C) ∧ u.cell? ⟨w.heap.size + 2, 4, none⟩ = some (.slice Z nz cz) ∧ u.cell? ⟨w.heap.size + 3, 0, none⟩ = some (.int .i64 ix) ∧ u.cell? ⟨w.heap.size + 3, 1, none⟩ = some (.int .i64 v) ∧ u.cell? ⟨w.heap.size + 3, 2, none⟩ = some (.slice pA pna pca) ∧ u.cell? ⟨w.heap.size + 3, 3, none⟩ = some (.int .i64 pC) ∧ u.cell? ⟨w.heap.size + 3, 4, none⟩ = some (.slice pZ pnz pcz) ∧ Hid (Below w0.heap.size w0 u)) from fun u h1 => by
    obtain ⟨y0, y1, y2, y3, y4, y5, y6, y7, y8, y9, y10, y11, y12, y13, y14, y15⟩ := kC.out _ (Lib.hid h1.out)
    exact ⟨y0, y1, y2, y3, y4, y5, y6, y7, y8, y9, y10, y11, y12, y13, y14, y15, h1⟩)
  have HBA1 : Hid (Below w0.heap.size w0 w0) := Lib.hid HB_0.out
  refine wp_region_T (S := fun w' => w'.cell? ⟨w.heap.size, 0, none⟩ = some (.int .i64 P) ∧ w'.cell? ⟨w.heap.size, 1, none⟩ = some (.int .i64 Q) ∧ w'.cell? ⟨w.heap.size, 2, none⟩ = some (.int .i64 G) ∧ w'.cell? ⟨w.heap.size + 1, 0, none⟩ = some (.int .i64 need) ∧ w'.cell? ⟨w.heap.size + 1, 1, none⟩ = some (.slice Cs cn cc) ∧ w'.cell? ⟨w.heap.size + 1, 2, none⟩ = some (.slice Ks kn kc) ∧ w'.cell? ⟨w.heap.size + 2, 0, none⟩ = some (.int .i64 E1) ∧ w'.cell? ⟨w.heap.size + 2, 1, none⟩ = some (.int .i64 E2) ∧ w'.cell? ⟨w.heap.size + 2, 2, none⟩ = some (.slice A na ca) ∧ w'.cell? ⟨w.heap.size + 2, 3, none⟩ = some (.int .i64 C) ∧ w'.cell? ⟨w.heap.size + 2, 4, none⟩ = some (.slice Z nz cz) ∧ w'.cell? ⟨w.heap.size + 3, 0, none⟩ = some (.int .i64 ix) ∧ w'.cell? ⟨w.heap.size + 3, 1, none⟩ = some (.int .i64 v) ∧ w'.cell? ⟨w.heap.size + 3, 2, none⟩ = some (.slice pA pna pca) ∧ w'.cell? ⟨w.heap.size + 3, 3, none⟩ = some (.int .i64 pC) ∧ w'.cell? ⟨w.heap.size + 3, 4, none⟩ = some (.slice pZ pnz pcz) ∧ Hid (Below w0.heap.size w0 w')) (E := []) (by kernel_rfl) (hS1.out _ (hBx1.out _ _ HBA1 ((Below.refl _ _).drew))) (fun hHeld => ?_)
  refine tkV 0 ?_
  try simp only [qq1, qq2, qq3, Act.put, qq4, qq5, qq6]
  refine tkV 1 ?_
  try simp only [qq1, qq2, qq3, Act.put, qq4, qq5, qq6]
  refine wpT_one (i := 2) (by kernel_rfl) rfl (fun K hK => ?_)
  go_simp
  refine (rtrv_any P Q G need Cs cs cn cc Ks ks kn kc hcn hkn false ht hQ _ (kCs.out _ (Lib.hid (hHeld.2.2.2.2.2.2.2.2.2.2.2.2.2.2.2.2).out)) (kKs.out _ (Lib.hid (hHeld.2.2.2.2.2.2.2.2.2.2.2.2.2.2.2.2).out))).mono ?_
  rintro e wA ⟨rfl, hbA⟩
  refine hK.out _ _ ?_ (fun hHeld => ?_)
  · exact hS1.out _ (hBx1.out _ _ hHeld.2.2.2.2.2.2.2.2.2.2.2.2.2.2.2.2 hbA)
  clear hK K
  try simp only [qq1, qq2, qq3, Act.put, qq4, qq5, qq6]
  refine tkV 3 ?_
  try simp only [qq1, qq2, qq3, Act.put, qq4, qq5, qq6]
  refine tkV 4 ?_
  try simp only [qq1, qq2, qq3, Act.put, qq4, qq5, qq6]
  refine tkU 5 ?_
  try simp only [qq1, qq2, qq3, Act.put, qq4, qq5, qq6]
  refine tkU 6 ?_
  try simp only [qq1, qq2, qq3, Act.put, qq4, qq5, qq6]
  refine tkU 7 ?_
  try simp only [qq1, qq2, qq3, Act.put, qq4, qq5, qq6]
  refine tkU 8 ?_
  try simp only [qq1, qq2, qq3, Act.put, qq4, qq5, qq6]
  refine tkU 9 ?_
  try simp only [qq1, qq2, qq3, Act.put, qq4, qq5, qq6]
  refine tkV 10 ?_
  try simp only [qq1, qq2, qq3, Act.put, qq4, qq5, qq6]
  refine tkV 11 ?_
  try simp only [qq1, qq2, qq3, Act.put, qq4, qq5, qq6]
  refine tkU 12 ?_
  try simp only [qq1, qq2, qq3, Act.put, qq4, qq5, qq6]
  refine tkU 13 ?_
  try simp only [qq1, qq2, qq3, Act.put, qq4, qq5, qq6]
  refine tkU 14 ?_
  try simp only [qq1, qq2, qq3, Act.put, qq4, qq5, qq6]
  refine tkU 15 ?_
  try simp only [qq1, qq2, qq3, Act.put, qq4, qq5, qq6]
  refine tkU 16 ?_
  try simp only [qq1, qq2, qq3, Act.put, qq4, qq5, qq6]
  refine tkU 17 ?_
  try simp only [qq1, qq2, qq3, Act.put, qq4, qq5, qq6]
  refine tkU 18 ?_
  try simp only [qq1, qq2, qq3, Act.put, qq4, qq5, qq6]
  refine tkU 19 ?_
  try simp only [qq1, qq2, qq3, Act.put, qq4, qq5, qq6]
  refine tkU 20 ?_
  try simp only [qq1, qq2, qq3, Act.put, qq4, qq5, qq6]
  refine tkU 21 ?_
  try simp only [qq1, qq2, qq3, Act.put, qq4, qq5, qq6]
  refine tkU 22 ?_
  try simp only [qq1, qq2, qq3, Act.put, qq4, qq5, qq6]
  refine tkU 23 ?_
  try simp only [qq1, qq2, qq3, Act.put, qq4, qq5, qq6]
  refine tkU 24 ?_
  try simp only [qq1, qq2, qq3, Act.put, qq4, qq5, qq6]
  refine tkU 25 ?_
  try simp only [qq1, qq2, qq3, Act.put, qq4, qq5, qq6]
  refine tkU 26 ?_
  try simp only [qq1, qq2, qq3, Act.put, qq4, qq5, qq6]
  refine tkU 27 ?_
  try simp only [qq1, qq2, qq3, Act.put, qq4, qq5, qq6]
  refine tkV 28 ?_
  try simp only [qq1, qq2, qq3, Act.put, qq4, qq5, qq6]
  refine wpT_done (by kernel_rfl) ?_ _
  obtain ⟨x0, x1, x2, x3, x4, x5, x6, x7, x8, x9, x10, x11, x12, x13, x14, x15, FB1⟩ := hHeld
  clear x0 x1 x2 x3 x4 x5 x6 x7 x8 x9 x10 x11 x12 x13 x14 x15 hS1 hBx1 HBA1
  have HL1_w0 := Lib.hid FB1.out
  obtain ⟨zc0, zc1, zc2, zc3, zc4, zc5, zc6, zc7, zc8, zc9, zc10, zc11, zc12, zc13, zc14, zc15⟩ := kC.out _ HL1_w0
  have hbF := below_ext HBw.out HL1_w0.out
  go_wp2
  go_ret
  exact ⟨rfl, hbF⟩
set_option maxHeartbeats 6400000 in
theorem rtver_2 (P Q G need : Int) (Cs : Option Addr) (cs : List Int) (cn cc : Nat) (Ks : Option Addr) (ks : List Int) (kn kc : Nat) (hcn : Hid (cs.length = cn)) (hkn : Hid (ks.length = kn)) (E1 E2 : Int) (A : Option Addr) (na ca : Nat) (C : Int) (Z : Option Addr) (nz cz : Nat) (ix : Int) (v : Int) (pA : Option Addr) (pal : List Int) (pna pca : Nat) (pC : Int) (pZ : Option Addr) (pzs : List Int) (pnz pcz : Nat) (han : Hid (pal.length = pna)) (hzn : Hid (pzs.length = pnz)) (hna : pna < 1000000) (hnz : pnz < 1000000) (s : ByteArray) (hs : s.size ≤ 1000) (ht : Hid (trB P Q G need cs ks = true)) (hm : Hid (memB kn ix = false)) (hQ : Q < 9223372036854775808) (w : World) (hC : Hid (Sl w Cs cs)) (hK : Hid (Sl w Ks ks)) (hpA : Hid (Sl w pA pal)) (hpZ : Hid (Sl w pZ pzs)) :
    Calls Tryz.prog 25 #[gv P Q G, trV need Cs cn cc Ks kn kc, esV E1 E2 A na ca C Z nz cz, .string s, paV ix v pA pna pca pC pZ pnz pcz] w fun e' w' => e' = .returned (.bool false) ∧ Below w.heap.size w w' := by
  obtain ⟨w0, HW, HBw, kC⟩ := stz9 P Q G need Cs cn cc Ks kn kc E1 E2 A na ca C Z nz cz ix v pA pna pca pC pZ pnz pcz w
  have kCs := Lib.hid (show ∀ u : World, Hid (Below w0.heap.size w0 u) → Hid (Sl u Cs cs) from fun u h => Lib.hid ((hC.out.below) (below_ext HBw.out h.out)))
  have kKs := Lib.hid (show ∀ u : World, Hid (Below w0.heap.size w0 u) → Hid (Sl u Ks ks) from fun u h => Lib.hid ((hK.out.below) (below_ext HBw.out h.out)))
  have kPA := Lib.hid (show ∀ u : World, Hid (Below w0.heap.size w0 u) → Hid (Sl u pA pal) from fun u h => Lib.hid ((hpA.out.below) (below_ext HBw.out h.out)))
  have kPZ := Lib.hid (show ∀ u : World, Hid (Below w0.heap.size w0 u) → Hid (Sl u pZ pzs) from fun u h => Lib.hid ((hpZ.out.below) (below_ext HBw.out h.out)))
  have HB_0 : Hid (Below w0.heap.size w0 w0) := Lib.hid (Below.refl _ _)
  clear hC hK hpA hpZ
  go_enter Tryz.func25, Tryz.ntmps25
  go_wp2_with fail
  rw [HW.out]
  obtain ⟨zc0, zc1, zc2, zc3, zc4, zc5, zc6, zc7, zc8, zc9, zc10, zc11, zc12, zc13, zc14, zc15⟩ := kC.out _ HB_0
  clear zc0 zc1 zc2 zc3 zc4 zc5 zc6 zc7 zc8 zc9 zc10 zc11 zc12 zc13 zc14 zc15
  have hBx1 := Lib.hid (show ∀ u u2 : World, Hid (Below w0.heap.size w0 u) → Below u.heap.size u u2 → Hid (Below w0.heap.size w0 u2) from fun u u2 h1 h2 => Lib.hid (below_ext h1.out h2))
  have hS1 := Lib.hid (show ∀ u : World, Hid (Below w0.heap.size w0 u) → (u.cell? ⟨w.heap.size, 0, none⟩ = some (.int .i64 P) ∧ u.cell? ⟨w.heap.size, 1, none⟩ = some (.int .i64 Q) ∧ u.cell? ⟨w.heap.size, 2, none⟩ = some (.int .i64 G) ∧ u.cell? ⟨w.heap.size + 1, 0, none⟩ = some (.int .i64 need) ∧ u.cell? ⟨w.heap.size + 1, 1, none⟩ = some (.slice Cs cn cc) ∧ u.cell? ⟨w.heap.size + 1, 2, none⟩ = some (.slice Ks kn kc) ∧ u.cell? ⟨w.heap.size + 2, 0, none⟩ = some (.int .i64 E1) ∧ u.cell? ⟨w.heap.size + 2, 1, none⟩ = some (.int .i64 E2) ∧ u.cell? ⟨w.heap.size + 2, 2, none⟩ = some (.slice A na ca) ∧ u.cell? ⟨w.heap.size + 2, 3, none⟩ = some (.int .i64 C) ∧ u.cell? ⟨w.heap.size + 2, 4, none⟩ = some (.slice Z nz cz) ∧ u.cell? ⟨w.heap.size + 3, 0, none⟩ = some (.int .i64 ix) ∧ u.cell? ⟨w.heap.size + 3, 1, none⟩ = some (.int .i64 v) ∧ u.cell? ⟨w.heap.size + 3, 2, none⟩ = some (.slice pA pna pca) ∧ u.cell? ⟨w.heap.size + 3, 3, none⟩ = some (.int .i64 pC) ∧ u.cell? ⟨w.heap.size + 3, 4, none⟩ = some (.slice pZ pnz pcz) ∧ Hid (Below w0.heap.size w0 u)) from fun u h1 => by
    obtain ⟨y0, y1, y2, y3, y4, y5, y6, y7, y8, y9, y10, y11, y12, y13, y14, y15⟩ := kC.out _ (Lib.hid h1.out)
    exact ⟨y0, y1, y2, y3, y4, y5, y6, y7, y8, y9, y10, y11, y12, y13, y14, y15, h1⟩)
  have HBA1 : Hid (Below w0.heap.size w0 w0) := Lib.hid HB_0.out
  refine wp_region_T (S := fun w' => w'.cell? ⟨w.heap.size, 0, none⟩ = some (.int .i64 P) ∧ w'.cell? ⟨w.heap.size, 1, none⟩ = some (.int .i64 Q) ∧ w'.cell? ⟨w.heap.size, 2, none⟩ = some (.int .i64 G) ∧ w'.cell? ⟨w.heap.size + 1, 0, none⟩ = some (.int .i64 need) ∧ w'.cell? ⟨w.heap.size + 1, 1, none⟩ = some (.slice Cs cn cc) ∧ w'.cell? ⟨w.heap.size + 1, 2, none⟩ = some (.slice Ks kn kc) ∧ w'.cell? ⟨w.heap.size + 2, 0, none⟩ = some (.int .i64 E1) ∧ w'.cell? ⟨w.heap.size + 2, 1, none⟩ = some (.int .i64 E2) ∧ w'.cell? ⟨w.heap.size + 2, 2, none⟩ = some (.slice A na ca) ∧ w'.cell? ⟨w.heap.size + 2, 3, none⟩ = some (.int .i64 C) ∧ w'.cell? ⟨w.heap.size + 2, 4, none⟩ = some (.slice Z nz cz) ∧ w'.cell? ⟨w.heap.size + 3, 0, none⟩ = some (.int .i64 ix) ∧ w'.cell? ⟨w.heap.size + 3, 1, none⟩ = some (.int .i64 v) ∧ w'.cell? ⟨w.heap.size + 3, 2, none⟩ = some (.slice pA pna pca) ∧ w'.cell? ⟨w.heap.size + 3, 3, none⟩ = some (.int .i64 pC) ∧ w'.cell? ⟨w.heap.size + 3, 4, none⟩ = some (.slice pZ pnz pcz) ∧ Hid (Below w0.heap.size w0 w')) (E := []) (by kernel_rfl) (hS1.out _ (hBx1.out _ _ HBA1 ((Below.refl _ _).drew))) (fun hHeld => ?_)
  refine tkV 0 ?_
  try simp only [qq1, qq2, qq3, Act.put, qq4, qq5, qq6]
  refine tkV 1 ?_
  try simp only [qq1, qq2, qq3, Act.put, qq4, qq5, qq6]
  refine wpT_one (i := 2) (by kernel_rfl) rfl (fun K hK => ?_)
  go_simp
  refine (rtrv_any P Q G need Cs cs cn cc Ks ks kn kc hcn hkn true ht hQ _ (kCs.out _ (Lib.hid (hHeld.2.2.2.2.2.2.2.2.2.2.2.2.2.2.2.2).out)) (kKs.out _ (Lib.hid (hHeld.2.2.2.2.2.2.2.2.2.2.2.2.2.2.2.2).out))).mono ?_
  rintro e wA ⟨rfl, hbA⟩
  refine hK.out _ _ ?_ (fun hHeld => ?_)
  · exact hS1.out _ (hBx1.out _ _ hHeld.2.2.2.2.2.2.2.2.2.2.2.2.2.2.2.2 hbA)
  clear hK K
  try simp only [qq1, qq2, qq3, Act.put, qq4, qq5, qq6]
  refine tkV 3 ?_
  try simp only [qq1, qq2, qq3, Act.put, qq4, qq5, qq6]
  refine tkV 4 ?_
  try simp only [qq1, qq2, qq3, Act.put, qq4, qq5, qq6]
  refine tkV 5 ?_
  try simp only [qq1, qq2, qq3, Act.put, qq4, qq5, qq6]
  refine tkV 6 ?_
  try simp only [qq1, qq2, qq3, Act.put, qq4, qq5, qq6]
  refine tkV 7 ?_
  try simp only [qq1, qq2, qq3, Act.put, qq4, qq5, qq6]
  refine wpT_one (i := 8) (by kernel_rfl) rfl (fun K hK => ?_)
  go_simp
  refine (index50_any need Cs cn cc Ks kn kc ix false hm _).mono ?_
  rintro e wA ⟨rfl, hbA⟩
  refine hK.out _ _ ?_ (fun hHeld => ?_)
  · exact hS1.out _ (hBx1.out _ _ hHeld.2.2.2.2.2.2.2.2.2.2.2.2.2.2.2.2 hbA)
  clear hK K
  try simp only [qq1, qq2, qq3, Act.put, qq4, qq5, qq6]
  refine tkV 9 ?_
  try simp only [qq1, qq2, qq3, Act.put, qq4, qq5, qq6]
  refine tkV 10 ?_
  try simp only [qq1, qq2, qq3, Act.put, qq4, qq5, qq6]
  refine tkV 11 ?_
  try simp only [qq1, qq2, qq3, Act.put, qq4, qq5, qq6]
  refine tkU 12 ?_
  try simp only [qq1, qq2, qq3, Act.put, qq4, qq5, qq6]
  refine tkU 13 ?_
  try simp only [qq1, qq2, qq3, Act.put, qq4, qq5, qq6]
  refine tkU 14 ?_
  try simp only [qq1, qq2, qq3, Act.put, qq4, qq5, qq6]
  refine tkU 15 ?_
  try simp only [qq1, qq2, qq3, Act.put, qq4, qq5, qq6]
  refine tkU 16 ?_
  try simp only [qq1, qq2, qq3, Act.put, qq4, qq5, qq6]
  refine tkU 17 ?_
  try simp only [qq1, qq2, qq3, Act.put, qq4, qq5, qq6]
  refine tkU 18 ?_
  try simp only [qq1, qq2, qq3, Act.put, qq4, qq5, qq6]
  refine tkU 19 ?_
  try simp only [qq1, qq2, qq3, Act.put, qq4, qq5, qq6]
  refine tkU 20 ?_
  try simp only [qq1, qq2, qq3, Act.put, qq4, qq5, qq6]
  refine tkU 21 ?_
  try simp only [qq1, qq2, qq3, Act.put, qq4, qq5, qq6]
  refine tkU 22 ?_
  try simp only [qq1, qq2, qq3, Act.put, qq4, qq5, qq6]
  refine tkU 23 ?_
  try simp only [qq1, qq2, qq3, Act.put, qq4, qq5, qq6]
  refine tkU 24 ?_
  try simp only [qq1, qq2, qq3, Act.put, qq4, qq5, qq6]
  refine tkU 25 ?_
  try simp only [qq1, qq2, qq3, Act.put, qq4, qq5, qq6]
  refine tkU 26 ?_
  try simp only [qq1, qq2, qq3, Act.put, qq4, qq5, qq6]
  refine tkU 27 ?_
  try simp only [qq1, qq2, qq3, Act.put, qq4, qq5, qq6]
  refine tkV 28 ?_
  try simp only [qq1, qq2, qq3, Act.put, qq4, qq5, qq6]
  refine wpT_done (by kernel_rfl) ?_ _
  obtain ⟨x0, x1, x2, x3, x4, x5, x6, x7, x8, x9, x10, x11, x12, x13, x14, x15, FB1⟩ := hHeld
  clear x0 x1 x2 x3 x4 x5 x6 x7 x8 x9 x10 x11 x12 x13 x14 x15 hS1 hBx1 HBA1
  have HL1_w0 := Lib.hid FB1.out
  obtain ⟨zc0, zc1, zc2, zc3, zc4, zc5, zc6, zc7, zc8, zc9, zc10, zc11, zc12, zc13, zc14, zc15⟩ := kC.out _ HL1_w0
  have hbF := below_ext HBw.out HL1_w0.out
  go_wp2
  go_ret
  exact ⟨rfl, hbF⟩
set_option maxHeartbeats 12800000 in
theorem rtver_3 (P Q G need : Int) (Cs : Option Addr) (cs : List Int) (cn cc : Nat) (bK oK : Nat) (ks : List Int) (kn kc : Nat) (hcn : Hid (cs.length = cn)) (hkn : Hid (ks.length = kn)) (E1 E2 : Int) (A : Option Addr) (na ca : Nat) (C : Int) (Z : Option Addr) (nz cz : Nat) (j : Nat) (hjk : j < kn) (hkb : kn ≤ 8) (v : Int) (pA : Option Addr) (pal : List Int) (pna pca : Nat) (pC : Int) (pZ : Option Addr) (pzs : List Int) (pnz pcz : Nat) (han : Hid (pal.length = pna)) (hzn : Hid (pzs.length = pnz)) (hna : pna < 1000000) (hnz : pnz < 1000000) (s : ByteArray) (hs : s.size ≤ 1000) (ht : Hid (trB P Q G need cs ks = true)) (hm : Hid (memB kn ((j : Int) + 1) = true)) (kj : Int) (hKj : Hid (ks.getD j 0 = kj)) (r : Int) (hr : Hid (chkG P Q G [G, kj, E1, v] = r)) (hne : (r != 0) = true) (hQ : Q < 9223372036854775808) (w : World) (hC : Hid (Sl w Cs cs)) (hK : Hid (Sl w (some ⟨bK, oK, none⟩) ks)) (hpA : Hid (Sl w pA pal)) (hpZ : Hid (Sl w pZ pzs)) :
    Calls Tryz.prog 25 #[gv P Q G, trV need Cs cn cc (some ⟨bK, oK, none⟩) kn kc, esV E1 E2 A na ca C Z nz cz, .string s, paV ((j : Int) + 1) v pA pna pca pC pZ pnz pcz] w fun e' w' => e' = .returned (.bool false) ∧ Below w.heap.size w w' := by
  obtain ⟨dj, dj1, dj2, dj3, dj4⟩ := dj_facts hjk hkb
  have hjl : j < ks.length := by rw [hkn.out]; exact hjk
  obtain ⟨w0, HW, HBw, kC⟩ := stz10 P Q G need Cs cn cc bK oK kn kc E1 E2 A na ca C Z nz cz j v pA pna pca pC pZ pnz pcz w
  have kCs := Lib.hid (show ∀ u : World, Hid (Below w0.heap.size w0 u) → Hid (Sl u Cs cs) from fun u h => Lib.hid ((hC.out.below) (below_ext HBw.out h.out)))
  have kKs := Lib.hid (show ∀ u : World, Hid (Below w0.heap.size w0 u) → Hid (Sl u (some ⟨bK, oK, none⟩) ks) from fun u h => Lib.hid ((hK.out.below) (below_ext HBw.out h.out)))
  have kPA := Lib.hid (show ∀ u : World, Hid (Below w0.heap.size w0 u) → Hid (Sl u pA pal) from fun u h => Lib.hid ((hpA.out.below) (below_ext HBw.out h.out)))
  have kPZ := Lib.hid (show ∀ u : World, Hid (Below w0.heap.size w0 u) → Hid (Sl u pZ pzs) from fun u h => Lib.hid ((hpZ.out.below) (below_ext HBw.out h.out)))
  have HB_0 : Hid (Below w0.heap.size w0 w0) := Lib.hid (Below.refl _ _)
  clear hC hK hpA hpZ
  have kI := Lib.hid (show ∀ u : World, Hid (Below w0.heap.size w0 u) → u.cell? ⟨bK, oK + j, none⟩ = some (.int .i64 kj) from fun u h => by
    obtain ⟨b9, o9, hA, hi⟩ := (kKs.out u h).out j hjl
    cases hA
    rwa [hKj.out] at hi)
  go_enter Tryz.func25, Tryz.ntmps25
  go_wp2_with fail
  rw [HW.out]
  obtain ⟨zc0, zc1, zc2, zc3, zc4, zc5, zc6, zc7, zc8, zc9, zc10, zc11, zc12, zc13, zc14, zc15⟩ := kC.out _ HB_0
  have kI_0 := kI.out _ HB_0
  clear zc0 zc1 zc2 zc3 zc4 zc5 zc6 zc7 zc8 zc9 zc10 zc11 zc12 zc13 zc14 zc15 kI_0
  have hBx1 := Lib.hid (show ∀ u u2 : World, Hid (Below w0.heap.size w0 u) → Below u.heap.size u u2 → Hid (Below w0.heap.size w0 u2) from fun u u2 h1 h2 => Lib.hid (below_ext h1.out h2))
  have hS1 := Lib.hid (show ∀ u : World, Hid (Below w0.heap.size w0 u) → (u.cell? ⟨w.heap.size, 0, none⟩ = some (.int .i64 P) ∧ u.cell? ⟨w.heap.size, 1, none⟩ = some (.int .i64 Q) ∧ u.cell? ⟨w.heap.size, 2, none⟩ = some (.int .i64 G) ∧ u.cell? ⟨w.heap.size + 1, 0, none⟩ = some (.int .i64 need) ∧ u.cell? ⟨w.heap.size + 1, 1, none⟩ = some (.slice Cs cn cc) ∧ u.cell? ⟨w.heap.size + 1, 2, none⟩ = some (.slice (some ⟨bK, oK, none⟩) kn kc) ∧ u.cell? ⟨w.heap.size + 2, 0, none⟩ = some (.int .i64 E1) ∧ u.cell? ⟨w.heap.size + 2, 1, none⟩ = some (.int .i64 E2) ∧ u.cell? ⟨w.heap.size + 2, 2, none⟩ = some (.slice A na ca) ∧ u.cell? ⟨w.heap.size + 2, 3, none⟩ = some (.int .i64 C) ∧ u.cell? ⟨w.heap.size + 2, 4, none⟩ = some (.slice Z nz cz) ∧ u.cell? ⟨w.heap.size + 3, 0, none⟩ = some (.int .i64 ((j : Int) + 1)) ∧ u.cell? ⟨w.heap.size + 3, 1, none⟩ = some (.int .i64 v) ∧ u.cell? ⟨w.heap.size + 3, 2, none⟩ = some (.slice pA pna pca) ∧ u.cell? ⟨w.heap.size + 3, 3, none⟩ = some (.int .i64 pC) ∧ u.cell? ⟨w.heap.size + 3, 4, none⟩ = some (.slice pZ pnz pcz) ∧ u.cell? ⟨bK, oK + j, none⟩ = some (.int .i64 kj) ∧ Hid (Below w0.heap.size w0 u)) from fun u h1 => by
    obtain ⟨y0, y1, y2, y3, y4, y5, y6, y7, y8, y9, y10, y11, y12, y13, y14, y15⟩ := kC.out _ (Lib.hid h1.out)
    have kI_0 := kI.out _ (Lib.hid h1.out)
    exact ⟨y0, y1, y2, y3, y4, y5, y6, y7, y8, y9, y10, y11, y12, y13, y14, y15, kI_0, h1⟩)
  have HBA1 : Hid (Below w0.heap.size w0 w0) := Lib.hid HB_0.out
  refine wp_region_T (S := fun w' => w'.cell? ⟨w.heap.size, 0, none⟩ = some (.int .i64 P) ∧ w'.cell? ⟨w.heap.size, 1, none⟩ = some (.int .i64 Q) ∧ w'.cell? ⟨w.heap.size, 2, none⟩ = some (.int .i64 G) ∧ w'.cell? ⟨w.heap.size + 1, 0, none⟩ = some (.int .i64 need) ∧ w'.cell? ⟨w.heap.size + 1, 1, none⟩ = some (.slice Cs cn cc) ∧ w'.cell? ⟨w.heap.size + 1, 2, none⟩ = some (.slice (some ⟨bK, oK, none⟩) kn kc) ∧ w'.cell? ⟨w.heap.size + 2, 0, none⟩ = some (.int .i64 E1) ∧ w'.cell? ⟨w.heap.size + 2, 1, none⟩ = some (.int .i64 E2) ∧ w'.cell? ⟨w.heap.size + 2, 2, none⟩ = some (.slice A na ca) ∧ w'.cell? ⟨w.heap.size + 2, 3, none⟩ = some (.int .i64 C) ∧ w'.cell? ⟨w.heap.size + 2, 4, none⟩ = some (.slice Z nz cz) ∧ w'.cell? ⟨w.heap.size + 3, 0, none⟩ = some (.int .i64 ((j : Int) + 1)) ∧ w'.cell? ⟨w.heap.size + 3, 1, none⟩ = some (.int .i64 v) ∧ w'.cell? ⟨w.heap.size + 3, 2, none⟩ = some (.slice pA pna pca) ∧ w'.cell? ⟨w.heap.size + 3, 3, none⟩ = some (.int .i64 pC) ∧ w'.cell? ⟨w.heap.size + 3, 4, none⟩ = some (.slice pZ pnz pcz) ∧ w'.cell? ⟨bK, oK + j, none⟩ = some (.int .i64 kj) ∧ Hid (Below w0.heap.size w0 w')) (E := []) (by kernel_rfl) (hS1.out _ (hBx1.out _ _ HBA1 ((Below.refl _ _).drew))) (fun hHeld => ?_)
  refine tkV 0 ?_
  try simp only [qq1, qq2, qq3, Act.put, qq4, qq5, qq6]
  refine tkV 1 ?_
  try simp only [qq1, qq2, qq3, Act.put, qq4, qq5, qq6]
  refine wpT_one (i := 2) (by kernel_rfl) rfl (fun K hK => ?_)
  go_simp
  refine (rtrv_any P Q G need Cs cs cn cc (some ⟨bK, oK, none⟩) ks kn kc hcn hkn true ht hQ _ (kCs.out _ (Lib.hid (hHeld.2.2.2.2.2.2.2.2.2.2.2.2.2.2.2.2.2).out)) (kKs.out _ (Lib.hid (hHeld.2.2.2.2.2.2.2.2.2.2.2.2.2.2.2.2.2).out))).mono ?_
  rintro e wA ⟨rfl, hbA⟩
  refine hK.out _ _ ?_ (fun hHeld => ?_)
  · exact hS1.out _ (hBx1.out _ _ hHeld.2.2.2.2.2.2.2.2.2.2.2.2.2.2.2.2.2 hbA)
  clear hK K
  try simp only [qq1, qq2, qq3, Act.put, qq4, qq5, qq6]
  refine tkV 3 ?_
  try simp only [qq1, qq2, qq3, Act.put, qq4, qq5, qq6]
  refine tkV 4 ?_
  try simp only [qq1, qq2, qq3, Act.put, qq4, qq5, qq6]
  refine tkV 5 ?_
  try simp only [qq1, qq2, qq3, Act.put, qq4, qq5, qq6]
  refine tkV 6 ?_
  try simp only [qq1, qq2, qq3, Act.put, qq4, qq5, qq6]
  refine tkV 7 ?_
  try simp only [qq1, qq2, qq3, Act.put, qq4, qq5, qq6]
  refine wpT_one (i := 8) (by kernel_rfl) rfl (fun K hK => ?_)
  go_simp
  refine (index50_any need Cs cn cc (some ⟨bK, oK, none⟩) kn kc ((j : Int) + 1) true hm _).mono ?_
  rintro e wA ⟨rfl, hbA⟩
  refine hK.out _ _ ?_ (fun hHeld => ?_)
  · exact hS1.out _ (hBx1.out _ _ hHeld.2.2.2.2.2.2.2.2.2.2.2.2.2.2.2.2.2 hbA)
  clear hK K
  try simp only [qq1, qq2, qq3, Act.put, qq4, qq5, qq6]
  refine tkV 9 ?_
  try simp only [qq1, qq2, qq3, Act.put, qq4, qq5, qq6]
  refine tkV 10 ?_
  try simp only [qq1, qq2, qq3, Act.put, qq4, qq5, qq6]
  refine tkV 11 ?_
  try simp only [qq1, qq2, qq3, Act.put, qq4, qq5, qq6]
  refine tkV 12 ?_
  try simp only [qq1, qq2, qq3, Act.put, qq4, qq5, qq6]
  refine tkV 13 ?_
  try simp only [qq1, qq2, qq3, Act.put, qq4, qq5, qq6]
  refine tkV 14 ?_
  try simp only [qq1, qq2, qq3, Act.put, qq4, qq5, qq6]
  refine tkV 15 ?_
  try simp only [qq1, qq2, qq3, Act.put, qq4, qq5, qq6]
  refine tkV 16 ?_
  try simp only [qq1, qq2, qq3, Act.put, qq4, qq5, qq6]
  refine tkV 17 ?_
  try simp only [qq1, qq2, qq3, Act.put, qq4, qq5, qq6]
  refine tkV 18 ?_
  try simp only [qq1, qq2, qq3, Act.put, qq4, qq5, qq6]
  refine tkV 19 ?_
  try simp only [qq1, qq2, qq3, Act.put, qq4, qq5, qq6]
  refine tkV 20 ?_
  try simp only [qq1, qq2, qq3, Act.put, qq4, qq5, qq6]
  refine tkV 21 ?_
  try simp only [qq1, qq2, qq3, Act.put, qq4, qq5, qq6]
  refine tkV 22 ?_
  try simp only [qq1, qq2, qq3, Act.put, qq4, qq5, qq6]
  refine tkV 23 ?_
  try simp only [qq1, qq2, qq3, Act.put, qq4, qq5, qq6]
  refine tkV 24 ?_
  try simp only [qq1, qq2, qq3, Act.put, qq4, qq5, qq6]
  refine tkV 25 ?_
  try simp only [qq1, qq2, qq3, Act.put, qq4, qq5, qq6]
  refine wpT_one (i := 26) (by kernel_rfl) rfl (fun K hK => ?_)
  go_simp
  refine (rfault18_any P Q G G kj E1 v r hr hQ _).mono ?_
  rintro e wA ⟨rfl, hbA⟩
  refine hK.out _ _ ?_ (fun hHeld => ?_)
  · exact hS1.out _ (hBx1.out _ _ hHeld.2.2.2.2.2.2.2.2.2.2.2.2.2.2.2.2.2 hbA)
  clear hK K
  try simp only [qq1, qq2, qq3, Act.put, qq4, qq5, qq6]
  refine tkV 27 ?_
  try simp only [qq1, qq2, qq3, Act.put, qq4, qq5, qq6]
  refine tkV 28 ?_
  try simp only [qq1, qq2, qq3, Act.put, qq4, qq5, qq6]
  refine wpT_done (by kernel_rfl) ?_ _
  obtain ⟨x0, x1, x2, x3, x4, x5, x6, x7, x8, x9, x10, x11, x12, x13, x14, x15, x16, FB1⟩ := hHeld
  clear x0 x1 x2 x3 x4 x5 x6 x7 x8 x9 x10 x11 x12 x13 x14 x15 x16 hS1 hBx1 HBA1
  have HL1_w0 := Lib.hid FB1.out
  obtain ⟨zc0, zc1, zc2, zc3, zc4, zc5, zc6, zc7, zc8, zc9, zc10, zc11, zc12, zc13, zc14, zc15⟩ := kC.out _ HL1_w0
  have kI_0 := kI.out _ HL1_w0
  have hbF := below_ext HBw.out HL1_w0.out
  go_wp2
  go_ret
  exact ⟨rfl, hbF⟩
set_option maxHeartbeats 12800000 in
theorem rtver_4 (P Q G need : Int) (Cs : Option Addr) (cs : List Int) (cn cc : Nat) (bK oK : Nat) (ks : List Int) (kn kc : Nat) (hcn : Hid (cs.length = cn)) (hkn : Hid (ks.length = kn)) (E1 E2 : Int) (A : Option Addr) (na ca : Nat) (C : Int) (Z : Option Addr) (nz cz : Nat) (j : Nat) (hjk : j < kn) (hkb : kn ≤ 8) (v : Int) (pA : Option Addr) (pal : List Int) (pna pca : Nat) (pC : Int) (pZ : Option Addr) (pzs : List Int) (pnz pcz : Nat) (han : Hid (pal.length = pna)) (hzn : Hid (pzs.length = pnz)) (hna : pna < 1000000) (hnz : pnz < 1000000) (s : ByteArray) (hs : s.size ≤ 1000) (ht : Hid (trB P Q G need cs ks = true)) (hm : Hid (memB kn ((j : Int) + 1) = true)) (kj : Int) (hKj : Hid (ks.getD j 0 = kj)) (hr : Hid (chkG P Q G [G, kj, E1, v] = 0)) (r : Bool) (HV : Kp (verL P Q G pC (bys s) [kj, v] (eqRows none none G E1) pal pzs = r)) (hQ : Q < 9223372036854775808) (w : World) (hC : Hid (Sl w Cs cs)) (hK : Hid (Sl w (some ⟨bK, oK, none⟩) ks)) (hpA : Hid (Sl w pA pal)) (hpZ : Hid (Sl w pZ pzs)) :
    Calls Tryz.prog 25 #[gv P Q G, trV need Cs cn cc (some ⟨bK, oK, none⟩) kn kc, esV E1 E2 A na ca C Z nz cz, .string s, paV ((j : Int) + 1) v pA pna pca pC pZ pnz pcz] w fun e' w' => e' = .returned (.bool r) ∧ Below w.heap.size w w' := by
  obtain ⟨dj, dj1, dj2, dj3, dj4⟩ := dj_facts hjk hkb
  have hjl : j < ks.length := by rw [hkn.out]; exact hjk
  obtain ⟨w0, HW, HBw, kC⟩ := stz10 P Q G need Cs cn cc bK oK kn kc E1 E2 A na ca C Z nz cz j v pA pna pca pC pZ pnz pcz w
  have kCs := Lib.hid (show ∀ u : World, Hid (Below w0.heap.size w0 u) → Hid (Sl u Cs cs) from fun u h => Lib.hid ((hC.out.below) (below_ext HBw.out h.out)))
  have kKs := Lib.hid (show ∀ u : World, Hid (Below w0.heap.size w0 u) → Hid (Sl u (some ⟨bK, oK, none⟩) ks) from fun u h => Lib.hid ((hK.out.below) (below_ext HBw.out h.out)))
  have kPA := Lib.hid (show ∀ u : World, Hid (Below w0.heap.size w0 u) → Hid (Sl u pA pal) from fun u h => Lib.hid ((hpA.out.below) (below_ext HBw.out h.out)))
  have kPZ := Lib.hid (show ∀ u : World, Hid (Below w0.heap.size w0 u) → Hid (Sl u pZ pzs) from fun u h => Lib.hid ((hpZ.out.below) (below_ext HBw.out h.out)))
  have HB_0 : Hid (Below w0.heap.size w0 w0) := Lib.hid (Below.refl _ _)
  clear hC hK hpA hpZ
  have kI := Lib.hid (show ∀ u : World, Hid (Below w0.heap.size w0 u) → u.cell? ⟨bK, oK + j, none⟩ = some (.int .i64 kj) from fun u h => by
    obtain ⟨b9, o9, hA, hi⟩ := (kKs.out u h).out j hjl
    cases hA
    rwa [hKj.out] at hi)
  go_enter Tryz.func25, Tryz.ntmps25
  go_wp2_with fail
  rw [HW.out]
  obtain ⟨zc0, zc1, zc2, zc3, zc4, zc5, zc6, zc7, zc8, zc9, zc10, zc11, zc12, zc13, zc14, zc15⟩ := kC.out _ HB_0
  have kI_0 := kI.out _ HB_0
  clear zc0 zc1 zc2 zc3 zc4 zc5 zc6 zc7 zc8 zc9 zc10 zc11 zc12 zc13 zc14 zc15 kI_0
  have hBx1 := Lib.hid (show ∀ u u2 : World, Hid (Below w0.heap.size w0 u) → Below u.heap.size u u2 → Hid (Below w0.heap.size w0 u2) from fun u u2 h1 h2 => Lib.hid (below_ext h1.out h2))
  have hS1 := Lib.hid (show ∀ u : World, Hid (Below w0.heap.size w0 u) → (u.cell? ⟨w.heap.size, 0, none⟩ = some (.int .i64 P) ∧ u.cell? ⟨w.heap.size, 1, none⟩ = some (.int .i64 Q) ∧ u.cell? ⟨w.heap.size, 2, none⟩ = some (.int .i64 G) ∧ u.cell? ⟨w.heap.size + 1, 0, none⟩ = some (.int .i64 need) ∧ u.cell? ⟨w.heap.size + 1, 1, none⟩ = some (.slice Cs cn cc) ∧ u.cell? ⟨w.heap.size + 1, 2, none⟩ = some (.slice (some ⟨bK, oK, none⟩) kn kc) ∧ u.cell? ⟨w.heap.size + 2, 0, none⟩ = some (.int .i64 E1) ∧ u.cell? ⟨w.heap.size + 2, 1, none⟩ = some (.int .i64 E2) ∧ u.cell? ⟨w.heap.size + 2, 2, none⟩ = some (.slice A na ca) ∧ u.cell? ⟨w.heap.size + 2, 3, none⟩ = some (.int .i64 C) ∧ u.cell? ⟨w.heap.size + 2, 4, none⟩ = some (.slice Z nz cz) ∧ u.cell? ⟨w.heap.size + 3, 0, none⟩ = some (.int .i64 ((j : Int) + 1)) ∧ u.cell? ⟨w.heap.size + 3, 1, none⟩ = some (.int .i64 v) ∧ u.cell? ⟨w.heap.size + 3, 2, none⟩ = some (.slice pA pna pca) ∧ u.cell? ⟨w.heap.size + 3, 3, none⟩ = some (.int .i64 pC) ∧ u.cell? ⟨w.heap.size + 3, 4, none⟩ = some (.slice pZ pnz pcz) ∧ u.cell? ⟨bK, oK + j, none⟩ = some (.int .i64 kj) ∧ Hid (Below w0.heap.size w0 u)) from fun u h1 => by
    obtain ⟨y0, y1, y2, y3, y4, y5, y6, y7, y8, y9, y10, y11, y12, y13, y14, y15⟩ := kC.out _ (Lib.hid h1.out)
    have kI_0 := kI.out _ (Lib.hid h1.out)
    exact ⟨y0, y1, y2, y3, y4, y5, y6, y7, y8, y9, y10, y11, y12, y13, y14, y15, kI_0, h1⟩)
  have HBA1 : Hid (Below w0.heap.size w0 w0) := Lib.hid HB_0.out
  refine wp_region_T (S := fun w' => w'.cell? ⟨w.heap.size, 0, none⟩ = some (.int .i64 P) ∧ w'.cell? ⟨w.heap.size, 1, none⟩ = some (.int .i64 Q) ∧ w'.cell? ⟨w.heap.size, 2, none⟩ = some (.int .i64 G) ∧ w'.cell? ⟨w.heap.size + 1, 0, none⟩ = some (.int .i64 need) ∧ w'.cell? ⟨w.heap.size + 1, 1, none⟩ = some (.slice Cs cn cc) ∧ w'.cell? ⟨w.heap.size + 1, 2, none⟩ = some (.slice (some ⟨bK, oK, none⟩) kn kc) ∧ w'.cell? ⟨w.heap.size + 2, 0, none⟩ = some (.int .i64 E1) ∧ w'.cell? ⟨w.heap.size + 2, 1, none⟩ = some (.int .i64 E2) ∧ w'.cell? ⟨w.heap.size + 2, 2, none⟩ = some (.slice A na ca) ∧ w'.cell? ⟨w.heap.size + 2, 3, none⟩ = some (.int .i64 C) ∧ w'.cell? ⟨w.heap.size + 2, 4, none⟩ = some (.slice Z nz cz) ∧ w'.cell? ⟨w.heap.size + 3, 0, none⟩ = some (.int .i64 ((j : Int) + 1)) ∧ w'.cell? ⟨w.heap.size + 3, 1, none⟩ = some (.int .i64 v) ∧ w'.cell? ⟨w.heap.size + 3, 2, none⟩ = some (.slice pA pna pca) ∧ w'.cell? ⟨w.heap.size + 3, 3, none⟩ = some (.int .i64 pC) ∧ w'.cell? ⟨w.heap.size + 3, 4, none⟩ = some (.slice pZ pnz pcz) ∧ w'.cell? ⟨bK, oK + j, none⟩ = some (.int .i64 kj) ∧ Hid (Below w0.heap.size w0 w')) (E := []) (by kernel_rfl) (hS1.out _ (hBx1.out _ _ HBA1 ((Below.refl _ _).drew))) (fun hHeld => ?_)
  refine tkV 0 ?_
  try simp only [qq1, qq2, qq3, Act.put, qq4, qq5, qq6]
  refine tkV 1 ?_
  try simp only [qq1, qq2, qq3, Act.put, qq4, qq5, qq6]
  refine wpT_one (i := 2) (by kernel_rfl) rfl (fun K hK => ?_)
  go_simp
  refine (rtrv_any P Q G need Cs cs cn cc (some ⟨bK, oK, none⟩) ks kn kc hcn hkn true ht hQ _ (kCs.out _ (Lib.hid (hHeld.2.2.2.2.2.2.2.2.2.2.2.2.2.2.2.2.2).out)) (kKs.out _ (Lib.hid (hHeld.2.2.2.2.2.2.2.2.2.2.2.2.2.2.2.2.2).out))).mono ?_
  rintro e wA ⟨rfl, hbA⟩
  refine hK.out _ _ ?_ (fun hHeld => ?_)
  · exact hS1.out _ (hBx1.out _ _ hHeld.2.2.2.2.2.2.2.2.2.2.2.2.2.2.2.2.2 hbA)
  clear hK K
  try simp only [qq1, qq2, qq3, Act.put, qq4, qq5, qq6]
  refine tkV 3 ?_
  try simp only [qq1, qq2, qq3, Act.put, qq4, qq5, qq6]
  refine tkV 4 ?_
  try simp only [qq1, qq2, qq3, Act.put, qq4, qq5, qq6]
  refine tkV 5 ?_
  try simp only [qq1, qq2, qq3, Act.put, qq4, qq5, qq6]
  refine tkV 6 ?_
  try simp only [qq1, qq2, qq3, Act.put, qq4, qq5, qq6]
  refine tkV 7 ?_
  try simp only [qq1, qq2, qq3, Act.put, qq4, qq5, qq6]
  refine wpT_one (i := 8) (by kernel_rfl) rfl (fun K hK => ?_)
  go_simp
  refine (index50_any need Cs cn cc (some ⟨bK, oK, none⟩) kn kc ((j : Int) + 1) true hm _).mono ?_
  rintro e wA ⟨rfl, hbA⟩
  refine hK.out _ _ ?_ (fun hHeld => ?_)
  · exact hS1.out _ (hBx1.out _ _ hHeld.2.2.2.2.2.2.2.2.2.2.2.2.2.2.2.2.2 hbA)
  clear hK K
  try simp only [qq1, qq2, qq3, Act.put, qq4, qq5, qq6]
  refine tkV 9 ?_
  try simp only [qq1, qq2, qq3, Act.put, qq4, qq5, qq6]
  refine tkV 10 ?_
  try simp only [qq1, qq2, qq3, Act.put, qq4, qq5, qq6]
  refine tkV 11 ?_
  try simp only [qq1, qq2, qq3, Act.put, qq4, qq5, qq6]
  refine tkV 12 ?_
  try simp only [qq1, qq2, qq3, Act.put, qq4, qq5, qq6]
  refine tkV 13 ?_
  try simp only [qq1, qq2, qq3, Act.put, qq4, qq5, qq6]
  refine tkV 14 ?_
  try simp only [qq1, qq2, qq3, Act.put, qq4, qq5, qq6]
  refine tkV 15 ?_
  try simp only [qq1, qq2, qq3, Act.put, qq4, qq5, qq6]
  refine tkV 16 ?_
  try simp only [qq1, qq2, qq3, Act.put, qq4, qq5, qq6]
  refine tkV 17 ?_
  try simp only [qq1, qq2, qq3, Act.put, qq4, qq5, qq6]
  refine tkV 18 ?_
  try simp only [qq1, qq2, qq3, Act.put, qq4, qq5, qq6]
  refine tkV 19 ?_
  try simp only [qq1, qq2, qq3, Act.put, qq4, qq5, qq6]
  refine tkV 20 ?_
  try simp only [qq1, qq2, qq3, Act.put, qq4, qq5, qq6]
  refine tkV 21 ?_
  try simp only [qq1, qq2, qq3, Act.put, qq4, qq5, qq6]
  refine tkV 22 ?_
  try simp only [qq1, qq2, qq3, Act.put, qq4, qq5, qq6]
  refine tkV 23 ?_
  try simp only [qq1, qq2, qq3, Act.put, qq4, qq5, qq6]
  refine tkV 24 ?_
  try simp only [qq1, qq2, qq3, Act.put, qq4, qq5, qq6]
  refine tkV 25 ?_
  try simp only [qq1, qq2, qq3, Act.put, qq4, qq5, qq6]
  refine wpT_one (i := 26) (by kernel_rfl) rfl (fun K hK => ?_)
  go_simp
  refine (rfault18_any P Q G G kj E1 v 0 hr hQ _).mono ?_
  rintro e wA ⟨rfl, hbA⟩
  refine hK.out _ _ ?_ (fun hHeld => ?_)
  · exact hS1.out _ (hBx1.out _ _ hHeld.2.2.2.2.2.2.2.2.2.2.2.2.2.2.2.2.2 hbA)
  clear hK K
  try simp only [qq1, qq2, qq3, Act.put, qq4, qq5, qq6]
  refine tkV 27 ?_
  try simp only [qq1, qq2, qq3, Act.put, qq4, qq5, qq6]
  refine tkV 28 ?_
  try simp only [qq1, qq2, qq3, Act.put, qq4, qq5, qq6]
  refine wpT_done (by kernel_rfl) ?_ _
  obtain ⟨x0, x1, x2, x3, x4, x5, x6, x7, x8, x9, x10, x11, x12, x13, x14, x15, x16, FB1⟩ := hHeld
  clear x0 x1 x2 x3 x4 x5 x6 x7 x8 x9 x10 x11 x12 x13 x14 x15 x16 hS1 hBx1 HBA1
  have HL1_w0 := Lib.hid FB1.out
  obtain ⟨zc0, zc1, zc2, zc3, zc4, zc5, zc6, zc7, zc8, zc9, zc10, zc11, zc12, zc13, zc14, zc15⟩ := kC.out _ HL1_w0
  have kI_0 := kI.out _ HL1_w0
  go_upto_region 3 with (fail)
  clear zc0 zc1 zc2 zc3 zc4 zc5 zc6 zc7 zc8 zc9 zc10 zc11 zc12 zc13 zc14 zc15 kI_0
  have hBx2 := Lib.hid (show ∀ u u2 : World, Hid (Below w0.heap.size w0 u) → Below u.heap.size u u2 → Hid (Below w0.heap.size w0 u2) from fun u u2 h1 h2 => Lib.hid (below_ext h1.out h2))
  have hS2 := Lib.hid (show ∀ u : World, Hid (Below w0.heap.size w0 u) → (u.cell? ⟨w.heap.size, 0, none⟩ = some (.int .i64 P) ∧ u.cell? ⟨w.heap.size, 1, none⟩ = some (.int .i64 Q) ∧ u.cell? ⟨w.heap.size, 2, none⟩ = some (.int .i64 G) ∧ u.cell? ⟨w.heap.size + 1, 0, none⟩ = some (.int .i64 need) ∧ u.cell? ⟨w.heap.size + 1, 1, none⟩ = some (.slice Cs cn cc) ∧ u.cell? ⟨w.heap.size + 1, 2, none⟩ = some (.slice (some ⟨bK, oK, none⟩) kn kc) ∧ u.cell? ⟨w.heap.size + 2, 0, none⟩ = some (.int .i64 E1) ∧ u.cell? ⟨w.heap.size + 2, 1, none⟩ = some (.int .i64 E2) ∧ u.cell? ⟨w.heap.size + 2, 2, none⟩ = some (.slice A na ca) ∧ u.cell? ⟨w.heap.size + 2, 3, none⟩ = some (.int .i64 C) ∧ u.cell? ⟨w.heap.size + 2, 4, none⟩ = some (.slice Z nz cz) ∧ u.cell? ⟨w.heap.size + 3, 0, none⟩ = some (.int .i64 ((j : Int) + 1)) ∧ u.cell? ⟨w.heap.size + 3, 1, none⟩ = some (.int .i64 v) ∧ u.cell? ⟨w.heap.size + 3, 2, none⟩ = some (.slice pA pna pca) ∧ u.cell? ⟨w.heap.size + 3, 3, none⟩ = some (.int .i64 pC) ∧ u.cell? ⟨w.heap.size + 3, 4, none⟩ = some (.slice pZ pnz pcz) ∧ u.cell? ⟨bK, oK + j, none⟩ = some (.int .i64 kj) ∧ Hid (Below w0.heap.size w0 u)) from fun u h1 => by
    obtain ⟨y0, y1, y2, y3, y4, y5, y6, y7, y8, y9, y10, y11, y12, y13, y14, y15⟩ := kC.out _ (Lib.hid h1.out)
    have kI_0 := kI.out _ (Lib.hid h1.out)
    exact ⟨y0, y1, y2, y3, y4, y5, y6, y7, y8, y9, y10, y11, y12, y13, y14, y15, kI_0, h1⟩)
  have HBA2 : Hid (Below w0.heap.size w0 _) := Lib.hid HL1_w0.out
  refine wp_region_T (S := fun w' => w'.cell? ⟨w.heap.size, 0, none⟩ = some (.int .i64 P) ∧ w'.cell? ⟨w.heap.size, 1, none⟩ = some (.int .i64 Q) ∧ w'.cell? ⟨w.heap.size, 2, none⟩ = some (.int .i64 G) ∧ w'.cell? ⟨w.heap.size + 1, 0, none⟩ = some (.int .i64 need) ∧ w'.cell? ⟨w.heap.size + 1, 1, none⟩ = some (.slice Cs cn cc) ∧ w'.cell? ⟨w.heap.size + 1, 2, none⟩ = some (.slice (some ⟨bK, oK, none⟩) kn kc) ∧ w'.cell? ⟨w.heap.size + 2, 0, none⟩ = some (.int .i64 E1) ∧ w'.cell? ⟨w.heap.size + 2, 1, none⟩ = some (.int .i64 E2) ∧ w'.cell? ⟨w.heap.size + 2, 2, none⟩ = some (.slice A na ca) ∧ w'.cell? ⟨w.heap.size + 2, 3, none⟩ = some (.int .i64 C) ∧ w'.cell? ⟨w.heap.size + 2, 4, none⟩ = some (.slice Z nz cz) ∧ w'.cell? ⟨w.heap.size + 3, 0, none⟩ = some (.int .i64 ((j : Int) + 1)) ∧ w'.cell? ⟨w.heap.size + 3, 1, none⟩ = some (.int .i64 v) ∧ w'.cell? ⟨w.heap.size + 3, 2, none⟩ = some (.slice pA pna pca) ∧ w'.cell? ⟨w.heap.size + 3, 3, none⟩ = some (.int .i64 pC) ∧ w'.cell? ⟨w.heap.size + 3, 4, none⟩ = some (.slice pZ pnz pcz) ∧ w'.cell? ⟨bK, oK + j, none⟩ = some (.int .i64 kj) ∧ Hid (Below w0.heap.size w0 w')) (E := []) (by kernel_rfl) (hS2.out _ (hBx2.out _ _ HBA2 ((Below.refl _ _).drew))) (fun hHeld => ?_)
  refine tkV 0 ?_
  try simp only [qq1, qq2, qq3, Act.put, qq4, qq5, qq6]
  refine tkV 1 ?_
  try simp only [qq1, qq2, qq3, Act.put, qq4, qq5, qq6]
  refine tkV 2 ?_
  try simp only [qq1, qq2, qq3, Act.put, qq4, qq5, qq6]
  refine tkV 3 ?_
  try simp only [qq1, qq2, qq3, Act.put, qq4, qq5, qq6]
  refine tkV 4 ?_
  try simp only [qq1, qq2, qq3, Act.put, qq4, qq5, qq6]
  refine tkV 5 ?_
  try simp only [qq1, qq2, qq3, Act.put, qq4, qq5, qq6]
  refine tkV 6 ?_
  try simp only [qq1, qq2, qq3, Act.put, qq4, qq5, qq6]
  refine tkV 7 ?_
  try simp only [qq1, qq2, qq3, Act.put, qq4, qq5, qq6]
  refine tkV 8 ?_
  try simp only [qq1, qq2, qq3, Act.put, qq4, qq5, qq6]
  refine tkV 9 ?_
  try simp only [qq1, qq2, qq3, Act.put, qq4, qq5, qq6]
  refine tkV 10 ?_
  try simp only [qq1, qq2, qq3, Act.put, qq4, qq5, qq6]
  refine tkV 11 ?_
  try simp only [qq1, qq2, qq3, Act.put, qq4, qq5, qq6]
  refine tkV 12 ?_
  try simp only [qq1, qq2, qq3, Act.put, qq4, qq5, qq6]
  refine tkV 13 ?_
  try simp only [qq1, qq2, qq3, Act.put, qq4, qq5, qq6]
  refine tkV 15 ?_
  try simp only [qq1, qq2, qq3, Act.put, qq4, qq5, qq6]
  refine tkV 16 ?_
  try simp only [qq1, qq2, qq3, Act.put, qq4, qq5, qq6]
  refine tkV 17 ?_
  try simp only [qq1, qq2, qq3, Act.put, qq4, qq5, qq6]
  refine wpT_one (i := 14) (by kernel_rfl) rfl (fun K hK => ?_)
  go_simp
  refine (rerelation_any G kj E1 v _).mono ?_
  intro e wB hR
  obtain ⟨Y, B, A1, B1, rfl, hY, hB, hbA⟩ := hR
  refine hK.out _ _ ?_ (fun hHeld => ?_)
  · exact hS2.out _ (hBx2.out _ _ hHeld.2.2.2.2.2.2.2.2.2.2.2.2.2.2.2.2.2 hbA)
  clear hK K
  try simp only [qq1, qq2, qq3, Act.put, qq4, qq5, qq6]
  refine wpT_one (i := 18) (by kernel_rfl) rfl (fun K hK => ?_)
  go_simp
  refine (rver_any P Q G Y [kj, v] 2 2 B (eqRows A1 B1 G E1) 2 2 pA pal pna pca pC pZ pzs pnz pcz (Lib.hid rfl) (Lib.hid rfl) han hzn hna hnz hQ s hs r ⟨(verL_addr A1 B1).trans HV.1⟩ _ (Lib.hid hY) (Lib.hid hB) (kPA.out _ (Lib.hid (hHeld.2.2.2.2.2.2.2.2.2.2.2.2.2.2.2.2.2).out)) (kPZ.out _ (Lib.hid (hHeld.2.2.2.2.2.2.2.2.2.2.2.2.2.2.2.2.2).out))).mono ?_
  rintro e wA ⟨rfl, hbA⟩
  refine hK.out _ _ ?_ (fun hHeld => ?_)
  · exact hS2.out _ (hBx2.out _ _ hHeld.2.2.2.2.2.2.2.2.2.2.2.2.2.2.2.2.2 hbA)
  clear hK K
  try simp only [qq1, qq2, qq3, Act.put, qq4, qq5, qq6]
  refine tkV 19 ?_
  try simp only [qq1, qq2, qq3, Act.put, qq4, qq5, qq6]
  refine wpT_done (by kernel_rfl) ?_ _
  obtain ⟨x0, x1, x2, x3, x4, x5, x6, x7, x8, x9, x10, x11, x12, x13, x14, x15, x16, FB2⟩ := hHeld
  clear x0 x1 x2 x3 x4 x5 x6 x7 x8 x9 x10 x11 x12 x13 x14 x15 x16 hS2 hBx2 HBA2
  have HL2_w0 := Lib.hid FB2.out
  obtain ⟨zc0, zc1, zc2, zc3, zc4, zc5, zc6, zc7, zc8, zc9, zc10, zc11, zc12, zc13, zc14, zc15⟩ := kC.out _ HL2_w0
  have kI_0 := kI.out _ HL2_w0
  have hbF := below_ext HBw.out HL2_w0.out
  go_wp2
  go_ret
  exact ⟨rfl, hbF⟩
theorem rtver_any (P Q G need : Int) (Cs : Option Addr) (cs : List Int) (cn cc : Nat) (Ks : Option Addr) (ks : List Int) (kn kc : Nat) (hcn : Hid (cs.length = cn)) (hkn : Hid (ks.length = kn)) (E1 E2 : Int) (A : Option Addr) (na ca : Nat) (C : Int) (Z : Option Addr) (nz cz : Nat) (ix : Int) (v : Int) (pA : Option Addr) (pal : List Int) (pna pca : Nat) (pC : Int) (pZ : Option Addr) (pzs : List Int) (pnz pcz : Nat) (han : Hid (pal.length = pna)) (hzn : Hid (pzs.length = pnz)) (hna : pna < 1000000) (hnz : pnz < 1000000) (s : ByteArray) (hs : s.size ≤ 1000) (r : Bool) (hr : Kp (tvrB P Q G need cs ks E1 ix v pC (bys s) pal pzs = r)) (hQ : Q < 9223372036854775808) (w : World) (hC : Hid (Sl w Cs cs)) (hK : Hid (Sl w Ks ks)) (hpA : Hid (Sl w pA pal)) (hpZ : Hid (Sl w pZ pzs)) :
    Calls Tryz.prog 25 #[gv P Q G, trV need Cs cn cc Ks kn kc, esV E1 E2 A na ca C Z nz cz, .string s, paV ix v pA pna pca pC pZ pnz pcz] w fun e' w' => e' = .returned (.bool r) ∧ Below w.heap.size w w' := by
  have hr1 := hr.1
  unfold tvrB at hr1
  rw [hkn.out] at hr1
  cases h1 : trB P Q G need cs ks with
  | false =>
    obtain rfl : r = false := by rw [← hr1, h1]; rfl
    exact rtver_1 P Q G need Cs cs cn cc Ks ks kn kc hcn hkn E1 E2 A na ca C Z nz cz ix v pA pal pna pca pC pZ pzs pnz pcz han hzn hna hnz s hs (Lib.hid h1) hQ w hC hK hpA hpZ
  | true =>
    cases h2 : memB kn ix with
    | false =>
      obtain rfl : r = false := by rw [← hr1, h1, h2]; rfl
      exact rtver_2 P Q G need Cs cs cn cc Ks ks kn kc hcn hkn E1 E2 A na ca C Z nz cz ix v pA pal pna pca pC pZ pzs pnz pcz han hzn hna hnz s hs (Lib.hid h1) (Lib.hid h2) hQ w hC hK hpA hpZ
    | true =>
      obtain ⟨HVG, n1, n2, n3, n4, n5, n6⟩ := trB_parts h1 hcn.out hkn.out
      obtain ⟨j, hjk, rfl⟩ := memB_parts h2
      obtain ⟨bK, oK, rfl⟩ := sl_some hK.out (by rw [hkn.out]; omega)
      rw [h1, h2, show ((j : Int) + 1 - 1).toNat = j by omega] at hr1
      have hr2 : eqVer P Q G G (ks.getD j 0) E1 v pC (bys s) pal pzs = r := by rw [← hr1]; rfl
      obtain ⟨k, hk⟩ : ∃ k, chkG P Q G [G, ks.getD j 0, E1, v] = k := ⟨_, rfl⟩
      rw [eqVer, hk] at hr2
      cases h0 : (k == 0) with
      | false =>
        obtain rfl : r = false := by rw [← hr2, h0]; rfl
        exact rtver_3 P Q G need Cs cs cn cc bK oK ks kn kc hcn hkn E1 E2 A na ca C Z nz cz j hjk n2 v pA pal pna pca pC pZ pzs pnz pcz han hzn hna hnz s hs (Lib.hid h1) (Lib.hid h2) _ (Lib.hid rfl) k (Lib.hid hk) (by simpa using h0) hQ w hC hK hpA hpZ
      | true =>
        obtain rfl : k = 0 := by simpa using h0
        exact rtver_4 P Q G need Cs cs cn cc bK oK ks kn kc hcn hkn E1 E2 A na ca C Z nz cz j hjk n2 v pA pal pna pca pC pZ pzs pnz pcz han hzn hna hnz s hs (Lib.hid h1) (Lib.hid h2) _ (Lib.hid rfl) (Lib.hid hk) r ⟨by rw [← hr2]; simp⟩ hQ w hC hK hpA hpZ
set_option maxHeartbeats 3200000 in
theorem tchk_2 (P Q G need : Int) (Cs : Option Addr) (cs : List Int) (cn cc : Nat) (Ks : Option Addr) (ks : List Int) (kn kc : Nat) (hcn : Hid (cs.length = cn)) (hkn : Hid (ks.length = kn)) (ix v : Int) (ht : Hid (trB P Q G need cs ks = true)) (r : Bool) (hr : Hid (rgtB P Q G ks ix v = r)) (hQ : Q < 9223372036854775808) (w : World) (hv : Hid (Vars w)) (hC : Hid (Sl w Cs cs)) (hK : Hid (Sl w Ks ks)) :
    Calls Tryz.prog 15 #[gv P Q G, trV need Cs cn cc Ks kn kc, shV ix v] w fun e' w' => e' = .returned (.bool r) ∧ Below w.heap.size w w' := by
  obtain ⟨HVG, n1, n2, n3, n4, n5, n6⟩ := trB_parts ht.out hcn.out hkn.out
  obtain ⟨w0, HW, HBw, kC⟩ := stz3 P Q G need Cs cn cc Ks kn kc ix v w
  have kV := Lib.hid (show ∀ u : World, Hid (Below w0.heap.size w0 u) → Hid (Vars u) from fun u h => Lib.hid ((hv.out.below) (below_ext HBw.out h.out)))
  have kCs := Lib.hid (show ∀ u : World, Hid (Below w0.heap.size w0 u) → Hid (Sl u Cs cs) from fun u h => Lib.hid ((hC.out.below) (below_ext HBw.out h.out)))
  have kKs := Lib.hid (show ∀ u : World, Hid (Below w0.heap.size w0 u) → Hid (Sl u Ks ks) from fun u h => Lib.hid ((hK.out.below) (below_ext HBw.out h.out)))
  have HB_0 : Hid (Below w0.heap.size w0 w0) := Lib.hid (Below.refl _ _)
  clear hv hC hK
  go_enter Tryz.func15, Tryz.ntmps15
  go_wp2_with fail
  rw [HW.out]
  obtain ⟨zc0, zc1, zc2, zc3, zc4, zc5, zc6, zc7⟩ := kC.out _ HB_0
  go_wp2_with fail
  refine (trv_any P Q G need Cs cs cn cc Ks ks kn kc hcn hkn true ht hQ _ (kV.out _ HB_0) (kCs.out _ HB_0) (kKs.out _ HB_0)).mono ?_
  rintro e w1 ⟨rfl, hb0⟩
  have HB_1 := Lib.hid (below_ext HB_0.out hb0)
  clear zc0 zc1 zc2 zc3 zc4 zc5 zc6 zc7
  clear hb0
  obtain ⟨zc0, zc1, zc2, zc3, zc4, zc5, zc6, zc7⟩ := kC.out _ HB_1
  go_wp2_with fail
  refine (right_any P Q G need Cs cn cc Ks ks kn kc ix v hkn n2 HVG r hr _ (kV.out _ HB_1) (kKs.out _ HB_1)).mono ?_
  rintro e w2 ⟨rfl, hb0⟩
  have HB_2 := Lib.hid (below_ext HB_1.out hb0)
  clear zc0 zc1 zc2 zc3 zc4 zc5 zc6 zc7
  clear hb0
  obtain ⟨zc0, zc1, zc2, zc3, zc4, zc5, zc6, zc7⟩ := kC.out _ HB_2
  have hbF := below_ext HBw.out HB_2.out
  go_wp2
  go_ret
  exact ⟨rfl, hbF⟩
set_option maxHeartbeats 3200000 in
theorem great50_any (need : Int) (Cs : Option Addr) (cn cc : Nat) (Ks : Option Addr) (kn kc : Nat) (r : Bool) (hr : Hid ((decide (50 < cn) || decide (50 < kn)) = r)) (w : World) :
    Calls Tryz.prog 10 #[trV need Cs cn cc Ks kn kc] w fun e' w' => e' = .returned (.bool r) ∧ Below w.heap.size w w' := by
  have hb := below_box0 w (trO need Cs cn cc Ks kn kc)
  by_cases h1 : 50 < cn
  · have d1 : decide ((50 : Int) < (cn : Int)) = true := by simp; omega
    obtain rfl : r = true := by rw [← hr.out, decide_eq_true h1]; rfl
    go_enter Tryz.func10, Tryz.ntmps10
    go_wp2
    go_ret
    exact ⟨rfl, hb⟩
  · have d1 : decide ((50 : Int) < (cn : Int)) = false := by simp; omega
    by_cases h2 : 50 < kn
    · have d2 : decide ((50 : Int) < (kn : Int)) = true := by simp; omega
      obtain rfl : r = true := by rw [← hr.out, decide_eq_true h2, Bool.or_true]
      go_enter Tryz.func10, Tryz.ntmps10
      go_wp2
      go_ret
      exact ⟨rfl, hb⟩
    · have d2 : decide ((50 : Int) < (kn : Int)) = false := by simp; omega
      obtain rfl : r = false := by rw [← hr.out, decide_eq_false h1, decide_eq_false h2]; rfl
      go_enter Tryz.func10, Tryz.ntmps10
      go_wp2
      go_ret
      exact ⟨rfl, hb⟩
def lngB (p : PartR) : Bool := decide (50 < p.na) || decide (50 < p.nz)
set_option maxHeartbeats 3200000 in
theorem lclos (ix v : Int) (A : Option Addr) (na ca : Nat) (C : Int) (Z : Option Addr) (nz cz : Nat) (r : Bool) (hr : Hid ((decide (50 < na) || decide (50 < nz)) = r)) (w : World) :
    Calls Tryz.prog 81 #[paV ix v A na ca C Z nz cz] w fun e' w' => e' = .returned (.bool r) ∧ Below w.heap.size w w' := by
  have hb := below_box0 w (paO ix v A na ca C Z nz cz)
  by_cases h1 : 50 < na
  · have d1 : decide ((50 : Int) < (na : Int)) = true := by simp; omega
    obtain rfl : r = true := by rw [← hr.out, decide_eq_true h1]; rfl
    go_enter Tryz.func81, Tryz.ntmps81
    go_wp2
    go_ret
    exact ⟨rfl, hb⟩
  · have d1 : decide ((50 : Int) < (na : Int)) = false := by simp; omega
    by_cases h2 : 50 < nz
    · have d2 : decide ((50 : Int) < (nz : Int)) = true := by simp; omega
      obtain rfl : r = true := by rw [← hr.out, decide_eq_true h2, Bool.or_true]
      go_enter Tryz.func81, Tryz.ntmps81
      go_wp2
      go_ret
      exact ⟨rfl, hb⟩
    · have d2 : decide ((50 : Int) < (nz : Int)) = false := by simp; omega
      obtain rfl : r = false := by rw [← hr.out, decide_eq_false h1, decide_eq_false h2]; rfl
      go_enter Tryz.func81, Tryz.ntmps81
      go_wp2
      go_ret
      exact ⟨rfl, hb⟩
theorem anya_step {f : PartR → Bool} {l : List PartR} {k : Nat} (hk : k < l.length) (h : f (l.getD k noPart) = false) : (l.drop k).any f = (l.drop (k + 1)).any f := by
  rw [List.drop_eq_getElem_cons hk, List.any_cons]
  rw [List.getD_eq_getElem?_getD, List.getElem?_eq_getElem hk] at h
  simp at h
  rw [h, Bool.false_or]
theorem anya_hit {f : PartR → Bool} {l : List PartR} {k : Nat} (hk : k < l.length) (h : f (l.getD k noPart) = true) : (l.drop k).any f = true := by
  rw [List.drop_eq_getElem_cons hk, List.any_cons]
  rw [List.getD_eq_getElem?_getD, List.getElem?_eq_getElem hk] at h
  simp at h
  rw [h, Bool.true_or]
set_option maxHeartbeats 3200000 in
theorem idx_long (L : Option Addr) (ps : List PartR) (n c : Nat) (hn : Hid (ps.length = n)) (hbig : n < 1000000) (w : World) (hs : Hid (Pa w L ps)) :
    Calls Tryz.prog 145 #[.slice L n c, .func (.func 81) #[] #[]] w fun e w' => ∃ i : Int, e = .returned (.int .i64 i) ∧ decide (0 ≤ i) = ps.any lngB ∧ Below w.heap.size w w' := by
  go_enter Tryz.func145, Tryz.ntmps145
  go_wp2
  go_loopw [8] (fun i wr => ∃ k : Nat, k ≤ n ∧ i = .int .i64 k ∧ Hid (ps.any lngB = (ps.drop k).any lngB) ∧ Hid (Below w.heap.size w wr)) (fun i _ => n - (intOf i).toNat)
  case atStart => exact ⟨0, by omega, rfl, Lib.hid rfl, Lib.hid (Below.refl _ _)⟩
  case round =>
    obtain ⟨k, hk, rfl, HR, HBr⟩ := hrel
    by_cases hlt : k < n
    · have hkl : k < ps.length := by rw [hn.out]; exact hlt
      obtain ⟨b, o, hA, i0, i1, i2, i3, i4, _⟩ := (hs.out.below HBr.out) k hkl
      subst hA
      cases hpx : lngB (ps.getD k noPart) with
      | false =>
        have HN : Hid (ps.any lngB = (ps.drop (k + 1)).any lngB) := Lib.hid (HR.out.trans (anya_step hkl hpx))
        obtain ⟨x, hx⟩ : ∃ x, ps.getD k noPart = x := ⟨_, rfl⟩
        obtain ⟨ix, v, A, na, ca, al, C, Z, nz, cz, zs⟩ := x
        rw [hx] at i0 i1 i2 i3 i4 hpx
        have HPX := Lib.hid hpx
        dsimp only at i0 i1 i2 i3 i4
        clear hx hkl hpx HR
        go_wp2_with fail
        refine (lclos ix v A na ca C Z nz cz false HPX wr).mono ?_
        rintro e w2 ⟨rfl, hb0⟩
        have HB2 := Lib.hid (below_ext HBr.out hb0)
        clear hb0 HBr i0 i1 i2 i3 i4
        go_wp2
        go_roundw
        case rel => exact ⟨k + 1, by omega, by go_num, HN, HB2⟩
        case measure => simp [intOf]; omega
      | true =>
        have HN : Hid (decide ((0 : Int) ≤ (k : Int)) = ps.any lngB) := Lib.hid (by rw [HR.out, anya_hit hkl hpx]; simp)
        obtain ⟨x, hx⟩ : ∃ x, ps.getD k noPart = x := ⟨_, rfl⟩
        obtain ⟨ix, v, A, na, ca, al, C, Z, nz, cz, zs⟩ := x
        rw [hx] at i0 i1 i2 i3 i4 hpx
        have HPX := Lib.hid hpx
        dsimp only at i0 i1 i2 i3 i4
        clear hx hkl hpx HR
        go_wp2_with fail
        refine (lclos ix v A na ca C Z nz cz true HPX wr).mono ?_
        rintro e w2 ⟨rfl, hb0⟩
        have HB2 := Lib.hid (below_ext HBr.out hb0)
        clear hb0 HBr i0 i1 i2 i3 i4
        go_wp2
        go_ret
        exact ⟨k, rfl, HN.out, HB2.out⟩
    · obtain rfl : k = n := by omega
      have HN : Hid (decide ((0 : Int) ≤ (-1 : Int)) = ps.any lngB) := Lib.hid (by rw [HR.out, ← hn.out]; simp)
      clear HR
      go_wp2
      go_ret
      exact ⟨-1, rfl, HN.out, HBr.out⟩
theorem long50_any (L : Option Addr) (ps : List PartR) (n c : Nat) (r : Bool) (hr : Hid (ps.any lngB = r)) (hn : Hid (ps.length = n)) (hbig : n < 1000000) (w : World) (hs : Hid (Pa w L ps)) :
    Calls Tryz.prog 22 #[.slice L n c] w fun e w' => e = .returned (.bool r) ∧ Below w.heap.size w w' := by
  have hcf : Calls Tryz.prog 80 #[.slice L n c, .func (.func 81) #[] #[]] w fun e w' => e = .returned (.bool r) ∧ Below w.heap.size w w' := by
    go_enter Tryz.func80, Tryz.ntmps80
    go_wp2_with fail
    refine (idx_long L ps n c hn hbig _ hs).mono ?_
    rintro e w1 ⟨i, rfl, hi, hb1⟩
    have hd : decide ((0 : Int) ≤ i) = r := hi.trans hr.out
    clear hi
    go_wp2
    go_ret
    exact ⟨by first | rfl | (rw [← hd]) | simp [hd], hb1⟩
  have HCF := Lib.hid hcf
  clear hcf
  go_enter Tryz.func22, Tryz.ntmps22
  go_wp2_with fail
  refine HCF.out.mono ?_
  rintro e w1 ⟨rfl, hb1⟩
  go_wp2
  go_ret
  exact ⟨rfl, hb1⟩
def SmOut (w : World) (e : Ending) (w' : World) : Prop := ∃ b1 b2 b3, e = .returned (.tuple #[gv 23 11 4, trV 2 (some ⟨b1, 0, none⟩) 2 2 (some ⟨b2, 0, none⟩) 3 3, .slice (some ⟨b3, 0, none⟩) 3 3]) ∧ Sl w' (some ⟨b1, 0, none⟩) [18, 16] ∧ Sl w' (some ⟨b2, 0, none⟩) [12, 8, 13] ∧ w'.heap[b3]? = some (.cells #[.int .i64 1, .int .i64 5, .int .i64 2, .int .i64 7, .int .i64 3, .int .i64 9] 35) ∧ Below w.heap.size w w'
set_option maxHeartbeats 3200000 in
theorem small50 (w : World) : Calls Tryz.prog 48 #[] w (SmOut w) := by
  obtain ⟨h0, h1, h2, h3, h4, hb⟩ := five w (gObj 23 11 4) (trO 2 (some ⟨w.heap.size + 1 + 1, 0, none⟩) 2 2 (some ⟨w.heap.size + 1 + 1 + 1, 0, none⟩) 3 3) (.cells #[.int .i64 18, .int .i64 16] 3) (.cells #[.int .i64 12, .int .i64 8, .int .i64 13] 3) (.cells #[.int .i64 1, .int .i64 5, .int .i64 2, .int .i64 7, .int .i64 3, .int .i64 9] 35)
  have c0 := cell_blk h0 0
  have c1 := cell_blk h0 1
  have c2 := cell_blk h0 2
  have d0 := cell_blk h1 0
  have d1 := cell_blk h1 1
  have d2 := cell_blk h1 2
  go_enter Tryz.func48, Tryz.ntmps48
  go_wp2
  exact bodyPost_ret (v := .tuple #[gv 23 11 4, trV 2 (some ⟨w.heap.size + 1 + 1, 0, none⟩) 2 2 (some ⟨w.heap.size + 1 + 1 + 1, 0, none⟩) 3 3, .slice (some ⟨w.heap.size + 1 + 1 + 1 + 1, 0, none⟩) 3 3]) (by simp [results, Tryz.results48, go_sem, c0, c1, c2, d0, d1, d2]) rfl
    ⟨_, _, _, rfl, sl_blk h2 (fun k hk => by match k, hk with | 0, _ => rfl | 1, _ => rfl), sl_blk h3 (fun k hk => by match k, hk with | 0, _ => rfl | 1, _ => rfl | 2, _ => rfl), h4, hb⟩
theorem nt12 : NoTwice [1, 2] := fun i j hi hj => by
  have h : i < 2 := hi
  obtain rfl : i = 1 := by omega
  obtain rfl : j = 0 := by omega
  decide
theorem ex50t : Hid (trB 23 11 4 2 [18, 16] [12, 8, 13] = true) := Lib.hid (by kernel_rfl)
theorem ex50a : Hid (rgtB 23 11 4 [12, 8, 13] 1 5 = true) := Lib.hid (by kernel_rfl)
theorem ex50b : Hid (rgtB 23 11 4 [12, 8, 13] 3 9 = true) := Lib.hid (by kernel_rfl)
theorem ex50e : secE 23 11 4 2 [12, 8, 13] [(1, 5), (2, 7)] = 0 := by
  rw [secE, if_pos (show ([(1, 5), (2, 7)] : List (Int × Int)).all (fun p => rgtB 23 11 4 [12, 8, 13] p.1 p.2) = true by kernel_rfl), if_pos (@decide_eq_true _ (Classical.propDecidable _) (show NoTwice (ixs [(1, 5), (2, 7)]) from nt12)), if_neg (by decide)]
theorem wt50a : wtI 11 [1, 2] 0 0 = 2 := by
  rw [wtI, show tpM 11 [1, 2] 0 0 ([1, 2] : List Int).length = 9 by decide, show tpM 11 [1, 2] 0 (([1, 2] : List Int).getD 0 0) ([1, 2] : List Int).length = 10 by decide, invOf_eq (x := 10) ⟨by decide, by decide, .inl (by decide)⟩]
  decide
theorem wt50b : wtI 11 [1, 2] 0 1 = 10 := by
  rw [wtI, show tpM 11 [1, 2] 1 0 ([1, 2] : List Int).length = 10 by decide, show tpM 11 [1, 2] 1 (([1, 2] : List Int).getD 1 0) ([1, 2] : List Int).length = 1 by decide, invOf_eq (x := 1) ⟨by decide, by decide, .inl (by decide)⟩]
  decide
theorem ex50v : secV 23 11 4 2 [12, 8, 13] [(1, 5), (2, 7)] = 3 := by
  rw [secV, ex50e, if_pos rfl, show (2 : Int).toNat = 2 from rfl, show ((ixs [(1, 5), (2, 7)]).take 2) = [1, 2] from rfl, show vls [(1, 5), (2, 7)] = [5, 7] from rfl]
  simp only [smM, wt50a, wt50b]
  decide
theorem sh50 {w : World} {b : Nat} (h : w.heap[b]? = some (.cells #[.int .i64 1, .int .i64 5, .int .i64 2, .int .i64 7, .int .i64 3, .int .i64 9] 35)) : Sh w (some ⟨b, 0, none⟩) [(1, 5), (2, 7)] := fun k hk => by
  match k, hk with
  | 0, _ => exact ⟨b, 0, rfl, cell_blk h 0, cell_blk h 1⟩
  | 1, _ => exact ⟨b, 0, rfl, cell_blk h 2, cell_blk h 3⟩
theorem sec50 (b1 b2 b3 : Nat) (w : World) (hv : Hid (Vars w)) (hC : Hid (Sl w (some ⟨b1, 0, none⟩) [18, 16])) (hK : Hid (Sl w (some ⟨b2, 0, none⟩) [12, 8, 13])) (hA : Hid (Sh w (some ⟨b3, 0, none⟩) [(1, 5), (2, 7)])) :
    Calls Tryz.prog 11 #[gv 23 11 4, trV 2 (some ⟨b1, 0, none⟩) 2 2 (some ⟨b2, 0, none⟩) 3 3, .slice (some ⟨b3, 0, none⟩) 2 3] w fun e' w' => e' = .returned (.tuple #[.int .i64 3, .int .i64 0]) ∧ Below w.heap.size w w' := by
  have h := sec_2 23 11 4 2 (some ⟨b1, 0, none⟩) [18, 16] 2 2 (some ⟨b2, 0, none⟩) [12, 8, 13] 3 3 (Lib.hid rfl) (Lib.hid rfl) (some ⟨b3, 0, none⟩) [(1, 5), (2, 7)] 2 3 (Lib.hid rfl) (by omega) (Lib.hid (fun k hk => by
    match k, hk with
    | 0, _ => exact ⟨by decide, by decide⟩
    | 1, _ => exact ⟨by decide, by decide⟩)) ex50t (by omega) w hv hC hK hA
  rw [show ((2 : Nat) : Int) = 2 from rfl, ex50e, ex50v] at h
  exact h
set_option maxHeartbeats 12800000 in
theorem awake50 (w : World) (hv : Hid (Vars w)) :
    Calls Tryz.prog 9 #[] w fun e' w' => e' = .returned (.bool true) ∧ Below w.heap.size w w' := by
  obtain ⟨w0, hW⟩ : ∃ W, w = W := ⟨_, rfl⟩
  have HBw : Hid (Below w.heap.size w w0) := Lib.hid (by rw [← hW]; exact Below.refl _ _)
  have kC := Lib.hid (show ∀ u : World, Hid (Below w0.heap.size w0 u) → True from fun _ _ => trivial)
  have kV := Lib.hid (show ∀ u : World, Hid (Below w0.heap.size w0 u) → Hid (Vars u) from fun u h => Lib.hid ((hv.out.below) (below_ext HBw.out h.out)))
  have HB_0 : Hid (Below w0.heap.size w0 w0) := Lib.hid (Below.refl _ _)
  have HW := Lib.hid hW
  clear hW hv
  go_enter Tryz.func9, Tryz.ntmps9
  go_wp2_with fail
  rw [HW.out]
  go_wp2_with fail
  refine (small50 _).mono ?_
  intro e w1 hE
  obtain ⟨b1, b2, b3, rfl, hC9, hK9, hS9, hb0⟩ := hE
  have HC9 := Lib.hid hC9
  have HK9 := Lib.hid hK9
  have HS9 := Lib.hid hS9
  clear hC9 hK9 hS9
  have HB_1 := Lib.hid (below_ext HB_0.out hb0)
  clear hb0
  have HB_w1_1 : Hid (Below w1.heap.size w1 w1) := Lib.hid (Below.refl _ _)
  have kCs := Lib.hid (show ∀ u : World, Hid (Below w1.heap.size w1 u) → Hid (Sl u (some ⟨b1, 0, none⟩) [18, 16]) from fun u h => Lib.hid (HC9.out.below h.out))
  have kKs := Lib.hid (show ∀ u : World, Hid (Below w1.heap.size w1 u) → Hid (Sl u (some ⟨b2, 0, none⟩) [12, 8, 13]) from fun u h => Lib.hid (HK9.out.below h.out))
  have kA := Lib.hid (show ∀ u : World, Hid (Below w1.heap.size w1 u) → Hid (Sh u (some ⟨b3, 0, none⟩) [(1, 5), (2, 7)]) from fun u h => Lib.hid ((sh50 HS9.out).below h.out))
  have kSC := Lib.hid (show ∀ u : World, Hid (Below w1.heap.size w1 u) → u.cell? ⟨b3, 0, none⟩ = some (.int .i64 1) ∧ u.cell? ⟨b3, 1, none⟩ = some (.int .i64 5) ∧ u.cell? ⟨b3, 2, none⟩ = some (.int .i64 2) ∧ u.cell? ⟨b3, 3, none⟩ = some (.int .i64 7) ∧ u.cell? ⟨b3, 4, none⟩ = some (.int .i64 3) ∧ u.cell? ⟨b3, 5, none⟩ = some (.int .i64 9) from fun u h => ⟨cell_below (cell_blk HS9.out 0) h.out, cell_below (cell_blk HS9.out 1) h.out, cell_below (cell_blk HS9.out 2) h.out, cell_below (cell_blk HS9.out 3) h.out, cell_below (cell_blk HS9.out 4) h.out, cell_below (cell_blk HS9.out 5) h.out⟩)
  obtain ⟨wX, hwX⟩ : ∃ x, ((w1.alloc (gObj 23 11 4)).alloc (trO 2 (some ⟨b1, 0, none⟩) 2 2 (some ⟨b2, 0, none⟩) 3 3)) = x := ⟨_, rfl⟩
  have hbx : Below w1.heap.size w1 wX := by rw [← hwX]; exact below_ext (below_box0 _ _) (below_box0 _ _)
  have hcx : wX.cell? ⟨w1.heap.size, 0, none⟩ = some (.int .i64 23) ∧ wX.cell? ⟨w1.heap.size, 1, none⟩ = some (.int .i64 11) ∧ wX.cell? ⟨w1.heap.size, 2, none⟩ = some (.int .i64 4) ∧ wX.cell? ⟨w1.heap.size + 1, 0, none⟩ = some (.int .i64 2) ∧ wX.cell? ⟨w1.heap.size + 1, 1, none⟩ = some (.slice (some ⟨b1, 0, none⟩) 2 2) ∧ wX.cell? ⟨w1.heap.size + 1, 2, none⟩ = some (.slice (some ⟨b2, 0, none⟩) 3 3) := by rw [← hwX]; exact ⟨cell_below (allocs_cell rfl (by rfl)) (below_box0 _ _), cell_below (allocs_cell rfl (by rfl)) (below_box0 _ _), cell_below (allocs_cell rfl (by rfl)) (below_box0 _ _), allocs_cell (by simp) (by rfl), allocs_cell (by simp) (by rfl), allocs_cell (by simp) (by rfl)⟩
  have kBX := Lib.hid (show ∀ u : World, Hid (Below wX.heap.size wX u) → u.cell? ⟨w1.heap.size, 0, none⟩ = some (.int .i64 23) ∧ u.cell? ⟨w1.heap.size, 1, none⟩ = some (.int .i64 11) ∧ u.cell? ⟨w1.heap.size, 2, none⟩ = some (.int .i64 4) ∧ u.cell? ⟨w1.heap.size + 1, 0, none⟩ = some (.int .i64 2) ∧ u.cell? ⟨w1.heap.size + 1, 1, none⟩ = some (.slice (some ⟨b1, 0, none⟩) 2 2) ∧ u.cell? ⟨w1.heap.size + 1, 2, none⟩ = some (.slice (some ⟨b2, 0, none⟩) 3 3) from fun u h => by
    obtain ⟨z0, z1, z2, z3, z4, z5⟩ := hcx
    exact ⟨cell_below z0 h.out, cell_below z1 h.out, cell_below z2 h.out, cell_below z3 h.out, cell_below z4 h.out, cell_below z5 h.out⟩)
  have HWX := Lib.hid hwX
  have HCX := Lib.hid hcx
  have HB_2 := Lib.hid (below_ext HB_1.out hbx)
  have HB_w1_2 := Lib.hid (below_ext HB_w1_1.out hbx)
  clear hbx hwX hcx
  have HB_wX_2 : Hid (Below wX.heap.size wX wX) := Lib.hid (Below.refl _ _)
  obtain ⟨kSC_0, kSC_1, kSC_2, kSC_3, kSC_4, kSC_5⟩ := kSC.out _ HB_w1_2
  obtain ⟨kBX_0, kBX_1, kBX_2, kBX_3, kBX_4, kBX_5⟩ := kBX.out _ HB_wX_2
  go_upto_region 2 with (fail)
  rw [HWX.out]
  clear kSC_0 kSC_1 kSC_2 kSC_3 kSC_4 kSC_5 kBX_0 kBX_1 kBX_2 kBX_3 kBX_4 kBX_5
  have hBx3 := Lib.hid (show ∀ u u2 : World, Hid (Below w0.heap.size w0 u ∧ Below w1.heap.size w1 u ∧ Below wX.heap.size wX u) → Below u.heap.size u u2 → Hid (Below w0.heap.size w0 u2 ∧ Below w1.heap.size w1 u2 ∧ Below wX.heap.size wX u2) from fun u u2 h1 h2 => Lib.hid ⟨(below_ext h1.out.1 h2), (below_ext h1.out.2.1 h2), (below_ext h1.out.2.2 h2)⟩)
  have hS3 := Lib.hid (show ∀ u : World, Hid (Below w0.heap.size w0 u ∧ Below w1.heap.size w1 u ∧ Below wX.heap.size wX u) → (u.cell? ⟨b3, 0, none⟩ = some (.int .i64 1) ∧ u.cell? ⟨b3, 1, none⟩ = some (.int .i64 5) ∧ u.cell? ⟨b3, 2, none⟩ = some (.int .i64 2) ∧ u.cell? ⟨b3, 3, none⟩ = some (.int .i64 7) ∧ u.cell? ⟨b3, 4, none⟩ = some (.int .i64 3) ∧ u.cell? ⟨b3, 5, none⟩ = some (.int .i64 9) ∧ u.cell? ⟨w1.heap.size, 0, none⟩ = some (.int .i64 23) ∧ u.cell? ⟨w1.heap.size, 1, none⟩ = some (.int .i64 11) ∧ u.cell? ⟨w1.heap.size, 2, none⟩ = some (.int .i64 4) ∧ u.cell? ⟨w1.heap.size + 1, 0, none⟩ = some (.int .i64 2) ∧ u.cell? ⟨w1.heap.size + 1, 1, none⟩ = some (.slice (some ⟨b1, 0, none⟩) 2 2) ∧ u.cell? ⟨w1.heap.size + 1, 2, none⟩ = some (.slice (some ⟨b2, 0, none⟩) 3 3) ∧ Hid (Below w0.heap.size w0 u ∧ Below w1.heap.size w1 u ∧ Below wX.heap.size wX u)) from fun u h1 => by
    obtain ⟨kSC_0, kSC_1, kSC_2, kSC_3, kSC_4, kSC_5⟩ := kSC.out _ (Lib.hid h1.out.2.1)
    obtain ⟨kBX_0, kBX_1, kBX_2, kBX_3, kBX_4, kBX_5⟩ := kBX.out _ (Lib.hid h1.out.2.2)
    exact ⟨kSC_0, kSC_1, kSC_2, kSC_3, kSC_4, kSC_5, kBX_0, kBX_1, kBX_2, kBX_3, kBX_4, kBX_5, h1⟩)
  have HBA3 : Hid (Below w0.heap.size w0 wX ∧ Below w1.heap.size w1 wX ∧ Below wX.heap.size wX wX) := Lib.hid ⟨HB_2.out, HB_w1_2.out, HB_wX_2.out⟩
  refine wp_region_T (S := fun w' => w'.cell? ⟨b3, 0, none⟩ = some (.int .i64 1) ∧ w'.cell? ⟨b3, 1, none⟩ = some (.int .i64 5) ∧ w'.cell? ⟨b3, 2, none⟩ = some (.int .i64 2) ∧ w'.cell? ⟨b3, 3, none⟩ = some (.int .i64 7) ∧ w'.cell? ⟨b3, 4, none⟩ = some (.int .i64 3) ∧ w'.cell? ⟨b3, 5, none⟩ = some (.int .i64 9) ∧ w'.cell? ⟨w1.heap.size, 0, none⟩ = some (.int .i64 23) ∧ w'.cell? ⟨w1.heap.size, 1, none⟩ = some (.int .i64 11) ∧ w'.cell? ⟨w1.heap.size, 2, none⟩ = some (.int .i64 4) ∧ w'.cell? ⟨w1.heap.size + 1, 0, none⟩ = some (.int .i64 2) ∧ w'.cell? ⟨w1.heap.size + 1, 1, none⟩ = some (.slice (some ⟨b1, 0, none⟩) 2 2) ∧ w'.cell? ⟨w1.heap.size + 1, 2, none⟩ = some (.slice (some ⟨b2, 0, none⟩) 3 3) ∧ Hid (Below w0.heap.size w0 w' ∧ Below w1.heap.size w1 w' ∧ Below wX.heap.size wX w')) (E := []) (by kernel_rfl) (hS3.out _ (hBx3.out _ _ HBA3 ((Below.refl _ _).drew))) (fun hHeld => ?_)
  refine tkV 0 ?_
  try simp only [qq1, qq2, qq3, Act.put, qq4, qq5, qq6]
  refine tkV 1 ?_
  try simp only [qq1, qq2, qq3, Act.put, qq4, qq5, qq6]
  refine tkV 2 ?_
  try simp only [qq1, qq2, qq3, Act.put, qq4, qq5, qq6]
  refine tkV 3 ?_
  try simp only [qq1, qq2, qq3, Act.put, qq4, qq5, qq6]
  refine wpT_one (i := 4) (by kernel_rfl) rfl (fun K hK => ?_)
  go_simp
  refine (sec50 b1 b2 b3 _ (kV.out _ (Lib.hid (hHeld.2.2.2.2.2.2.2.2.2.2.2.2).out.1)) (kCs.out _ (Lib.hid (hHeld.2.2.2.2.2.2.2.2.2.2.2.2).out.2.1)) (kKs.out _ (Lib.hid (hHeld.2.2.2.2.2.2.2.2.2.2.2.2).out.2.1)) (kA.out _ (Lib.hid (hHeld.2.2.2.2.2.2.2.2.2.2.2.2).out.2.1))).mono ?_
  rintro e wA ⟨rfl, hbA⟩
  refine hK.out _ _ ?_ (fun hHeld => ?_)
  · exact hS3.out _ (hBx3.out _ _ hHeld.2.2.2.2.2.2.2.2.2.2.2.2 hbA)
  clear hK K
  try simp only [qq1, qq2, qq3, Act.put, qq4, qq5, qq6]
  refine tkV 5 ?_
  try simp only [qq1, qq2, qq3, Act.put, qq4, qq5, qq6]
  refine tkV 6 ?_
  try simp only [qq1, qq2, qq3, Act.put, qq4, qq5, qq6]
  refine tkV 7 ?_
  try simp only [qq1, qq2, qq3, Act.put, qq4, qq5, qq6]
  refine tkV 8 ?_
  try simp only [qq1, qq2, qq3, Act.put, qq4, qq5, qq6]
  refine tkV 9 ?_
  try simp only [qq1, qq2, qq3, Act.put, qq4, qq5, qq6]
  refine wpT_done (by kernel_rfl) ?_ _
  obtain ⟨x0, x1, x2, x3, x4, x5, x6, x7, x8, x9, x10, x11, FB3⟩ := hHeld
  clear x0 x1 x2 x3 x4 x5 x6 x7 x8 x9 x10 x11 hS3 hBx3 HBA3
  have HL3_w0 := Lib.hid FB3.out.1
  have HL3_w1 := Lib.hid FB3.out.2.1
  have HL3_wX := Lib.hid FB3.out.2.2
  obtain ⟨kSC_0, kSC_1, kSC_2, kSC_3, kSC_4, kSC_5⟩ := kSC.out _ HL3_w1
  obtain ⟨kBX_0, kBX_1, kBX_2, kBX_3, kBX_4, kBX_5⟩ := kBX.out _ HL3_wX
  go_upto_region 3 with (fail)
  clear kSC_0 kSC_1 kSC_2 kSC_3 kSC_4 kSC_5 kBX_0 kBX_1 kBX_2 kBX_3 kBX_4 kBX_5
  have hBx4 := Lib.hid (show ∀ u u2 : World, Hid (Below w0.heap.size w0 u ∧ Below w1.heap.size w1 u ∧ Below wX.heap.size wX u) → Below u.heap.size u u2 → Hid (Below w0.heap.size w0 u2 ∧ Below w1.heap.size w1 u2 ∧ Below wX.heap.size wX u2) from fun u u2 h1 h2 => Lib.hid ⟨(below_ext h1.out.1 h2), (below_ext h1.out.2.1 h2), (below_ext h1.out.2.2 h2)⟩)
  have hS4 := Lib.hid (show ∀ u : World, Hid (Below w0.heap.size w0 u ∧ Below w1.heap.size w1 u ∧ Below wX.heap.size wX u) → (u.cell? ⟨b3, 0, none⟩ = some (.int .i64 1) ∧ u.cell? ⟨b3, 1, none⟩ = some (.int .i64 5) ∧ u.cell? ⟨b3, 2, none⟩ = some (.int .i64 2) ∧ u.cell? ⟨b3, 3, none⟩ = some (.int .i64 7) ∧ u.cell? ⟨b3, 4, none⟩ = some (.int .i64 3) ∧ u.cell? ⟨b3, 5, none⟩ = some (.int .i64 9) ∧ u.cell? ⟨w1.heap.size, 0, none⟩ = some (.int .i64 23) ∧ u.cell? ⟨w1.heap.size, 1, none⟩ = some (.int .i64 11) ∧ u.cell? ⟨w1.heap.size, 2, none⟩ = some (.int .i64 4) ∧ u.cell? ⟨w1.heap.size + 1, 0, none⟩ = some (.int .i64 2) ∧ u.cell? ⟨w1.heap.size + 1, 1, none⟩ = some (.slice (some ⟨b1, 0, none⟩) 2 2) ∧ u.cell? ⟨w1.heap.size + 1, 2, none⟩ = some (.slice (some ⟨b2, 0, none⟩) 3 3) ∧ Hid (Below w0.heap.size w0 u ∧ Below w1.heap.size w1 u ∧ Below wX.heap.size wX u)) from fun u h1 => by
    obtain ⟨kSC_0, kSC_1, kSC_2, kSC_3, kSC_4, kSC_5⟩ := kSC.out _ (Lib.hid h1.out.2.1)
    obtain ⟨kBX_0, kBX_1, kBX_2, kBX_3, kBX_4, kBX_5⟩ := kBX.out _ (Lib.hid h1.out.2.2)
    exact ⟨kSC_0, kSC_1, kSC_2, kSC_3, kSC_4, kSC_5, kBX_0, kBX_1, kBX_2, kBX_3, kBX_4, kBX_5, h1⟩)
  have HBA4 : Hid (Below w0.heap.size w0 _ ∧ Below w1.heap.size w1 _ ∧ Below wX.heap.size wX _) := Lib.hid ⟨HL3_w0.out, HL3_w1.out, HL3_wX.out⟩
  refine wp_region_T (S := fun w' => w'.cell? ⟨b3, 0, none⟩ = some (.int .i64 1) ∧ w'.cell? ⟨b3, 1, none⟩ = some (.int .i64 5) ∧ w'.cell? ⟨b3, 2, none⟩ = some (.int .i64 2) ∧ w'.cell? ⟨b3, 3, none⟩ = some (.int .i64 7) ∧ w'.cell? ⟨b3, 4, none⟩ = some (.int .i64 3) ∧ w'.cell? ⟨b3, 5, none⟩ = some (.int .i64 9) ∧ w'.cell? ⟨w1.heap.size, 0, none⟩ = some (.int .i64 23) ∧ w'.cell? ⟨w1.heap.size, 1, none⟩ = some (.int .i64 11) ∧ w'.cell? ⟨w1.heap.size, 2, none⟩ = some (.int .i64 4) ∧ w'.cell? ⟨w1.heap.size + 1, 0, none⟩ = some (.int .i64 2) ∧ w'.cell? ⟨w1.heap.size + 1, 1, none⟩ = some (.slice (some ⟨b1, 0, none⟩) 2 2) ∧ w'.cell? ⟨w1.heap.size + 1, 2, none⟩ = some (.slice (some ⟨b2, 0, none⟩) 3 3) ∧ Hid (Below w0.heap.size w0 w' ∧ Below w1.heap.size w1 w' ∧ Below wX.heap.size wX w')) (E := []) (by kernel_rfl) (hS4.out _ (hBx4.out _ _ HBA4 ((Below.refl _ _).drew))) (fun hHeld => ?_)
  refine tkV 0 ?_
  try simp only [qq1, qq2, qq3, Act.put, qq4, qq5, qq6]
  refine tkV 1 ?_
  try simp only [qq1, qq2, qq3, Act.put, qq4, qq5, qq6]
  refine wpT_one (i := 2) (by kernel_rfl) rfl (fun K hK => ?_)
  go_simp
  refine (trv_any 23 11 4 2 (some ⟨b1, 0, none⟩) [18, 16] 2 2 (some ⟨b2, 0, none⟩) [12, 8, 13] 3 3 (Lib.hid rfl) (Lib.hid rfl) true ex50t (by omega) _ (kV.out _ (Lib.hid (hHeld.2.2.2.2.2.2.2.2.2.2.2.2).out.1)) (kCs.out _ (Lib.hid (hHeld.2.2.2.2.2.2.2.2.2.2.2.2).out.2.1)) (kKs.out _ (Lib.hid (hHeld.2.2.2.2.2.2.2.2.2.2.2.2).out.2.1))).mono ?_
  rintro e wA ⟨rfl, hbA⟩
  refine hK.out _ _ ?_ (fun hHeld => ?_)
  · exact hS4.out _ (hBx4.out _ _ hHeld.2.2.2.2.2.2.2.2.2.2.2.2 hbA)
  clear hK K
  try simp only [qq1, qq2, qq3, Act.put, qq4, qq5, qq6]
  refine tkV 3 ?_
  try simp only [qq1, qq2, qq3, Act.put, qq4, qq5, qq6]
  refine tkV 4 ?_
  try simp only [qq1, qq2, qq3, Act.put, qq4, qq5, qq6]
  refine tkV 5 ?_
  try simp only [qq1, qq2, qq3, Act.put, qq4, qq5, qq6]
  refine tkV 6 ?_
  try simp only [qq1, qq2, qq3, Act.put, qq4, qq5, qq6]
  refine tkV 7 ?_
  try simp only [qq1, qq2, qq3, Act.put, qq4, qq5, qq6]
  refine tkV 8 ?_
  try simp only [qq1, qq2, qq3, Act.put, qq4, qq5, qq6]
  refine wpT_one (i := 9) (by kernel_rfl) rfl (fun K hK => ?_)
  go_simp
  refine (tchk_2 23 11 4 2 (some ⟨b1, 0, none⟩) [18, 16] 2 2 (some ⟨b2, 0, none⟩) [12, 8, 13] 3 3 (Lib.hid rfl) (Lib.hid rfl) 1 5 ex50t true ex50a (by omega) _ (kV.out _ (Lib.hid (hHeld.2.2.2.2.2.2.2.2.2.2.2.2).out.1)) (kCs.out _ (Lib.hid (hHeld.2.2.2.2.2.2.2.2.2.2.2.2).out.2.1)) (kKs.out _ (Lib.hid (hHeld.2.2.2.2.2.2.2.2.2.2.2.2).out.2.1))).mono ?_
  rintro e wA ⟨rfl, hbA⟩
  refine hK.out _ _ ?_ (fun hHeld => ?_)
  · exact hS4.out _ (hBx4.out _ _ hHeld.2.2.2.2.2.2.2.2.2.2.2.2 hbA)
  clear hK K
  try simp only [qq1, qq2, qq3, Act.put, qq4, qq5, qq6]
  refine tkV 10 ?_
  try simp only [qq1, qq2, qq3, Act.put, qq4, qq5, qq6]
  refine tkV 11 ?_
  try simp only [qq1, qq2, qq3, Act.put, qq4, qq5, qq6]
  refine tkV 12 ?_
  try simp only [qq1, qq2, qq3, Act.put, qq4, qq5, qq6]
  refine tkV 13 ?_
  try simp only [qq1, qq2, qq3, Act.put, qq4, qq5, qq6]
  refine tkV 14 ?_
  try simp only [qq1, qq2, qq3, Act.put, qq4, qq5, qq6]
  refine tkV 15 ?_
  try simp only [qq1, qq2, qq3, Act.put, qq4, qq5, qq6]
  refine tkV 16 ?_
  try simp only [qq1, qq2, qq3, Act.put, qq4, qq5, qq6]
  refine wpT_one (i := 17) (by kernel_rfl) rfl (fun K hK => ?_)
  go_simp
  refine (tchk_2 23 11 4 2 (some ⟨b1, 0, none⟩) [18, 16] 2 2 (some ⟨b2, 0, none⟩) [12, 8, 13] 3 3 (Lib.hid rfl) (Lib.hid rfl) 3 9 ex50t true ex50b (by omega) _ (kV.out _ (Lib.hid (hHeld.2.2.2.2.2.2.2.2.2.2.2.2).out.1)) (kCs.out _ (Lib.hid (hHeld.2.2.2.2.2.2.2.2.2.2.2.2).out.2.1)) (kKs.out _ (Lib.hid (hHeld.2.2.2.2.2.2.2.2.2.2.2.2).out.2.1))).mono ?_
  rintro e wA ⟨rfl, hbA⟩
  refine hK.out _ _ ?_ (fun hHeld => ?_)
  · exact hS4.out _ (hBx4.out _ _ hHeld.2.2.2.2.2.2.2.2.2.2.2.2 hbA)
  clear hK K
  try simp only [qq1, qq2, qq3, Act.put, qq4, qq5, qq6]
  refine tkV 18 ?_
  try simp only [qq1, qq2, qq3, Act.put, qq4, qq5, qq6]
  refine tkV 19 ?_
  try simp only [qq1, qq2, qq3, Act.put, qq4, qq5, qq6]
  refine tkV 20 ?_
  try simp only [qq1, qq2, qq3, Act.put, qq4, qq5, qq6]
  refine tkV 21 ?_
  try simp only [qq1, qq2, qq3, Act.put, qq4, qq5, qq6]
  refine tkV 22 ?_
  try simp only [qq1, qq2, qq3, Act.put, qq4, qq5, qq6]
  refine tkV 23 ?_
  try simp only [qq1, qq2, qq3, Act.put, qq4, qq5, qq6]
  refine tkV 24 ?_
  try simp only [qq1, qq2, qq3, Act.put, qq4, qq5, qq6]
  refine tkV 25 ?_
  try simp only [qq1, qq2, qq3, Act.put, qq4, qq5, qq6]
  refine tkV 26 ?_
  try simp only [qq1, qq2, qq3, Act.put, qq4, qq5, qq6]
  refine tkV 27 ?_
  try simp only [qq1, qq2, qq3, Act.put, qq4, qq5, qq6]
  refine wpT_done (by kernel_rfl) ?_ _
  obtain ⟨x0, x1, x2, x3, x4, x5, x6, x7, x8, x9, x10, x11, FB4⟩ := hHeld
  clear x0 x1 x2 x3 x4 x5 x6 x7 x8 x9 x10 x11 hS4 hBx4 HBA4
  have HL4_w0 := Lib.hid FB4.out.1
  have HL4_w1 := Lib.hid FB4.out.2.1
  have HL4_wX := Lib.hid FB4.out.2.2
  obtain ⟨kSC_0, kSC_1, kSC_2, kSC_3, kSC_4, kSC_5⟩ := kSC.out _ HL4_w1
  obtain ⟨kBX_0, kBX_1, kBX_2, kBX_3, kBX_4, kBX_5⟩ := kBX.out _ HL4_wX
  have hbF := below_ext HBw.out HL4_w0.out
  go_wp2
  go_ret
  exact ⟨rfl, hbF⟩
end Go.Proofs.YtjnoaejikapmdaaGreatDoor
