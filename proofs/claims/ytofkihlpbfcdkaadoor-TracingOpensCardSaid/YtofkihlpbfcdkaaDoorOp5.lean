/- Contracts and lemmas: TlN, TlO, TlP, TlQ, Row, TlR, TmA, TmB, TmC, TmD. -/
import Derived.Deep.MidRow
import Derived.Deep.RegionLaw
import Derived.Laws.AppendOwnNone
import Derived.Laws.BytesArg
import Derived.Test.YtofkihlpbfcdkaaDoorOp4
namespace Go.Proofs.YtofkihlpbfcdkaaDoor
open Go.RowKit SpM
set_option linter.unusedVariables false
set_option linter.unusedSimpArgs false
set_option maxRecDepth 100000
theorem Sl.setRowS {w : World} {A : Option Addr} {xs : List Int} {a : Nat} {cs : Array Value} (h : Sl w A xs) (hne : ∀ b o, A = some ⟨b, o, none⟩ → 0 < xs.length → a < b) : Sl (w.setRow a cs) A xs := fun k hk => by
  obtain ⟨b, o, e, hc⟩ := h k hk
  have := hne b o e (by omega)
  exact ⟨b, o, e, (cell_agree (setRow_other w a b cs (by omega))).trans hc⟩
def PrOutT (na : Nat) (al : List Int) (C : Int) (nz : Nat) (zs : List Int) (w : World) (e : Ending) (w' : World) : Prop := ∃ A ca Z cz, e = .returned (prvL A na ca C Z nz cz) ∧ Sl w' A al ∧ Sl w' Z zs ∧ Below w.heap.size w w'
def PrOutF (na : Nat) (al : List Int) (C : Int) (nz : Nat) (zs : List Int) (w : World) (e : Ending) (w' : World) : Prop := ∃ A ca Z cz, e = .returned (prvL A na ca C Z nz cz) ∧ (Sl w' A al ∧ ∀ b o, A = some ⟨b, o, none⟩ → 0 < al.length → w.heap.size ≤ b) ∧ (Sl w' Z zs ∧ ∀ b o, Z = some ⟨b, o, none⟩ → 0 < zs.length → w.heap.size ≤ b) ∧ Below w.heap.size w w'
set_option maxHeartbeats 12800000 in
theorem proof_f (A : Option Addr) (na ca : Nat) (al : List Int) (C : Int) (Z : Option Addr) (nz cz : Nat) (zs : List Int) (hna : Hid (al.length = na)) (hnz : Hid (zs.length = nz)) (hb1 : na ≤ 100000) (hb2 : nz ≤ 100000) (w : World) (hA : Hid (Sl w A al)) (hZ : Hid (Sl w Z zs)) :
    Calls Tryd.prog 28 #[prvL A na ca C Z nz cz] w (PrOutF na al C nz zs w) := by
  obtain ⟨w0, hW⟩ : ∃ W, ((w.alloc (prObjL A na ca C Z nz cz)).alloc (.cells #[.slice none 0 0, .int .i64 0, .slice none 0 0] 28)) = W := ⟨_, rfl⟩
  have HBw : Hid (Below w.heap.size w w0) := Lib.hid (by rw [← hW]; exact below_two (Below.refl _ _))
  have hc : w0.cell? ⟨w.heap.size, 0, none⟩ = some (.slice A na ca) ∧ w0.cell? ⟨w.heap.size, 1, none⟩ = some (.int .i64 C) ∧ w0.cell? ⟨w.heap.size, 2, none⟩ = some (.slice Z nz cz) := by rw [← hW]; exact ⟨cell_below (allocs_cell (by simp) (by rfl)) (below_box0 _ _), cell_below (allocs_cell (by simp) (by rfl)) (below_box0 _ _), cell_below (allocs_cell (by simp) (by rfl)) (below_box0 _ _)⟩
  have kC := Lib.hid (show ∀ u : World, Hid (Below w0.heap.size w0 u) → u.cell? ⟨w.heap.size, 0, none⟩ = some (.slice A na ca) ∧ u.cell? ⟨w.heap.size, 1, none⟩ = some (.int .i64 C) ∧ u.cell? ⟨w.heap.size, 2, none⟩ = some (.slice Z nz cz) from fun u h => ⟨cell_below hc.1 h.out, cell_below hc.2.1 h.out, cell_below hc.2.2 h.out⟩)
  have kA := Lib.hid (show ∀ u : World, Hid (Below w0.heap.size w0 u) → Hid (Sl u A al) from fun u h => Lib.hid ((hA.out.below) (below_ext HBw.out h.out)))
  have kZ := Lib.hid (show ∀ u : World, Hid (Below w0.heap.size w0 u) → Hid (Sl u Z zs) from fun u h => Lib.hid ((hZ.out.below) (below_ext HBw.out h.out)))
  have HB_0 : Hid (Below w0.heap.size w0 w0) := Lib.hid (Below.refl _ _)
  have HW := Lib.hid hW
  have kFr := Lib.hid (show ∀ u : World, Hid (Below w0.heap.size w0 u) → ∀ j, u.frozen? ⟨w.heap.size, j, none⟩ = false from fun u h j => frozen_blk (blk_below (by rw [← hW]; exact heap_alloc2_old _ _ _) h.out) j)
  have kRB := Lib.hid (show ∀ u : World, Hid (Below w0.heap.size w0 u) → Hid (u.heap[w.heap.size + 1]? = some (.cells #[.slice none 0 0, .int .i64 0, .slice none 0 0] 28)) from fun u h => Lib.hid (blk_below (by rw [← hW]; exact heap_alloc2_new _ _ _) h.out))
  clear hW hc hA hZ
  have HSZ0 : Hid (w0.heap.size = w.heap.size + 2) := Lib.hid (by rw [← HW.out]; simp)
  go_enter Tryd.func28, Tryd.ntmps28
  go_upto_region 1 with (fail)
  rw [HW.out]
  obtain ⟨zc0, zc1, zc2⟩ := kC.out _ HB_0
  clear zc0 zc1 zc2
  have hBx := Lib.hid (show ∀ u u2 : World, Hid (Below w0.heap.size w0 u) → Below u.heap.size u u2 → Hid (Below w0.heap.size w0 u2) from fun u u2 h1 h2 => Lib.hid (below_ext h1.out h2))
  have hS := Lib.hid (show ∀ u : World, Hid (Below w0.heap.size w0 u) → (u.cell? ⟨w.heap.size, 0, none⟩ = some (.slice A na ca) ∧ u.cell? ⟨w.heap.size, 1, none⟩ = some (.int .i64 C) ∧ u.cell? ⟨w.heap.size, 2, none⟩ = some (.slice Z nz cz)) from fun u h1 => by
    obtain ⟨y0, y1, y2⟩ := kC.out _ (Lib.hid h1.out)
    exact ⟨y0, y1, y2⟩)
  have HBA : Hid (Below w0.heap.size w0 w0) := Lib.hid HB_0.out
  have HBD := hBx.out _ _ HBA (Below.refl _ _).drew
  refine wp_region_T (S := fun w' => w'.cell? ⟨w.heap.size, 0, none⟩ = some (.slice A na ca) ∧ w'.cell? ⟨w.heap.size, 1, none⟩ = some (.int .i64 C) ∧ w'.cell? ⟨w.heap.size, 2, none⟩ = some (.slice Z nz cz)) (E := [7, 8, 9]) (by kernel_rfl) (hS.out _ HBD) (fun hHeld => ?_)
  obtain ⟨wD, hwD⟩ : ∃ u, w0.drew = u := ⟨_, rfl⟩
  rw [hwD] at HBD hHeld ⊢
  have HSZD : Hid (w0.heap.size ≤ wD.heap.size) := Lib.hid (by rw [← hwD]; exact Nat.le_refl _)
  clear hwD
  refine tkV 0 ?_
  try simp only [qq1, qq2, qq3, Act.put, qq4, qq5, qq6]
  refine tkV 1 ?_
  try simp only [qq1, qq2, qq3, Act.put, qq4, qq5, qq6]
  refine tkV 3 ?_
  try simp only [qq1, qq2, qq3, Act.put, qq4, qq5, qq6]
  refine tkV 4 ?_
  try simp only [qq1, qq2, qq3, Act.put, qq4, qq5, qq6]
  refine wpT_frame (fun T a0 hT ha0 => ?_)
  clear hHeld
  have G2_5 : ∀ (aA : Option Addr) (cA : Nat) (aZ : Option Addr) (cZ : Nat) (u : World), (Hid (Below w0.heap.size w0 u)) → (Hid (Sl u aA al ∧ (∀ b o, aA = some ⟨b, o, none⟩ → 0 < al.length → w.heap.size + 1 < b))) → (Hid (Sl u aZ zs ∧ (∀ b o, aZ = some ⟨b, o, none⟩ → 0 < zs.length → w.heap.size + 1 < b))) → T 3 #[true, true, true, true, true, true, true, false, false, false] (((a0.put (some 5) (.slice aA na cA)).put (some 9) (.pointer (some ⟨w.heap.size, 0, none⟩))).put (some 8) (.slice aZ nz cZ)) u := by
    intro aA cA aZ cZ u FB HA HZ
    have hHeld := hS.out _ FB
    rw [hT, ha0]
    try simp only [qq1, qq2, qq3, Act.put, qq4, qq5, qq6]
    have HE_w0 := Lib.hid FB.out
    obtain ⟨q0, q1, q2⟩ := kC.out _ (Lib.hid FB.out)
    have f0 := kFr.out _ (Lib.hid FB.out) 0
    have f1 := kFr.out _ (Lib.hid FB.out) 1
    have f2 := kFr.out _ (Lib.hid FB.out) 2
    refine wpT_pass (i := 7) (by kernel_rfl) (by simp) rfl (fun K hK => ?_)
    go_simp
    refine hK.out _ _ ?_
    clear hK K
    try simp only [qq1, qq2, qq3, Act.put, qq4, qq5, qq6]
    refine wpT_pass (i := 8) (by kernel_rfl) (by simp) rfl (fun K hK => ?_)
    go_simp
    refine hK.out _ _ ?_
    clear hK K
    try simp only [qq1, qq2, qq3, Act.put, qq4, qq5, qq6]
    refine wpT_pass (i := 9) (by kernel_rfl) (by simp) rfl (fun K hK => ?_)
    go_simp
    refine hK.out _ _ ?_
    clear hK K
    try simp only [qq1, qq2, qq3, Act.put, qq4, qq5, qq6]
    refine wpT_done (by kernel_rfl) ?_ _
    obtain ⟨wz, hwz⟩ : ∃ x, ((u.setCell ⟨w.heap.size, 0, none⟩ (.slice aA na cA)).setCell ⟨w.heap.size, 2, none⟩ (.slice aZ nz cZ)) = x := ⟨_, rfl⟩
    have z0 : Own wz ⟨w.heap.size, 0, none⟩ (.slice aA na cA) := by rw [← hwz]; exact own_set_ne2 (own_set_eq2 ⟨q0, f0⟩) (by simp)
    have z1 : Own wz ⟨w.heap.size, 1, none⟩ (.int .i64 C) := by rw [← hwz]; exact own_set_ne2 (own_set_ne2 ⟨q1, f1⟩ (by simp)) (by simp)
    have z2 : Own wz ⟨w.heap.size, 2, none⟩ (.slice aZ nz cZ) := by rw [← hwz]; exact own_set_eq2 (own_set_ne2 ⟨q2, f2⟩ (by simp))
    have HBz : Hid (Below w.heap.size w wz) := Lib.hid (by rw [← hwz]; exact ((below_ext HBw.out FB.out).setCell (Nat.le_refl _) _).setCell (Nat.le_refl _) _)
    have HRF : Hid (wz.heap[w.heap.size + 1]? = some (.cells #[.slice none 0 0, .int .i64 0, .slice none 0 0] 28)) := Lib.hid (by rw [← hwz]; exact (Go.Deep.blk_setCell_other _ _ _ _ (show w.heap.size + 1 ≠ w.heap.size by omega)).trans ((Go.Deep.blk_setCell_other _ _ _ _ (show w.heap.size + 1 ≠ w.heap.size by omega)).trans (kRB.out _ (Lib.hid FB.out)).out))
    have HA9 : Hid (Sl wz aA al) := Lib.hid (by rw [← hwz]; exact (HA.out.1.set (fun b o e h0 => by have := HA.out.2 b o e h0; omega)).set (fun b o e h0 => by have := HA.out.2 b o e h0; omega))
    have HZ9 : Hid (Sl wz aZ zs) := Lib.hid (by rw [← hwz]; exact (HZ.out.1.set (fun b o e h0 => by have := HZ.out.2 b o e h0; omega)).set (fun b o e h0 => by have := HZ.out.2 b o e h0; omega))
    rw [hwz]
    clear hwz q0 f0 q1 f1 q2 f2 hHeld
    obtain ⟨z0, y0⟩ := z0
    obtain ⟨z1, y1⟩ := z1
    obtain ⟨z2, y2⟩ := z2
    go_wp2_with ((with_reducible show wpList _ _ _ (⟨none, _, _, _, _, _⟩ :: _) _ _); refine wpList_store_row rfl 28 _ _ rfl (w.heap.size + 1) #[.slice aA na cA, .int .i64 C, .slice aZ nz cZ] rfl rfl _ _ HRF.out (by kernel_rfl) rfl (by simp [Value.oneCell']) ?_)
    have hrw := setRow_heap _ _ _ #[.slice aA na cA, .int .i64 C, .slice aZ nz cZ] _ _ HRF.out
    have hbF := below_setRow' HBz.out (cs := #[.slice aA na cA, .int .i64 C, .slice aZ nz cZ]) (Nat.le_add_right w.heap.size 1)
    exact bodyPost_ret (v := prvL aA na cA C aZ nz cZ) (results_cell1 (p := 2) (ty := 28) rfl _ _ ⟨w.heap.size + 1, 0, none⟩ _ rfl (run_loadVar_row _ _ _ _ _ _ _ hrw Tryd.underlying28 rfl (by kernel_rfl))) rfl ⟨aA, cA, aZ, cZ, rfl, ⟨HA9.out.setRowS (fun b o e h0 => by have := HA.out.2 b o e h0; omega), fun b o e h0 => by have := HA.out.2 b o e h0; omega⟩, ⟨HZ9.out.setRowS (fun b o e h0 => by have := HZ.out.2 b o e h0; omega), fun b o e h0 => by have := HZ.out.2 b o e h0; omega⟩, hbF⟩
  have G2 : ∀ (aA : Option Addr) (cA : Nat) (u : World), (Hid (Below w0.heap.size w0 u)) → (Hid (Sl u aA al ∧ (∀ b o, aA = some ⟨b, o, none⟩ → 0 < al.length → w.heap.size + 1 < b))) → T 4 #[true, true, true, true, true, false, true, false, false, false] ((a0.put (some 5) (.slice aA na cA)).put (some 9) (.pointer (some ⟨w.heap.size, 0, none⟩))) u := by
    intro aA cA u FB HA
    have hHeld := hS.out _ FB
    rw [hT, ha0]
    try simp only [qq1, qq2, qq3, Act.put, qq4, qq5, qq6]
    refine wpT_one (i := 5) (by kernel_rfl) rfl (fun K hK => ?_)
    go_simp
    refine (clones_any Z zs nz cz hnz (by omega) _ (kZ.out _ (Lib.hid FB.out))).mono ?_
    rintro e wB ⟨aB, cB, rfl, hs9, hg9, hq⟩
    have FB2 := hBx.out _ _ FB hq
    refine hK.out _ _ ?_ (fun hHeld => ?_)
    · exact hS.out _ FB2
    clear hK K hHeld
    try simp only [qq1, qq2, qq3, Act.put, qq4, qq5, qq6]
    have hG := G2_5 aA cA aB cB wB FB2 (Lib.hid ⟨HA.out.1.below hq, HA.out.2⟩) (Lib.hid ⟨hs9, fun b o e h0 => by obtain ⟨g9, e9, hl9⟩ := hg9 h0; rw [e9] at e; cases e; have := FB.out.size; have := HSZ0.out; omega⟩)
    rw [hT, ha0] at hG
    (try simp only [qq1, qq2, qq3, Act.put, qq4, qq5, qq6] at hG)
    exact hG
  have G0 : ∀  (u : World), (Hid (Below w0.heap.size w0 u)) → T 6 #[true, true, false, true, true, false, false, false, false, false] a0 u := by
    intro  u FB
    have hHeld := hS.out _ FB
    rw [hT, ha0]
    try simp only [qq1, qq2, qq3, Act.put, qq4, qq5, qq6]
    refine wpT_one (i := 2) (by kernel_rfl) rfl (fun K hK => ?_)
    go_simp
    refine (clones_any A al na ca hna (by omega) _ (kA.out _ (Lib.hid FB.out))).mono ?_
    rintro e wB ⟨aB, cB, rfl, hs9, hg9, hq⟩
    have FB2 := hBx.out _ _ FB hq
    refine hK.out _ _ ?_ (fun hHeld => ?_)
    · exact hS.out _ FB2
    clear hK K
    try simp only [qq1, qq2, qq3, Act.put, qq4, qq5, qq6]
    refine tkV 6 ?_
    try simp only [qq1, qq2, qq3, Act.put, qq4, qq5, qq6]
    clear hHeld
    have hG := G2 aB cB wB FB2 (Lib.hid ⟨hs9, fun b o e h0 => by obtain ⟨g9, e9, hl9⟩ := hg9 h0; rw [e9] at e; cases e; have := FB.out.size; have := HSZ0.out; omega⟩)
    rw [hT, ha0] at hG
    (try simp only [qq1, qq2, qq3, Act.put, qq4, qq5, qq6] at hG)
    exact hG
  exact G0 _ HBD
theorem proof_any (A : Option Addr) (na ca : Nat) (al : List Int) (C : Int) (Z : Option Addr) (nz cz : Nat) (zs : List Int) (hna : Hid (al.length = na)) (hnz : Hid (zs.length = nz)) (hb1 : na ≤ 100000) (hb2 : nz ≤ 100000) (w : World) (hA : Hid (Sl w A al)) (hZ : Hid (Sl w Z zs)) :
    Calls Tryd.prog 28 #[prvL A na ca C Z nz cz] w (PrOutT na al C nz zs w) := (proof_f A na ca al C Z nz cz zs hna hnz hb1 hb2 w hA hZ).mono (by rintro e w9 ⟨A, ca, Z, cz, rfl, h1, h2, h3⟩; exact ⟨A, ca, Z, cz, rfl, h1.1, h2.1, h3⟩)
theorem own_gne {g t n c : Nat} (h : g ≠ t) : (Value.slice (some ⟨g, 0, none⟩) n c).ownBlock ≠ some t := fun e => h (by simpa [Value.ownBlock] using e)
set_option maxHeartbeats 12800000 in
theorem open_6 (O : Option Addr) (os : List OrdR) (n c : Nat) (K : Option Addr) (hs : List (List Int)) (m d : Nat) (hn : Hid (os.length = n + 1)) (hm : Hid (hs.length = m)) (hI : ∀ k, k < n + 1 → OrdI (orL os k)) (hb1 : n + 1 ≤ 1000000) (hb2 : m ≤ 1000000) (E1 E2 : Int) (A : Option Addr) (na ca : Nat) (C : Int) (Z : Option Addr) (nz cz : Nat) (s : ByteArray) (hrs : Hid (rsB s = true)) (hsh : Hid (shB na nz = true)) (hr : Kp (trlB os hs = true)) (ho9 : Hid (opnB os (n + 1) = true)) (w : World) (hv : Hid (VarsD w)) (hO : Hid (Os w O os)) (hK : Hid (Hs w K hs)) :
    Calls Tryd.prog 7 #[tlV O (n + 1) c K m d, .string s, esV E1 E2 A na ca C Z nz cz] w fun e' w' => e' = .returned (.tuple #[tlV none 0 0 none 0 0, .int .i64 0, .int .i64 6]) ∧ Below w.heap.size w w' := by
  obtain ⟨w0, hW⟩ : ∃ W, (((w.alloc (tlO O (n + 1) c K m d)).alloc (esO E1 E2 A na ca C Z nz cz)).alloc (.cells #[.slice none 0 0, .slice none 0 0] 25)) = W := ⟨_, rfl⟩
  have HBw : Hid (Below w.heap.size w w0) := Lib.hid (by rw [← hW]; exact (((Below.refl _ _).alloc (Nat.le_refl _) _).alloc (by simp) _).alloc (by simp; omega) _)
  have hc : w0.cell? ⟨w.heap.size, 0, none⟩ = some (.slice O (n + 1) c) ∧ w0.cell? ⟨w.heap.size, 1, none⟩ = some (.slice K m d) ∧ w0.cell? ⟨w.heap.size + 1, 0, none⟩ = some (.int .i64 E1) ∧ w0.cell? ⟨w.heap.size + 1, 1, none⟩ = some (.int .i64 E2) ∧ w0.cell? ⟨w.heap.size + 1, 2, none⟩ = some (.slice A na ca) ∧ w0.cell? ⟨w.heap.size + 1, 3, none⟩ = some (.int .i64 C) ∧ w0.cell? ⟨w.heap.size + 1, 4, none⟩ = some (.slice Z nz cz) := by rw [← hW]; exact ⟨cell_below (cell_below (allocs_cell (by simp) (by rfl)) (below_box0 _ _)) (below_box0 _ _), cell_below (cell_below (allocs_cell (by simp) (by rfl)) (below_box0 _ _)) (below_box0 _ _), cell_below (allocs_cell (by simp) (by rfl)) (below_box0 _ _), cell_below (allocs_cell (by simp) (by rfl)) (below_box0 _ _), cell_below (allocs_cell (by simp) (by rfl)) (below_box0 _ _), cell_below (allocs_cell (by simp) (by rfl)) (below_box0 _ _), cell_below (allocs_cell (by simp) (by rfl)) (below_box0 _ _)⟩
  have kC := Lib.hid (show ∀ u : World, Hid (Below w0.heap.size w0 u) → u.cell? ⟨w.heap.size, 0, none⟩ = some (.slice O (n + 1) c) ∧ u.cell? ⟨w.heap.size, 1, none⟩ = some (.slice K m d) ∧ u.cell? ⟨w.heap.size + 1, 0, none⟩ = some (.int .i64 E1) ∧ u.cell? ⟨w.heap.size + 1, 1, none⟩ = some (.int .i64 E2) ∧ u.cell? ⟨w.heap.size + 1, 2, none⟩ = some (.slice A na ca) ∧ u.cell? ⟨w.heap.size + 1, 3, none⟩ = some (.int .i64 C) ∧ u.cell? ⟨w.heap.size + 1, 4, none⟩ = some (.slice Z nz cz) from fun u h => ⟨cell_below hc.1 h.out, cell_below hc.2.1 h.out, cell_below hc.2.2.1 h.out, cell_below hc.2.2.2.1 h.out, cell_below hc.2.2.2.2.1 h.out, cell_below hc.2.2.2.2.2.1 h.out, cell_below hc.2.2.2.2.2.2 h.out⟩)
  have kD := Lib.hid (show ∀ u : World, Hid (Below w0.heap.size w0 u) → Hid (VarsD u) from fun u h => Lib.hid ((hv.out.below) (below_ext HBw.out h.out)))
  have kOs := Lib.hid (show ∀ u : World, Hid (Below w0.heap.size w0 u) → Hid (Os u O os) from fun u h => Lib.hid ((hO.out.below) (below_ext HBw.out h.out)))
  have kHs := Lib.hid (show ∀ u : World, Hid (Below w0.heap.size w0 u) → Hid (Hs u K hs) from fun u h => Lib.hid ((hK.out.below) (below_ext HBw.out h.out)))
  have HB_0 : Hid (Below w0.heap.size w0 w0) := Lib.hid (Below.refl _ _)
  have HW := Lib.hid hW
  have kRB := Lib.hid (show ∀ u : World, Hid (Below w0.heap.size w0 u) → Hid (u.heap[w.heap.size + 2]? = some (.cells #[.slice none 0 0, .slice none 0 0] 25)) from fun u h => Lib.hid (blk_below (by rw [← hW]; exact heap_alloc3_new _ _ _ _) h.out))
  clear hW hc hv hO hK
  go_enter Tryd.func7, Tryd.ntmps7
  go_upto_region 1 with (fail)
  rw [HW.out]
  obtain ⟨zc0, zc1, zc2, zc3, zc4, zc5, zc6⟩ := kC.out _ HB_0
  go_wp2_with fail
  refine (tval_any O os (n + 1) c K hs m d hn hm hI hb1 hb2 true hr _ (kD.out _ HB_0) (kOs.out _ HB_0) (kHs.out _ HB_0)).mono ?_
  rintro e w1 ⟨rfl, hb0⟩
  have HB_1 := Lib.hid (below_ext HB_0.out hb0)
  clear zc0 zc1 zc2 zc3 zc4 zc5 zc6
  clear hb0
  obtain ⟨zc0, zc1, zc2, zc3, zc4, zc5, zc6⟩ := kC.out _ HB_1
  go_wp2_with fail
  refine (reason_any s true hrs _).mono ?_
  rintro e9 w9 ⟨rfl, hw9⟩
  rw [hw9]
  clear hw9
  go_wp2_with fail
  refine (tshort_any A na ca C Z nz cz true hsh _).mono ?_
  rintro e w2 ⟨rfl, hb0⟩
  have HB_2 := Lib.hid (below_ext HB_1.out hb0)
  clear zc0 zc1 zc2 zc3 zc4 zc5 zc6
  clear hb0
  obtain ⟨zc0, zc1, zc2, zc3, zc4, zc5, zc6⟩ := kC.out _ HB_2
  go_wp2_with fail
  refine (open_1 O os n c K m d hn (by omega) true ho9 _ (kOs.out _ HB_2)).mono ?_
  rintro e w3 ⟨rfl, hb0⟩
  have HB_3 := Lib.hid (below_ext HB_2.out hb0)
  clear zc0 zc1 zc2 zc3 zc4 zc5 zc6
  clear hb0
  obtain ⟨zc0, zc1, zc2, zc3, zc4, zc5, zc6⟩ := kC.out _ HB_3
  have HRF := kRB.out _ HB_3
  have hbF := below_setRow' (below_ext HBw.out HB_3.out) (cs := #[.slice none 0 0, .slice none 0 0]) (Nat.le_add_right w.heap.size 2)
  go_wp2_with ((with_reducible show wpList _ _ _ (⟨none, _, _, _, _, _⟩ :: _) _ _); refine wpList_store_row rfl 25 _ _ rfl (w.heap.size + 2) #[.slice none 0 0, .slice none 0 0] rfl rfl _ _ HRF.out (by kernel_rfl) rfl (by simp [Value.oneCell']) ?_)
  have hrw := setRow_heap _ _ _ #[.slice none 0 0, .slice none 0 0] _ _ HRF.out
  exact bodyPost_ret (v := .tuple #[tlV none 0 0 none 0 0, .int .i64 0, .int .i64 6]) (results_cell_tmp3 (p := 6) (q := 7) (r := 8) (ty := 25) rfl _ _ ⟨w.heap.size + 2, 0, none⟩ _ _ _ rfl rfl rfl (run_loadVar_row _ _ _ _ _ _ _ hrw Tryd.underlying25 rfl (by kernel_rfl))) rfl ⟨rfl, hbF⟩
def OpnE (s : ByteArray) (w : World) (e : Ending) (w' : World) : Prop := ∃ (g cap : Nat) (A : Option Addr) (ca : Nat) (Z : Option Addr) (cz : Nat), e = .returned (.tuple #[tlV (some ⟨g, 0, none⟩) 1 cap none 0 0, .int .i64 0, .int .i64 0]) ∧ Os w' (some ⟨g, 0, none⟩) [⟨0, s, 1, 1, A, 0, ca, [], 0, Z, 0, cz, [], none, 0, 0, [], 0⟩] ∧ Below w.heap.size w w'
set_option maxHeartbeats 25600000 in
theorem open_e (s : ByteArray) (hrs : Hid (rsB s = true)) (w : World) (hv : Hid (VarsD w)) :
    Calls Tryd.prog 7 #[tlV none 0 0 none 0 0, .string s, esV 1 1 none 0 0 0 none 0 0] w (OpnE s w) := by
  obtain ⟨w0, hW⟩ : ∃ W, (((w.alloc (tlO none 0 0 none 0 0)).alloc (esO 1 1 none 0 0 0 none 0 0)).alloc (.cells #[.slice none 0 0, .slice none 0 0] 25)) = W := ⟨_, rfl⟩
  have HBw : Hid (Below w.heap.size w w0) := Lib.hid (by rw [← hW]; exact (((Below.refl _ _).alloc (Nat.le_refl _) _).alloc (by simp) _).alloc (by simp; omega) _)
  have hc : w0.cell? ⟨w.heap.size, 0, none⟩ = some (.slice none 0 0) ∧ w0.cell? ⟨w.heap.size, 1, none⟩ = some (.slice none 0 0) ∧ w0.cell? ⟨w.heap.size + 1, 0, none⟩ = some (.int .i64 1) ∧ w0.cell? ⟨w.heap.size + 1, 1, none⟩ = some (.int .i64 1) ∧ w0.cell? ⟨w.heap.size + 1, 2, none⟩ = some (.slice none 0 0) ∧ w0.cell? ⟨w.heap.size + 1, 3, none⟩ = some (.int .i64 0) ∧ w0.cell? ⟨w.heap.size + 1, 4, none⟩ = some (.slice none 0 0) := by rw [← hW]; exact ⟨cell_below (cell_below (allocs_cell (by simp) (by rfl)) (below_box0 _ _)) (below_box0 _ _), cell_below (cell_below (allocs_cell (by simp) (by rfl)) (below_box0 _ _)) (below_box0 _ _), cell_below (allocs_cell (by simp) (by rfl)) (below_box0 _ _), cell_below (allocs_cell (by simp) (by rfl)) (below_box0 _ _), cell_below (allocs_cell (by simp) (by rfl)) (below_box0 _ _), cell_below (allocs_cell (by simp) (by rfl)) (below_box0 _ _), cell_below (allocs_cell (by simp) (by rfl)) (below_box0 _ _)⟩
  have kC := Lib.hid (show ∀ u : World, Hid (Below w0.heap.size w0 u) → u.cell? ⟨w.heap.size, 0, none⟩ = some (.slice none 0 0) ∧ u.cell? ⟨w.heap.size, 1, none⟩ = some (.slice none 0 0) ∧ u.cell? ⟨w.heap.size + 1, 0, none⟩ = some (.int .i64 1) ∧ u.cell? ⟨w.heap.size + 1, 1, none⟩ = some (.int .i64 1) ∧ u.cell? ⟨w.heap.size + 1, 2, none⟩ = some (.slice none 0 0) ∧ u.cell? ⟨w.heap.size + 1, 3, none⟩ = some (.int .i64 0) ∧ u.cell? ⟨w.heap.size + 1, 4, none⟩ = some (.slice none 0 0) from fun u h => ⟨cell_below hc.1 h.out, cell_below hc.2.1 h.out, cell_below hc.2.2.1 h.out, cell_below hc.2.2.2.1 h.out, cell_below hc.2.2.2.2.1 h.out, cell_below hc.2.2.2.2.2.1 h.out, cell_below hc.2.2.2.2.2.2 h.out⟩)
  have kD := Lib.hid (show ∀ u : World, Hid (Below w0.heap.size w0 u) → Hid (VarsD u) from fun u h => Lib.hid ((hv.out.below) (below_ext HBw.out h.out)))
  have HB_0 : Hid (Below w0.heap.size w0 w0) := Lib.hid (Below.refl _ _)
  have HW := Lib.hid hW
  have kFr := Lib.hid (show ∀ u : World, Hid (Below w0.heap.size w0 u) → ∀ j, u.frozen? ⟨w.heap.size + 1, j, none⟩ = false from fun u h j => frozen_blk (blk_below (by rw [← hW]; exact blk_below (heap_alloc2_new _ _ _) (below_box0 _ _)) h.out) j)
  have kRB := Lib.hid (show ∀ u : World, Hid (Below w0.heap.size w0 u) → Hid (u.heap[w.heap.size + 2]? = some (.cells #[.slice none 0 0, .slice none 0 0] 25)) from fun u h => Lib.hid (blk_below (by rw [← hW]; exact heap_alloc3_new _ _ _ _) h.out))
  clear hW hc hv
  go_enter Tryd.func7, Tryd.ntmps7
  go_upto_region 1 with (fail)
  rw [HW.out]
  obtain ⟨zc0, zc1, zc2, zc3, zc4, zc5, zc6⟩ := kC.out _ HB_0
  have HSZ0 : Hid (w0.heap.size = w.heap.size + 3) := Lib.hid (by rw [← HW.out]; simp)
  obtain ⟨i1, hi1, hy0, hy1, hy2⟩ := info_parts ordInfo
  go_wp2_with fail
  refine (tval_any none [] 0 0 none [] 0 0 (Lib.hid rfl) (Lib.hid rfl) (fun k h => absurd h (by omega)) (by omega) (by omega) true ⟨by decide⟩ _ (kD.out _ HB_0) (Lib.hid (fun k h => absurd h (by simp))) (Lib.hid (fun k h => absurd h (by simp)))).mono ?_
  rintro e w1 ⟨rfl, hb0⟩
  have HB_1 := Lib.hid (below_ext HB_0.out hb0)
  clear zc0 zc1 zc2 zc3 zc4 zc5 zc6
  clear hb0
  obtain ⟨zc0, zc1, zc2, zc3, zc4, zc5, zc6⟩ := kC.out _ HB_1
  go_wp2_with fail
  refine (reason_any s true hrs _).mono ?_
  rintro e9 w9 ⟨rfl, hw9⟩
  rw [hw9]
  clear hw9
  go_wp2_with fail
  refine (tshort_any none 0 0 0 none 0 0 true (Lib.hid rfl) _).mono ?_
  rintro e w2 ⟨rfl, hb0⟩
  have HB_2 := Lib.hid (below_ext HB_1.out hb0)
  clear zc0 zc1 zc2 zc3 zc4 zc5 zc6
  clear hb0
  obtain ⟨zc0, zc1, zc2, zc3, zc4, zc5, zc6⟩ := kC.out _ HB_2
  go_wp2_with fail
  refine (open_0 none 0 none 0 0 _).mono ?_
  rintro e w3 ⟨rfl, hb0⟩
  have HB_3 := Lib.hid (below_ext HB_2.out hb0)
  clear zc0 zc1 zc2 zc3 zc4 zc5 zc6
  clear hb0
  obtain ⟨zc0, zc1, zc2, zc3, zc4, zc5, zc6⟩ := kC.out _ HB_3
  go_wp2_with fail
  refine (proof_any none 0 0 [] 0 none 0 0 [] (Lib.hid rfl) (Lib.hid rfl) (by omega) (by omega) _ (Lib.hid (sl0 _ _)) (Lib.hid (sl0 _ _))).mono ?_
  rintro e w4 ⟨A, ca, Z, cz, rfl, _, _, hb0⟩
  have HB_4 := Lib.hid (below_ext HB_3.out hb0)
  clear zc0 zc1 zc2 zc3 zc4 zc5 zc6
  clear hb0
  obtain ⟨zc0, zc1, zc2, zc3, zc4, zc5, zc6⟩ := kC.out _ HB_4
  have f0 := kFr.out _ HB_4 0
  have f1 := kFr.out _ HB_4 1
  have f2 := kFr.out _ HB_4 2
  have f3 := kFr.out _ HB_4 3
  have f4 := kFr.out _ HB_4 4
  go_upto_region 10 with (fail)
  obtain ⟨wz, hwz⟩ : ∃ x, (((w4.setCell ⟨w.heap.size + 1, 2, none⟩ (.slice A 0 ca)).setCell ⟨w.heap.size + 1, 3, none⟩ (.int .i64 0)).setCell ⟨w.heap.size + 1, 4, none⟩ (.slice Z 0 cz)) = x := ⟨_, rfl⟩
  have HE : Hid (wz.cell? ⟨w.heap.size + 1, 0, none⟩ = some (.int .i64 1) ∧ wz.cell? ⟨w.heap.size + 1, 1, none⟩ = some (.int .i64 1) ∧ wz.cell? ⟨w.heap.size + 1, 2, none⟩ = some (.slice A 0 ca) ∧ wz.cell? ⟨w.heap.size + 1, 3, none⟩ = some (.int .i64 0) ∧ wz.cell? ⟨w.heap.size + 1, 4, none⟩ = some (.slice Z 0 cz)) := Lib.hid (by
    rw [← hwz]
    exact ⟨(own_set_ne2 (own_set_ne2 (own_set_ne2 ⟨zc2, f0⟩ (by simp)) (by simp)) (by simp)).1, (own_set_ne2 (own_set_ne2 (own_set_ne2 ⟨zc3, f1⟩ (by simp)) (by simp)) (by simp)).1, (own_set_ne2 (own_set_ne2 (own_set_eq2 ⟨zc4, f2⟩) (by simp)) (by simp)).1, (own_set_ne2 (own_set_eq2 (own_set_ne2 ⟨zc5, f3⟩ (by simp))) (by simp)).1, (own_set_eq2 (own_set_ne2 (own_set_ne2 ⟨zc6, f4⟩ (by simp)) (by simp))).1⟩)
  have HT : Hid (wz.cell? ⟨w.heap.size, 0, none⟩ = some (.slice none 0 0) ∧ wz.cell? ⟨w.heap.size, 1, none⟩ = some (.slice none 0 0)) := Lib.hid (by
    rw [← hwz]
    exact ⟨by rw [World.cell?_setCell_other _ _ _ _ (by simp), World.cell?_setCell_other _ _ _ _ (by simp), World.cell?_setCell_other _ _ _ _ (by simp)]; exact zc0, by rw [World.cell?_setCell_other _ _ _ _ (by simp), World.cell?_setCell_other _ _ _ _ (by simp), World.cell?_setCell_other _ _ _ _ (by simp)]; exact zc1⟩)
  have HBz : Hid (Below w.heap.size w wz) := Lib.hid (by rw [← hwz]; exact (((below_ext HBw.out HB_4.out).setCell (by simp) _).setCell (by simp) _).setCell (by simp) _)
  have HRz : Hid (wz.heap[w.heap.size + 2]? = some (.cells #[.slice none 0 0, .slice none 0 0] 25)) := Lib.hid (by rw [← hwz]; exact (Go.Deep.blk_setCell_other _ _ _ _ (show w.heap.size + 2 ≠ w.heap.size + 1 by omega)).trans ((Go.Deep.blk_setCell_other _ _ _ _ (show w.heap.size + 2 ≠ w.heap.size + 1 by omega)).trans ((Go.Deep.blk_setCell_other _ _ _ _ (show w.heap.size + 2 ≠ w.heap.size + 1 by omega)).trans (kRB.out _ HB_4).out)))
  have HSz : Hid (w.heap.size + 3 ≤ wz.heap.size) := Lib.hid (by rw [← hwz, World.size_setCell, World.size_setCell, World.size_setCell]; have := (HB_4).out.size; have := HSZ0.out; omega)
  rw [hwz]
  clear hwz f0 f1 f2 f3 f4
  clear zc0 zc1 zc2 zc3 zc4 zc5 zc6
  clear kC kFr kD
  have kC := Lib.hid (show ∀ u : World, Hid (Below wz.heap.size wz u) → u.cell? ⟨w.heap.size, 0, none⟩ = some (.slice none 0 0) ∧ u.cell? ⟨w.heap.size, 1, none⟩ = some (.slice none 0 0) from fun u h => ⟨cell_below HT.out.1 h.out, cell_below HT.out.2 h.out⟩)
  have HB_z : Hid (Below wz.heap.size wz wz) := Lib.hid (Below.refl _ _)
  have hBx := Lib.hid (show ∀ u u2 : World, Hid (Below wz.heap.size wz u) → Below u.heap.size u u2 → Hid (Below wz.heap.size wz u2) from fun u u2 h1 h2 => Lib.hid (below_ext h1.out h2))
  have hS := Lib.hid (show ∀ u : World, Hid (Below wz.heap.size wz u) → (u.cell? ⟨w.heap.size, 0, none⟩ = some (.slice none 0 0) ∧ u.cell? ⟨w.heap.size, 1, none⟩ = some (.slice none 0 0)) from fun u h1 => by
    obtain ⟨y0, y1⟩ := kC.out _ (Lib.hid h1.out)
    exact ⟨y0, y1⟩)
  have HBA : Hid (Below wz.heap.size wz wz) := Lib.hid HB_z.out
  have HBD := hBx.out _ _ HBA (Below.refl _ _).drew
  refine wp_region_T (S := fun w' => w'.cell? ⟨w.heap.size, 0, none⟩ = some (.slice none 0 0) ∧ w'.cell? ⟨w.heap.size, 1, none⟩ = some (.slice none 0 0)) (E := [7]) (by kernel_rfl) (hS.out _ HBD) (fun hHeld => ?_)
  obtain ⟨wD, hwD⟩ : ∃ u, wz.drew = u := ⟨_, rfl⟩
  rw [hwD] at HBD hHeld ⊢
  have HSZD : Hid (wz.heap.size ≤ wD.heap.size) := Lib.hid (by rw [← hwD]; exact Nat.le_refl _)
  clear hwD
  refine tkV 0 ?_
  try simp only [qq1, qq2, qq3, Act.put, qq4, qq5, qq6]
  refine tkV 2 ?_
  try simp only [qq1, qq2, qq3, Act.put, qq4, qq5, qq6]
  refine tkV 3 ?_
  try simp only [qq1, qq2, qq3, Act.put, qq4, qq5, qq6]
  refine tkV 4 ?_
  try simp only [qq1, qq2, qq3, Act.put, qq4, qq5, qq6]
  refine wpT_frame (fun T a0 hT ha0 => ?_)
  clear hHeld
  have G1_5_6 : ∀ (gT : Nat) (u : World), (Hid (Below wz.heap.size wz u)) → (Hid (u.heap[gT]? = some (.cells #[.slice none 0 0, .slice none 0 0] 25))) → (Hid (wz.heap.size ≤ gT)) → T 1 #[true, true, true, true, true, true, true, false] ((a0.put (some 42) (tlV none 0 0 none 0 0)).put (some 9) (.pointer (some ⟨gT, 0, none⟩))) u := by
    intro gT u FB FT FTl
    have hHeld := hS.out _ FB
    rw [hT, ha0]
    try simp only [qq1, qq2, qq3, Act.put, qq4, qq5, qq6]
    have HE_wz := Lib.hid FB.out
    refine wpT_pass (i := 7) (by kernel_rfl) (by simp) rfl (fun K hK => ?_)
    go_simp
    refine hK.out _ _ ?_
    clear hK K
    try simp only [qq1, qq2, qq3, Act.put, qq4, qq5, qq6]
    refine wpT_done (by kernel_rfl) ?_ _
    clear hHeld hT ha0
    obtain ⟨wq, hwq⟩ : ∃ x, u = x := ⟨_, rfl⟩
    have HTq : Hid (wq.heap[gT]? = some (.cells #[.slice none 0 0, .slice none 0 0] 25)) := Lib.hid (by rw [← hwq]; exact FT.out)
    have HBq : Hid (Below wz.heap.size wz wq) := Lib.hid (by rw [← hwq]; exact FB.out)
    rw [hwq]
    clear hwq FT
    have HE5 : Hid (wq.cell? ⟨w.heap.size + 1, 0, none⟩ = some (.int .i64 1) ∧ wq.cell? ⟨w.heap.size + 1, 1, none⟩ = some (.int .i64 1) ∧ wq.cell? ⟨w.heap.size + 1, 2, none⟩ = some (.slice A 0 ca) ∧ wq.cell? ⟨w.heap.size + 1, 3, none⟩ = some (.int .i64 0) ∧ wq.cell? ⟨w.heap.size + 1, 4, none⟩ = some (.slice Z 0 cz)) := Lib.hid ⟨cell_below HE.out.1 HBq.out, cell_below HE.out.2.1 HBq.out, cell_below HE.out.2.2.1 HBq.out, cell_below HE.out.2.2.2.1 HBq.out, cell_below HE.out.2.2.2.2 HBq.out⟩
    obtain ⟨e0, e1, e2, e3, e4⟩ := HE5.out
    have t0 := cell_blk HTq.out 0
    have t1 := cell_blk HTq.out 1
    have y0 := frozen_blk HTq.out 0
    have hown : (wq.alloc (.cells #[.int .i64 0, .string s, .int .i64 1, .int .i64 1, .slice A 0 ca, .int .i64 0, .slice Z 0 cz, .slice none 0 0, .int .i64 0] 46)).ownsRow wq.heap.size 46 9 (.slice none 0 0) 0 [] := World.ownsRow_nil _ _ _ _
    have b5 : 0 + 1 ≤ maxLen := by unfold maxLen; omega
    have HTa := Lib.hid (below_box0 wq (.cells #[.int .i64 0, .string s, .int .i64 1, .int .i64 1, .slice A 0 ca, .int .i64 0, .slice Z 0 cz, .slice none 0 0, .int .i64 0] 46))
    have hno8 : (Value.slice none 0 0).ownBlock ≠ some gT := fun e => by cases e
    go_upto_region 12 with (at_builtin; refine wpList_append_lies rfl _ _ 22 rfl wq.heap.size 46 i1 (.agg #[.int .i64 0, .string ⟨#[]⟩, .int .i64 0, .int .i64 0, .slice none 0 0, .int .i64 0, .slice none 0 0, .slice none 0 0, .int .i64 0]) 9 128 Tryd.underlying22 hi1 hy0 hy1 hy2 (by rfl) (by decide) _ _ _ rfl hown ⟨wq.heap.size, 0, none⟩ 1 1 [.int .i64 0, .string s, .int .i64 1, .int .i64 1, .slice A 0 ca, .int .i64 0, .slice Z 0 cz, .slice none 0 0, .int .i64 0] rfl rfl (World.news_of_block (cs := #[.int .i64 0, .string s, .int .i64 1, .int .i64 1, .slice A 0 ca, .int .i64 0, .slice Z 0 cz, .slice none 0 0, .int .i64 0]) (t := 46) (fr := (0, 0)) (heap_alloc_new wq _)) (by simp [Value.oneCell']) (by decide) b5 (by decide) (by simp) _ rfl ?_; intro gg cap w8 hown8 hgrow8 hgg8 hlt8; obtain ⟨p1, p2⟩ := own_grown2 (w := wq.alloc (.cells #[.int .i64 0, .string s, .int .i64 1, .int .i64 1, .slice A 0 ca, .int .i64 0, .slice Z 0 cz, .slice none 0 0, .int .i64 0] 46)) ((show Own wq ⟨gT, 0, none⟩ (.slice none 0 0) from ⟨t0, y0⟩).below HTa.out) hgrow8 hno8; obtain ⟨p3, p4⟩ := own_grown2 (w := wq.alloc (.cells #[.int .i64 0, .string s, .int .i64 1, .int .i64 1, .slice A 0 ca, .int .i64 0, .slice Z 0 cz, .slice none 0 0, .int .i64 0] 46)) ((show Own wq ⟨gT, 1, none⟩ (.slice none 0 0) from ⟨t1, frozen_blk HTq.out 1⟩).below HTa.out) hgrow8 hno8)
    have hown9 : w8.ownsRow wq.heap.size 46 9 (.slice (some ⟨gg, 0, none⟩) 1 cap) 1 ([(⟨0, s, 1, 1, A, 0, ca, [], 0, Z, 0, cz, [], none, 0, 0, [], 0⟩ : OrdR)].flatMap ordC) := by simpa using hown8
    have HB8 : Hid (Below wq.heap.size wq w8) := Lib.hid (((Below.refl wq.heap.size wq).alloc (Nat.le_refl _) (.cells #[.int .i64 0, .string s, .int .i64 1, .int .i64 1, .slice A 0 ca, .int .i64 0, .slice Z 0 cz, .slice none 0 0, .int .i64 0] 46)).grown hgrow8 (by simp) (fun j hj => by cases hj))
    have hgq : wq.heap.size ≤ gg := (World.ownsRow.lt hown9 gg rfl).1
    have hgT : gT < wq.heap.size := heap_lt HTq.out
    obtain ⟨w9, hw9⟩ : ∃ x, w8.setCell ⟨gT, 0, none⟩ (.slice (some ⟨gg, 0, none⟩) 1 cap) = x := ⟨_, rfl⟩
    have T0 : Own w9 ⟨gT, 0, none⟩ (.slice (some ⟨gg, 0, none⟩) 1 cap) := by rw [← hw9]; exact own_set_eq2 ⟨p1, p2⟩
    have T1 : Own w9 ⟨gT, 1, none⟩ (.slice none 0 0) := by rw [← hw9]; exact own_set_ne2 ⟨p3, p4⟩ (by simp)
    have HO9 : Hid (w9.ownsRow wq.heap.size 46 9 (.slice (some ⟨gg, 0, none⟩) 1 cap) 1 ([(⟨0, s, 1, 1, A, 0, ca, [], 0, Z, 0, cz, [], none, 0, 0, [], 0⟩ : OrdR)].flatMap ordC)) := Lib.hid (by rw [← hw9]; exact World.ownsRow.kept hown9 (grown_set2 _ _ _ _) (Or.inr (own_gne (by omega))))
    have HB9 : Hid (Below wz.heap.size wz w9) := Lib.hid (by rw [← hw9]; exact (below_ext HBq.out HB8.out).setCell FTl.out _)
    have HR9 : Hid (w9.heap[w.heap.size + 2]? = some (.cells #[.slice none 0 0, .slice none 0 0] 25)) := Lib.hid (blk_below HRz.out HB9.out)
    rw [hw9]
    clear hw9 hown hown8 hown9 hgrow8 hgg8 hlt8 p1 p2 p3 p4 e0 e1 e2 e3 e4 t0 t1 y0 b5 hgq hgT
    obtain ⟨t0, y0⟩ := T0
    obtain ⟨t1, y1⟩ := T1
    go_wp2_with ((with_reducible show wpList _ _ _ (⟨none, _, _, _, _, _⟩ :: _) _ _); refine wpList_store_row rfl 25 _ _ rfl (w.heap.size + 2) #[.slice (some ⟨gg, 0, none⟩) 1 cap, .slice none 0 0] rfl rfl _ _ HR9.out (by kernel_rfl) rfl (by simp [Value.oneCell']) ?_)
    have hrw := setRow_heap _ _ _ #[.slice (some ⟨gg, 0, none⟩) 1 cap, .slice none 0 0] _ _ HR9.out
    have hbF := below_setRow' (below_ext HBz.out HB9.out) (cs := #[.slice (some ⟨gg, 0, none⟩) 1 cap, .slice none 0 0]) (Nat.le_add_right w.heap.size 2)
    have HOF := World.ownsRow.kept HO9.out (grown_setRow w9 (w.heap.size + 2) #[.slice (some ⟨gg, 0, none⟩) 1 cap, .slice none 0 0]) (Or.inr (own_gne (by have := (World.ownsRow.lt HO9.out gg rfl).1; have := HBq.out.size; have := HSz.out; omega)))
    obtain ⟨g5, cap5, e5, _, _, _, _, hcs5⟩ := own_cells ordC 9 noOrd HOF rfl (fun _ _ => rfl) (by decide)
    cases e5
    refine bodyPost_ret (v := .tuple #[tlV (some ⟨gg, 0, none⟩) 1 cap none 0 0, .int .i64 0, .int .i64 0]) (results_cell_tmp3 (p := 6) (q := 7) (r := 8) (ty := 25) rfl _ _ ⟨w.heap.size + 2, 0, none⟩ _ _ _ rfl rfl rfl (run_loadVar_row _ _ _ _ _ _ _ hrw Tryd.underlying25 rfl (by kernel_rfl))) rfl ⟨gg, cap, A, ca, Z, cz, rfl, fun k hk => ?_, hbF⟩
    obtain rfl : k = 0 := by simpa using hk
    refine ⟨gg, 0, rfl, ⟨?_, ?_, ?_, ?_, ?_, ?_, ?_, ?_, ?_⟩, rfl, rfl, ⟨rfl, Nat.le_refl _⟩, sl0 _ _, sl0 _ _, fun j hj => absurd hj (by simp)⟩
    all_goals simp only [Nat.zero_mul, Nat.add_zero, Nat.zero_add]
    · have h9 := hcs5 0 (by decide) 0 (by decide); simpa using h9
    · have h9 := hcs5 0 (by decide) 1 (by decide); simpa using h9
    · have h9 := hcs5 0 (by decide) 2 (by decide); simpa using h9
    · have h9 := hcs5 0 (by decide) 3 (by decide); simpa using h9
    · have h9 := hcs5 0 (by decide) 4 (by decide); simpa using h9
    · have h9 := hcs5 0 (by decide) 5 (by decide); simpa using h9
    · have h9 := hcs5 0 (by decide) 6 (by decide); simpa using h9
    · have h9 := hcs5 0 (by decide) 7 (by decide); simpa using h9
    · have h9 := hcs5 0 (by decide) 8 (by decide); simpa using h9
  have G1_5 : ∀ (gT : Nat) (u : World), (Hid (Below wz.heap.size wz u)) → (Hid (u.heap[gT]? = some (.cells #[.slice none 0 0, .slice none 0 0] 25))) → (Hid (wz.heap.size ≤ gT)) → T 2 #[true, true, true, true, true, true, false, false] ((a0.put (some 42) (tlV none 0 0 none 0 0)).put (some 9) (.pointer (some ⟨gT, 0, none⟩))) u := by
    intro gT u FB FT FTl
    have hHeld := hS.out _ FB
    rw [hT, ha0]
    try simp only [qq1, qq2, qq3, Act.put, qq4, qq5, qq6]
    refine wpT_one (i := 6) (by kernel_rfl) rfl (fun K hK => ?_)
    rw [show (if Region.wanted _ _ = true then _ else _ : Prop) = _ from if_pos rfl]
    refine wp_store_row 25 _ _ rfl gT #[.slice none 0 0, .slice none 0 0] rfl rfl 25 _ FT.out (by kernel_rfl) rfl (by simp [Value.oneCell']) ?_
    have FB2 : Hid (Below wz.heap.size wz (u.setRow gT #[.slice none 0 0, .slice none 0 0])) := Lib.hid (below_setRow' FB.out FTl.out)
    refine hK.out _ _ ?_ (fun hHeld => ?_)
    · exact hS.out _ FB2
    clear hK K hHeld
    try simp only [qq1, qq2, qq3, Act.put, qq4, qq5, qq6]
    have hG := G1_5_6 gT (u.setRow gT #[.slice none 0 0, .slice none 0 0]) FB2 (Lib.hid (setRow_heap _ _ _ _ _ _ FT.out)) FTl
    rw [hT, ha0] at hG
    (try simp only [qq1, qq2, qq3, Act.put, qq4, qq5, qq6] at hG)
    exact hG
  have G1 : ∀  (u : World), (Hid (Below wz.heap.size wz u)) → T 3 #[true, true, true, true, true, false, false, false] (a0.put (some 42) (tlV none 0 0 none 0 0)) u := by
    intro  u FB
    have hHeld := hS.out _ FB
    rw [hT, ha0]
    try simp only [qq1, qq2, qq3, Act.put, qq4, qq5, qq6]
    refine wpT_one (i := 5) (by kernel_rfl) rfl (fun K hK => ?_)
    go_simp
    have FB2 := hBx.out _ _ FB (below_box0 u (.cells #[.slice none 0 0, .slice none 0 0] 25))
    refine hK.out _ _ ?_ (fun hHeld => ?_)
    · exact hS.out _ FB2
    clear hK K hHeld
    try simp only [qq1, qq2, qq3, Act.put, qq4, qq5, qq6]
    have hG := G1_5 u.heap.size (u.alloc (.cells #[.slice none 0 0, .slice none 0 0] 25)) FB2 (Lib.hid (heap_alloc_new u _)) (Lib.hid FB.out.size)
    rw [hT, ha0] at hG
    (try simp only [qq1, qq2, qq3, Act.put, qq4, qq5, qq6] at hG)
    exact hG
  have G5 : ∀ (gT : Nat) (u : World), (Hid (Below wz.heap.size wz u)) → (Hid (u.heap[gT]? = some (.cells #[.slice none 0 0, .slice none 0 0] 25))) → (Hid (wz.heap.size ≤ gT)) → T 3 #[true, false, true, true, true, true, false, false] (a0.put (some 9) (.pointer (some ⟨gT, 0, none⟩))) u := by
    intro gT u FB FT FTl
    have hHeld := hS.out _ FB
    rw [hT, ha0]
    try simp only [qq1, qq2, qq3, Act.put, qq4, qq5, qq6]
    refine wpT_one (i := 1) (by kernel_rfl) rfl (fun K hK => ?_)
    go_simp
    refine (cloned_0 _).mono ?_
    rintro e wB ⟨rfl, hq⟩
    have FB2 := hBx.out _ _ FB hq
    refine hK.out _ _ ?_ (fun hHeld => ?_)
    · exact hS.out _ FB2
    clear hK K hHeld
    try simp only [qq1, qq2, qq3, Act.put, qq4, qq5, qq6]
    have hG := G1_5 gT wB FB2 (Lib.hid (blk_below FT.out hq)) (FTl)
    rw [hT, ha0] at hG
    (try simp only [qq1, qq2, qq3, Act.put, qq4, qq5, qq6] at hG)
    exact hG
  have G0 : ∀  (u : World), (Hid (Below wz.heap.size wz u)) → T 4 #[true, false, true, true, true, false, false, false] a0 u := by
    intro  u FB
    have hHeld := hS.out _ FB
    rw [hT, ha0]
    try simp only [qq1, qq2, qq3, Act.put, qq4, qq5, qq6]
    refine wpT_two (i1 := 1) (i2 := 5) (by kernel_rfl) rfl rfl (fun K hK => ?_) (fun K hK => ?_)
    · skip
      go_simp
      refine (cloned_0 _).mono ?_
      rintro e wB ⟨rfl, hq⟩
      have FB2 := hBx.out _ _ FB hq
      refine hK.out _ _ ?_ (fun hHeld => ?_)
      · exact hS.out _ FB2
      clear hK K hHeld
      try simp only [qq1, qq2, qq3, Act.put, qq4, qq5, qq6]
      have hG := G1  wB FB2
      rw [hT, ha0] at hG
      (try simp only [qq1, qq2, qq3, Act.put, qq4, qq5, qq6] at hG)
      exact hG
    · skip
      go_simp
      have FB2 := hBx.out _ _ FB (below_box0 u (.cells #[.slice none 0 0, .slice none 0 0] 25))
      refine hK.out _ _ ?_ (fun hHeld => ?_)
      · exact hS.out _ FB2
      clear hK K hHeld
      try simp only [qq1, qq2, qq3, Act.put, qq4, qq5, qq6]
      have hG := G5 u.heap.size (u.alloc (.cells #[.slice none 0 0, .slice none 0 0] 25)) FB2 (Lib.hid (heap_alloc_new u _)) (Lib.hid FB.out.size)
      rw [hT, ha0] at hG
      (try simp only [qq1, qq2, qq3, Act.put, qq4, qq5, qq6] at hG)
      exact hG
  exact G0 _ HBD
theorem wpList_eql_hash {ops : Array Oper} {rest : List Oper} {o : Oper} {a : Act} {w : World} {Q : Exit → Act → World → Prop} (hw : Region.wanted o (yielded ops a.tmps) = true) (x y : Operand) (t : TypeId) (ho : o.op = .binOp .eql 42 x y t)
    (h h' : List Int) (hl : h.length = 32) (hl' : h'.length = 32) (hx : a.eval x = .agg (arr .u8 h)) (hy : a.eval y = .agg (arr .u8 h')) (r : Bool) (hr : (h == h') = r)
    (hK : wpList Tryd.prog ops Q rest (a.put o.dst (.bool r)) w) : wpList Tryd.prog ops Q (o :: rest) a w :=
  wpList_step fun K hK' => by
    rw [if_pos hw]
    unfold Oper.wp execOp
    simp only [ho, hx, hy, Sem.run_bind, run_eqGuard_agg (P := Tryd.prog) w .eql 42 x y _ _ noGuardH, run_eql_struct, run_equalIn_arrH (P := Tryd.prog) w 9998 42 5 32 (by kernel_rfl) (by kernel_rfl) szU8H h h' hl hl', hr, Result.andThen_ok]
    exact hK' _ _ hK
set_option maxHeartbeats 12800000 in
theorem awake51 (w : World) (hv : Hid (VarsD w)) :
    Calls Tryd.prog 4 #[] w fun e' w' => e' = .returned (.bool true) ∧ Below w.heap.size w w' := by
  obtain ⟨w0, hW⟩ : ∃ W, w = W := ⟨_, rfl⟩
  have HBw : Hid (Below w.heap.size w w0) := Lib.hid (by rw [← hW]; exact Below.refl _ _)
  have kC := Lib.hid (show ∀ u : World, Hid (Below w0.heap.size w0 u) → True from fun _ _ => trivial)
  have kD := Lib.hid (show ∀ u : World, Hid (Below w0.heap.size w0 u) → Hid (VarsD u) from fun u h => Lib.hid ((hv.out.below) (below_ext HBw.out h.out)))
  have HB_0 : Hid (Below w0.heap.size w0 w0) := Lib.hid (Below.refl _ _)
  have HW := Lib.hid hW
  clear hW hv
  go_enter Tryd.func4, Tryd.ntmps4
  go_wp2_with fail
  rw [HW.out]
  go_wp2_with fail
  refine (new_any _).mono ?_
  rintro e w1 ⟨rfl, hb0⟩
  have HB_1 := Lib.hid (below_ext HB_0.out hb0)
  clear hb0
  go_wp2_with fail
  refine (open_e ⟨#[119, 104, 121]⟩ (Lib.hid rfl) _ (kD.out _ HB_1)).mono ?_
  rintro e w2 ⟨g, cap, A, ca, Z, cz, rfl, hos, hb0⟩
  have HOS := Lib.hid hos
  clear hos
  have HB_2 := Lib.hid (below_ext HB_1.out hb0)
  clear hb0
  have HB_w2_2 : Hid (Below w2.heap.size w2 w2) := Lib.hid (Below.refl _ _)
  have kO := Lib.hid (show ∀ u : World, Hid (Below w2.heap.size w2 u) → Hid (Os u (some ⟨g, 0, none⟩) [(⟨0, ⟨#[119, 104, 121]⟩, 1, 1, A, 0, ca, [], 0, Z, 0, cz, [], none, 0, 0, [], 0⟩ : OrdR)]) from fun u h => Lib.hid (HOS.out.below h.out))
  have hI : ∀ k, k < 0 + 1 → OrdI (orL [(⟨0, ⟨#[119, 104, 121]⟩, 1, 1, A, 0, ca, [], 0, Z, 0, cz, [], none, 0, 0, [], 0⟩ : OrdR)] k) := fun k hk => by
    obtain rfl : k = 0 := by omega
    show i64 0 ∧ i64 1 ∧ i64 1 ∧ i64 0 ∧ i64 0 ∧ (∀ x ∈ ([] : List Int), i64 x) ∧ (∀ x ∈ ([] : List Int), i64 x) ∧ ∀ p ∈ ([] : List PartR), PartI p
    exact ⟨⟨by decide, by decide⟩, ⟨by decide, by decide⟩, ⟨by decide, by decide⟩, ⟨by decide, by decide⟩, ⟨by decide, by decide⟩, fun x hx => absurd hx (by simp), fun x hx => absurd hx (by simp), fun x hx => absurd hx (by simp)⟩
  have HI := Lib.hid hI
  have HTR : Kp (trlB [(⟨0, ⟨#[119, 104, 121]⟩, 1, 1, A, 0, ca, [], 0, Z, 0, cz, [], none, 0, 0, [], 0⟩ : OrdR)] [] = true) := ⟨by rfl⟩
  have HON : Hid (opnB [(⟨0, ⟨#[119, 104, 121]⟩, 1, 1, A, 0, ca, [], 0, Z, 0, cz, [], none, 0, 0, [], 0⟩ : OrdR)] (0 + 1) = true) := Lib.hid (by rfl)
  clear hI
  have hq := below_box0 w2 (tlO (some ⟨g, 0, none⟩) 1 cap none 0 0)
  have HB_3 := Lib.hid (below_ext HB_2.out hq)
  have HB_w2_3 := Lib.hid (below_ext HB_w2_2.out hq)
  have hc : (w2.alloc (tlO (some ⟨g, 0, none⟩) 1 cap none 0 0)).cell? ⟨w2.heap.size, 0, none⟩ = some (.slice (some ⟨g, 0, none⟩) 1 cap) ∧ (w2.alloc (tlO (some ⟨g, 0, none⟩) 1 cap none 0 0)).cell? ⟨w2.heap.size, 1, none⟩ = some (.slice none 0 0) := ⟨allocs_cell rfl (by rfl), allocs_cell rfl (by rfl)⟩
  have HC3 := Lib.hid hc
  clear hq
  obtain ⟨zq0, zq1⟩ := hc
  go_wp2_with fail
  obtain ⟨w3, hw⟩ : ∃ x, (w2.alloc (tlO (some ⟨g, 0, none⟩) 1 cap none 0 0)) = x := ⟨_, rfl⟩
  rw [hw] at HC3 HB_3 HB_w2_3 ⊢
  have HSN3 : Hid (w3.heap.size = w2.heap.size + 1) := Lib.hid (by rw [← hw]; simp)
  clear zq0 zq1
  clear hw
  have HB_w3_3 : Hid (Below w3.heap.size w3 w3) := Lib.hid (Below.refl _ _)
  have kT := Lib.hid (show ∀ u : World, Hid (Below w3.heap.size w3 u) → u.cell? ⟨w2.heap.size, 0, none⟩ = some (.slice (some ⟨g, 0, none⟩) 1 cap) ∧ u.cell? ⟨w2.heap.size, 1, none⟩ = some (.slice none 0 0) from fun u h => ⟨cell_below HC3.out.1 h.out, cell_below HC3.out.2 h.out⟩)
  obtain ⟨kT_0, kT_1⟩ := kT.out _ HB_w3_3
  go_wp2_with fail
  refine (open_6 (some ⟨g, 0, none⟩) [(⟨0, ⟨#[119, 104, 121]⟩, 1, 1, A, 0, ca, [], 0, Z, 0, cz, [], none, 0, 0, [], 0⟩ : OrdR)] 0 cap none [] 0 0 (Lib.hid rfl) (Lib.hid rfl) HI.out (by omega) (by omega) 0 0 none 0 0 0 none 0 0 ⟨#[119, 104, 121]⟩ (Lib.hid rfl) (Lib.hid rfl) HTR HON _ (kD.out _ HB_3) (kO.out _ HB_w2_3) (Lib.hid (fun k h => absurd h (by simp)))).mono ?_
  rintro e w4 ⟨rfl, hb0⟩
  have HB_4 := Lib.hid (below_ext HB_3.out hb0)
  have HB_w2_4 := Lib.hid (below_ext HB_w2_3.out hb0)
  have HB_w3_4 := Lib.hid (below_ext HB_w3_3.out hb0)
  clear kT_0 kT_1
  clear hb0
  obtain ⟨kT_0, kT_1⟩ := kT.out _ HB_w3_4
  have hq := below_box0 w4 (tlO none 0 0 none 0 0)
  have HB_5 := Lib.hid (below_ext HB_4.out hq)
  have HB_w2_5 := Lib.hid (below_ext HB_w2_4.out hq)
  have HB_w3_5 := Lib.hid (below_ext HB_w3_4.out hq)
  have hc : (w4.alloc (tlO none 0 0 none 0 0)).cell? ⟨w4.heap.size, 0, none⟩ = some (.slice none 0 0) ∧ (w4.alloc (tlO none 0 0 none 0 0)).cell? ⟨w4.heap.size, 1, none⟩ = some (.slice none 0 0) := ⟨allocs_cell rfl (by rfl), allocs_cell rfl (by rfl)⟩
  have HC5 := Lib.hid hc
  clear kT_0 kT_1
  clear hq
  obtain ⟨kT_0, kT_1⟩ := kT.out _ HB_w3_5
  obtain ⟨zq0, zq1⟩ := hc
  go_wp2_with fail
  obtain ⟨w5, hw⟩ : ∃ x, (w4.alloc (tlO none 0 0 none 0 0)) = x := ⟨_, rfl⟩
  rw [hw] at HC5 HB_5 HB_w2_5 HB_w3_5 ⊢
  have HSN5 : Hid (w5.heap.size = w4.heap.size + 1) := Lib.hid (by rw [← hw]; simp)
  clear kT_0 kT_1 zq0 zq1
  clear hw
  have HB_w5_5 : Hid (Below w5.heap.size w5 w5) := Lib.hid (Below.refl _ _)
  have kT2 := Lib.hid (show ∀ u : World, Hid (Below w5.heap.size w5 u) → u.cell? ⟨w4.heap.size, 0, none⟩ = some (.slice none 0 0) ∧ u.cell? ⟨w4.heap.size, 1, none⟩ = some (.slice none 0 0) from fun u h => ⟨cell_below HC5.out.1 h.out, cell_below HC5.out.2 h.out⟩)
  obtain ⟨kT_0, kT_1⟩ := kT.out _ HB_w3_5
  obtain ⟨kT2_0, kT2_1⟩ := kT2.out _ HB_w5_5
  go_wp2_with fail
  refine (tval_any (some ⟨g, 0, none⟩) [(⟨0, ⟨#[119, 104, 121]⟩, 1, 1, A, 0, ca, [], 0, Z, 0, cz, [], none, 0, 0, [], 0⟩ : OrdR)] 1 cap none [] 0 0 (Lib.hid rfl) (Lib.hid rfl) HI.out (by omega) (by omega) true HTR _ (kD.out _ HB_5) (kO.out _ HB_w2_5) (Lib.hid (fun k h => absurd h (by simp)))).mono ?_
  rintro e w6 ⟨rfl, hb0⟩
  have HB_6 := Lib.hid (below_ext HB_5.out hb0)
  have HB_w2_6 := Lib.hid (below_ext HB_w2_5.out hb0)
  have HB_w3_6 := Lib.hid (below_ext HB_w3_5.out hb0)
  have HB_w5_6 := Lib.hid (below_ext HB_w5_5.out hb0)
  clear kT_0 kT_1 kT2_0 kT2_1
  clear hb0
  obtain ⟨kT_0, kT_1⟩ := kT.out _ HB_w3_6
  obtain ⟨kT2_0, kT2_1⟩ := kT2.out _ HB_w5_6
  go_wp2_with fail
  refine (digest_0 (some ⟨g, 0, none⟩) [(⟨0, ⟨#[119, 104, 121]⟩, 1, 1, A, 0, ca, [], 0, Z, 0, cz, [], none, 0, 0, [], 0⟩ : OrdR)] 1 cap none 0 (Lib.hid rfl) HI.out (by omega) HTR _ (kD.out _ HB_6) (kO.out _ HB_w2_6) (Lib.hid (fun k h => absurd h (by simp)))).mono ?_
  rintro e w7 ⟨rfl, hb0⟩
  have HB_7 := Lib.hid (below_ext HB_6.out hb0)
  have HB_w2_7 := Lib.hid (below_ext HB_w2_6.out hb0)
  have HB_w3_7 := Lib.hid (below_ext HB_w3_6.out hb0)
  have HB_w5_7 := Lib.hid (below_ext HB_w5_6.out hb0)
  clear kT_0 kT_1 kT2_0 kT2_1
  clear hb0
  obtain ⟨kT_0, kT_1⟩ := kT.out _ HB_w3_7
  obtain ⟨kT2_0, kT2_1⟩ := kT2.out _ HB_w5_7
  have hbF := below_ext HBw.out HB_7.out
  go_wp2_with ((with_reducible show wpList _ _ _ (⟨some 51, _, _, _, _, _⟩ :: _) _ _); refine wpList_eql_hash (by rfl) _ _ _ rfl (zer 32) (zer 32) (by simp [zer]) (by simp [zer]) rfl rfl true (by simp) ?_)
  go_ret
  exact ⟨rfl, hbF⟩
set_option maxHeartbeats 3200000 in
theorem rbefore_0 (O : Option Addr) (n c : Nat) (K : Option Addr) (m d : Nat) (w : World) : Calls Tryd.prog 16 #[tlV O n c K m d, .int .i64 0] w fun e' w' => e' = .returned (.agg (arr .u8 (zer 32))) ∧ Below w.heap.size w w' := by
  obtain ⟨W, hW⟩ : ∃ W, (w.alloc (tlO O n c K m d)).alloc (.cells #[.int .u8 0, .int .u8 0, .int .u8 0, .int .u8 0, .int .u8 0, .int .u8 0, .int .u8 0, .int .u8 0, .int .u8 0, .int .u8 0, .int .u8 0, .int .u8 0, .int .u8 0, .int .u8 0, .int .u8 0, .int .u8 0, .int .u8 0, .int .u8 0, .int .u8 0, .int .u8 0, .int .u8 0, .int .u8 0, .int .u8 0, .int .u8 0, .int .u8 0, .int .u8 0, .int .u8 0, .int .u8 0, .int .u8 0, .int .u8 0, .int .u8 0, .int .u8 0] 42) = W := ⟨_, rfl⟩
  have HBX : Hid (Below w.heap.size w W) := Lib.hid (by rw [← hW]; exact below_two (Below.refl _ _))
  have HR0 : Hid (Blk .u8 42 W (w.heap.size + 1) (zer 32)) := Lib.hid (by rw [← hW, zarrh]; exact heap_alloc2_new _ _ _)
  have HW := Lib.hid hW
  clear hW
  go_enter Tryd.func16, Tryd.ntmps16
  go_upto_region 1 with (fail)
  rw [HW.out]
  go_wp2_with ((with_reducible show wpList _ _ _ (⟨none, _, _, _, _, _⟩ :: _) _ _); refine wpList_store_row rfl 42 _ _ rfl (w.heap.size + 1) (arr .u8 (zer 32)) rfl rfl _ _ HR0.out (hash_info (by simp [zer])) rfl (arr_one _) ?_)
  have hrw := HR0.out.setRow (l' := (zer 32))
  exact bodyPost_ret (v := .agg (arr .u8 (zer 32))) (results_cell1 (p := 4) (ty := 42) rfl _ _ ⟨w.heap.size + 1, 0, none⟩ _ rfl (run_loadVar_row _ _ _ _ _ _ _ hrw Tryd.underlying42 rfl (hash_info (by simp [zer])))) rfl ⟨rfl, below_setRow' HBX.out (Nat.le_succ _)⟩
set_option maxHeartbeats 3200000 in
theorem rbefore_s (O : Option Addr) (n c : Nat) (K : Option Addr) (hs : List (List Int)) (m d k : Nat) (hm : Hid (hs.length = m)) (hk : k < m) (hb2 : m ≤ 1000000) (w : World) (hK : Hid (Hs w K hs)) : Calls Tryd.prog 16 #[tlV O n c K m d, .int .i64 ((k : Int) + 1)] w fun e' w' => e' = .returned (.agg (arr .u8 (hsL hs k))) ∧ Below w.heap.size w w' := by
  have d0 : decide ((k : Int) + 1 = 0) = false := by simp; omega
  have dw : IntKind.i64.wrap ((k : Int) + 1 - 1) = (k : Int) := by rw [show (k : Int) + 1 - 1 = (k : Int) by omega]; exact IntWalk.i64_in _ (by omega)
  have dw2 : wrap64 ((k : Int) + 1 - 1) = (k : Int) := by rw [show (k : Int) + 1 - 1 = (k : Int) by omega]; exact IntWalk.wrap64_in _ (by omega)
  obtain ⟨W, hW⟩ : ∃ W, (w.alloc (tlO O n c K m d)).alloc (.cells #[.int .u8 0, .int .u8 0, .int .u8 0, .int .u8 0, .int .u8 0, .int .u8 0, .int .u8 0, .int .u8 0, .int .u8 0, .int .u8 0, .int .u8 0, .int .u8 0, .int .u8 0, .int .u8 0, .int .u8 0, .int .u8 0, .int .u8 0, .int .u8 0, .int .u8 0, .int .u8 0, .int .u8 0, .int .u8 0, .int .u8 0, .int .u8 0, .int .u8 0, .int .u8 0, .int .u8 0, .int .u8 0, .int .u8 0, .int .u8 0, .int .u8 0, .int .u8 0] 42) = W := ⟨_, rfl⟩
  have HBX : Hid (Below w.heap.size w W) := Lib.hid (by rw [← hW]; exact below_two (Below.refl _ _))
  have HR0 : Hid (Blk .u8 42 W (w.heap.size + 1) (zer 32)) := Lib.hid (by rw [← hW, zarrh]; exact heap_alloc2_new _ _ _)
  have hc : W.cell? ⟨w.heap.size, 0, none⟩ = some (.slice O n c) ∧ W.cell? ⟨w.heap.size, 1, none⟩ = some (.slice K m d) := by rw [← hW]; exact ⟨cell_below (allocs_cell (by simp) (by rfl)) (below_box0 _ _), cell_below (allocs_cell (by simp) (by rfl)) (below_box0 _ _)⟩
  obtain ⟨zc0, zc1⟩ := hc
  obtain ⟨b, o, rfl, hl, hrg0⟩ := hK.out k (by rw [hm.out]; exact hk)
  have hrg := Lib.hid (rangeAt_below hrg0 HBX.out)
  obtain ⟨h, hh⟩ : ∃ h, hsL hs k = h := ⟨_, rfl⟩
  rw [hh] at hrg hl
  rw [hh]
  clear hrg0 hK hm hh
  have HW := Lib.hid hW
  clear hW
  go_enter Tryd.func16, Tryd.ntmps16
  go_upto_region 1 with (fail)
  rw [HW.out]
  go_wp2_with (first | (with_reducible show wpList _ _ _ (⟨_, .load 42 _, _, _, _, _⟩ :: _) _ _; refine wpList_load_mid rfl _ _ rfl b (o + k * 32) rfl (h.map (Value.int .u8)) _ hrg.out Tryd.underlying42 rfl (map_size hl) ?_) | ((with_reducible show wpList _ _ _ (⟨none, _, _, _, _, _⟩ :: _) _ _); refine wpList_store_row rfl 42 _ _ rfl (w.heap.size + 1) (arr .u8 h) rfl rfl _ _ HR0.out (hash_info hl) (arrs_sz (by simp [zer]) hl) (arr_one _) ?_))
  have hrw := HR0.out.setRow (l' := h)
  exact bodyPost_ret (v := .agg (arr .u8 h)) (results_cell1 (p := 4) (ty := 42) rfl _ _ ⟨w.heap.size + 1, 0, none⟩ _ rfl (run_loadVar_row _ _ _ _ _ _ _ hrw Tryd.underlying42 rfl (hash_info hl))) rfl ⟨rfl, below_setRow' HBX.out (Nat.le_succ _)⟩
structure RowsB {α : Type _} (f : α → List Value) (s : Nat) (d : α) (w : World) (g : Nat) (l : List α) (tot : Nat) : Prop where
  at_ : ∀ k, k < l.length → w.rangeAt g (k * s) (f (l.getD k d))
  there : w.there g 0 (tot * s)
  le : l.length ≤ tot
theorem RowsB.agree {α : Type _} {f : α → List Value} {s : Nat} {d : α} {w w' : World} {g tot : Nat} {l : List α} (h : RowsB f s d w g l tot) (e : w'.heap[g]? = w.heap[g]?) : RowsB f s d w' g l tot :=
  ⟨fun k hk j v hj => (cell_agree e).trans (h.at_ k hk j v hj), fun j hj => ⟨by rw [cell_agree e]; exact (h.there j hj).1, by have := (h.there j hj).2; simp only [World.frozen?, e] at this ⊢; exact this⟩, h.le⟩
theorem getD_set {α : Type _} {l : List α} {i k : Nat} {x d : α} (hi : i < l.length) : (l.set i x).getD k d = if k = i then x else l.getD k d := by
  rw [List.getD_eq_getElem?_getD, List.getElem?_set]
  by_cases e : k = i
  · subst e; simp [hi]
  · rw [if_neg (fun h => e h.symm), if_neg e, List.getD_eq_getElem?_getD]
theorem row_apart {k i s : Nat} (h : k ≠ i) : k * s + s ≤ i * s ∨ i * s + s ≤ k * s := by
  rcases Nat.lt_or_gt_of_ne h with h | h
  · left; have := Nat.mul_le_mul_right s h; rw [Nat.succ_mul] at this; exact this
  · right; have := Nat.mul_le_mul_right s h; rw [Nat.succ_mul] at this; exact this
theorem RowsB.setCell {α : Type _} {f : α → List Value} {s : Nat} {d : α} {w : World} {g tot : Nat} {l : List α} (h : RowsB f s d w g l tot) (hl : ∀ x ∈ l, (f x).length = s) {i r : Nat} {x : α} {v : Value} (hi : i < l.length) (hr : r < s)
    (hx : f x = (f (l.getD i d)).set r v) : RowsB f s d (w.setCell ⟨g, i * s + r, none⟩ v) g (l.set i x) tot := by
  have hlen : ∀ k, k < l.length → (f (l.getD k d)).length = s := fun k hk => by
    rw [List.getD_eq_getElem?_getD, List.getElem?_eq_getElem hk]
    exact hl _ (List.getElem_mem _)
  refine ⟨fun k hk j u hj => ?_, fun j hj => ⟨?_, by rw [World.frozen?_setCell]; exact (h.there j hj).2⟩, by rw [List.length_set]; exact h.le⟩
  · rw [List.length_set] at hk
    rw [getD_set hi] at hj
    by_cases e : k = i
    · subst e
      rw [if_pos rfl, hx] at hj
      by_cases e2 : j = r
      · subst e2
        rw [List.getElem?_set_self (by rw [hlen k hk]; exact hr)] at hj
        cases hj
        have h0 := h.at_ k hk j _ (List.getElem?_eq_getElem (by rw [hlen k hk]; exact hr))
        exact World.cell?_setCell_same _ _ _ h0
      · rw [List.getElem?_set_ne (fun h => e2 h.symm)] at hj
        rw [World.cell?_setCell_other _ _ _ _ (fun e3 => by simp at e3 <;> omega)]
        exact h.at_ k hk j u hj
    · rw [if_neg e] at hj
      have hj2 : j < s := by rw [← hlen k hk]; exact (List.getElem?_eq_some_iff.1 hj).1
      rw [World.cell?_setCell_other _ _ _ _ (fun e3 => by
        have := row_apart (s := s) e
        simp at e3 <;> omega)]
      exact h.at_ k hk j u hj
  · obtain ⟨u, hu⟩ := Option.isSome_iff_exists.1 (h.there j hj).1
    by_cases e : (⟨g, 0 + j, none⟩ : Addr) = ⟨g, i * s + r, none⟩
    · rw [← e, World.cell?_setCell_same _ _ _ hu] <;> rfl
    · rw [World.cell?_setCell_other _ _ _ _ (fun e2 => e (by first | exact e2 | exact e2.symm)), hu]; rfl
theorem trl_parts {os : List OrdR} {hs : List (List Int)} (h : trlB os hs = true) : trS os hs os.length os.length = true ∧ clN os os.length = hs.length ∧ os.length ≤ 100 := by
  simp only [trlB, Bool.and_eq_true, beq_iff_eq, decide_eq_true_eq] at h
  exact ⟨h.2.1, h.2.2, h.1⟩
theorem cl_le (os : List OrdR) : ∀ k, clN os k ≤ k
  | 0 => Nat.le_refl _
  | k + 1 => by have := cl_le os k; rw [clN]; split <;> omega
theorem closed_key {os : List OrdR} {hs : List (List Int)} (h : trlB os hs = true) {i : Nat} (hi : i < hs.length) : i < os.length ∧ (orL os i).key ≠ 0 := by
  obtain ⟨h1, h2, _⟩ := trl_parts h
  have h3 := cl_le os os.length
  have hlt : i < os.length := by omega
  refine ⟨hlt, fun e => ?_⟩
  have h4 := (trR_parts (trS_get h1 i hlt)).2.2.1 e
  have h6 : trS os hs os.length i = true := by
    cases e6 : trS os hs os.length i with
    | true => rfl
    | false => rw [trS_mono e6 _ (by omega)] at h1; cases h1
  have h5 := cl_eq h6 hlt
  rw [← h4, clN, if_pos e, h5] at h2
  omega
theorem link_at {os : List OrdR} {hs : List (List Int)} (h : trlB os hs = true) {i : Nat} (hi : i < os.length) (hk : (orL os i).key ≠ 0) : i < hs.length ∧ hsL hs i = hbL os (i + 1) :=
  (trR_parts (trS_get (trl_parts h).1 i hi)).2.2.2 hk
def befL (hs : List (List Int)) (i : Nat) : List Int := if i = 0 then zer 32 else hsL hs (i - 1)
theorem bef_hb {os : List OrdR} {hs : List (List Int)} (h : trlB os hs = true) {i : Nat} (hi : i ≤ hs.length) : befL hs i = hbL os i := by
  unfold befL
  by_cases e : i = 0
  · subst e; rfl
  · rw [if_neg e]
    obtain ⟨h1, h2⟩ := closed_key h (i := i - 1) (by omega)
    have h3 := (link_at h h1 h2).2
    rw [h3]; congr 1; omega
structure El (wB u : World) (N g gK : Nat) (o : OrdR) : Prop where
  la : o.al.length = o.na
  lz : o.zs.length = o.nz
  lp : o.ps.length = o.np ∧ o.np ≤ o.cp
  A : Sl wB o.A o.al
  Z : Sl wB o.Z o.zs
  p : ∀ k, k < o.ps.length → PaOk wB (o.ps.getD k noPart)
  b : 0 < o.np → ∃ b, o.L = some ⟨b, 0, none⟩ ∧ b ≠ g ∧ b ≠ gK ∧ wB.heap.size ≤ b ∧ b < N ∧ PB u b o.ps
theorem El.agree {wB u u' : World} {N g gK : Nat} {o : OrdR} (h : El wB u N g gK o) (he : ∀ b, b ≠ g → b ≠ gK → b < N → u'.heap[b]? = u.heap[b]?) : El wB u' N g gK o :=
  ⟨h.la, h.lz, h.lp, h.A, h.Z, h.p, fun h0 => by
    obtain ⟨b, h1, h2, h3, h4, h5, h6⟩ := h.b h0
    exact ⟨b, h1, h2, h3, h4, h5, h6.agree (he b h2 h3 h5)⟩⟩
theorem El.ok {wB u : World} {N g gK : Nat} {o : OrdR} (h : El wB u N g gK o) (hb : Below wB.heap.size wB u) : OrdOk u o := by
  refine ⟨h.la, h.lz, h.lp, h.A.below hb, h.Z.below hb, fun k hk => ?_⟩
  obtain ⟨b, h1, _, _, _, _, h4⟩ := h.b (by have := h.lp.1; omega)
  rw [h1]
  exact h4.pa (fun k hk => (h.p k hk).below hb) k hk
structure Cpd (wB u : World) (N g gK : Nat) (os : List OrdR) (hs : List (List Int)) (n m : Nat) : Prop where
  bel : Below wB.heap.size wB u
  ro : RowsB ordC 9 noOrd u g os n
  rk : RowsB hshC 32 [] u gK hs m
  el : ∀ o ∈ os, El wB u N g gK o
  ne : g ≠ gK
  lg : wB.heap.size ≤ g ∧ g < N
  lk : wB.heap.size ≤ gK ∧ gK < N
section
variable {wB u u' : World} {N g gK n m : Nat} {os : List OrdR} {hs : List (List Int)}
theorem Cpd.keep (h : Cpd wB u N g gK os hs n m) (he : ∀ b, b < N → u'.heap[b]? = u.heap[b]?) (hb : Below wB.heap.size wB u') : Cpd wB u' N g gK os hs n m :=
  ⟨hb, h.ro.agree (he g h.lg.2), h.rk.agree (he gK h.lk.2), fun o ho => (h.el o ho).agree fun b _ _ hb => he b hb, h.ne, h.lg, h.lk⟩
end
end Go.Proofs.YtofkihlpbfcdkaaDoor
namespace Go.Proofs.YtofkihlpbfcdkaaDoor
open Go.RowKit SpM
set_option linter.unusedVariables false
set_option linter.unusedSimpArgs false
def Dep (D : Nat → Prop) (w : World) (φ : World → Prop) : Prop := ∀ w' : World, (∀ b, b < w.heap.size → ¬ D b → w'.heap[b]? = w.heap[b]?) → φ w'
section
variable {D D' : Nat → Prop} {w w' : World} {φ ψ : World → Prop}
theorem Dep.self (h : Dep D w φ) : φ w := h w fun _ _ _ => rfl
theorem Dep.step (h : Dep D w φ) (hz : w.heap.size ≤ w'.heap.size) (hch : ∀ b, b < w.heap.size → ¬ D b → w'.heap[b]? = w.heap[b]?) (hD : ∀ b, b < w.heap.size → D' b → D b) : Dep D' w' φ :=
  fun w2 h2 => h w2 fun b hb hn => (h2 b (Nat.lt_of_lt_of_le hb hz) (fun e => hn (hD b hb e))).trans (hch b hb hn)
theorem Dep.below (h : Dep D w φ) (hb : Below w.heap.size w w') : Dep D w' φ := h.step hb.size (fun b q _ => hb.block b q) (fun _ _ e => e)
theorem Dep.shrink (h : Dep D w φ) (hD : ∀ b, b < w.heap.size → D' b → D b) : Dep D' w φ := h.step (Nat.le_refl _) (fun _ _ _ => rfl) hD
theorem Dep.imp (h : Dep D w φ) (hi : ∀ u, φ u → ψ u) : Dep D w ψ := fun u hu => hi u (h u hu)
theorem Dep.and (h : Dep D w φ) (h2 : Dep D w ψ) : Dep D w (fun u => φ u ∧ ψ u) := fun u hu => ⟨h u hu, h2 u hu⟩
theorem Dep.grown {row : Option Nat} (h : Dep D w φ) (hg : w.grownBy w' row) (hr : ∀ b, row = some b → D b) (hD : ∀ b, b < w.heap.size → D' b → D b) : Dep D' w' φ :=
  h.step hg.size (fun b q hn => hg.block b q (fun e => hn (hr b e.symm))) hD
theorem Dep.setCell {a j : Nat} {v : Value} (h : Dep D w φ) (ha : D a) : Dep D (w.setCell ⟨a, j, none⟩ v) φ :=
  h.step (by rw [World.size_setCell]; exact Nat.le_refl _) (fun b q hn => Go.Deep.blk_setCell_other _ _ _ _ (fun e => hn (by rw [e]; exact ha))) (fun _ _ e => e)
theorem Dep.setRow {a : Nat} {cs : Array Value} (h : Dep D w φ) (ha : D a) : Dep D (w.setRow a cs) φ :=
  h.step (by simp [World.setRow]) (fun b q hn => setRow_other w a b cs (fun e => hn (by rw [e]; exact ha))) (fun _ _ e => e)
theorem sl_dep {A : Option Addr} {xs : List Int} (h : Sl w A xs) (hA : ∀ b o, A = some ⟨b, o, none⟩ → 0 < xs.length → ¬ D b) : Dep D w (fun u => Sl u A xs) := fun w' h' k hk => by
  obtain ⟨b, o, rfl, hc⟩ := h k hk
  exact ⟨b, o, rfl, (cell_agree (h' b (World.block_lt_of_cell? _ _ hc) (hA b o rfl (by omega)))).trans hc⟩
end
structure SamP (p p' : PartR) : Prop where
  ix : p'.ix = p.ix
  v : p'.v = p.v
  na : p'.na = p.na
  al : p'.al = p.al
  C : p'.C = p.C
  nz : p'.nz = p.nz
  zs : p'.zs = p.zs
theorem SamP.rfl' (p : PartR) : SamP p p := ⟨rfl, rfl, rfl, rfl, rfl, rfl, rfl⟩
theorem SamP.it {p p' : PartR} (h : SamP p p') : pIt p' = pIt p := by rw [pIt, pIt, h.ix, h.v, h.al, h.C, h.zs]
theorem SamP.i {p p' : PartR} (h : SamP p p') (hi : PartI p) : PartI p' := by
  obtain ⟨h1, h2, h3, h4, h5⟩ := hi
  exact ⟨by rw [h.ix]; exact h1, by rw [h.v]; exact h2, by rw [h.C]; exact h3, by rw [h.al]; exact h4, by rw [h.zs]; exact h5⟩
structure SamO (o o' : OrdR) : Prop where
  num : o'.num = o.num
  rs : o'.rs = o.rs
  E1 : o'.E1 = o.E1
  E2 : o'.E2 = o.E2
  na : o'.na = o.na
  al : o'.al = o.al
  C : o'.C = o.C
  nz : o'.nz = o.nz
  zs : o'.zs = o.zs
  np : o'.np = o.np
  key : o'.key = o.key
  ln : o'.ps.length = o.ps.length
  p : ∀ k, k < o.ps.length → SamP (o.ps.getD k noPart) (o'.ps.getD k noPart)
theorem getP {ps : List PartR} {k : Nat} (h : k < ps.length) : ps.getD k noPart = ps[k] := by
  rw [List.getD_eq_getElem?_getD, List.getElem?_eq_getElem h]; rfl
theorem map_sam {ps ps' : List PartR} (hl : ps'.length = ps.length) (h : ∀ k, k < ps.length → SamP (ps.getD k noPart) (ps'.getD k noPart)) : ps'.map pIt = ps.map pIt := by
  refine List.ext_getElem (by simp [hl]) fun k h1 h2 => ?_
  have hk : k < ps.length := by simpa using h2
  have h9 := (h k hk).it
  rw [getP hk, getP (by rw [hl]; exact hk)] at h9
  rw [List.getElem_map, List.getElem_map]
  exact h9
theorem mem_sam {ps ps' : List PartR} (hl : ps'.length = ps.length) (h : ∀ k, k < ps.length → SamP (ps.getD k noPart) (ps'.getD k noPart)) {p' : PartR} (hp : p' ∈ ps') : ∃ p, p ∈ ps ∧ SamP p p' := by
  obtain ⟨k, hk, rfl⟩ := List.getElem_of_mem hp
  have hk2 : k < ps.length := by rw [← hl]; exact hk
  have h9 := h k hk2
  rw [getP hk2, getP hk] at h9
  exact ⟨_, List.getElem_mem hk2, h9⟩
theorem SamO.it {o o' : OrdR} (h : SamO o o') : oIt o' = oIt o := by rw [oIt, oIt, h.num, h.rs, h.E1, h.E2, h.al, h.C, h.zs, h.key, map_sam h.ln h.p]
theorem SamO.s {o o' : OrdR} (h : SamO o o') (hs : OrdS o) : OrdS o' :=
  ⟨by rw [h.al]; exact hs.a, by rw [h.zs]; exact hs.z, by rw [h.ln]; exact hs.n, fun p' hp => by
    obtain ⟨p, hp2, hq⟩ := mem_sam h.ln h.p hp
    rw [hq.al, hq.zs]
    exact hs.p p hp2, by rw [h.rs]; exact hs.r0, by rw [h.rs]; exact hs.r1⟩
theorem SamO.i {o o' : OrdR} (h : SamO o o') (hi : OrdI o) : OrdI o' := by
  obtain ⟨h1, h2, h3, h4, h5, h6, h7, h8⟩ := hi
  refine ⟨by rw [h.num]; exact h1, by rw [h.E1]; exact h2, by rw [h.E2]; exact h3, by rw [h.C]; exact h4, by rw [h.key]; exact h5, by rw [h.al]; exact h6, by rw [h.zs]; exact h7, fun p' hp => ?_⟩
  obtain ⟨p, hp2, hq⟩ := mem_sam h.ln h.p hp
  exact hq.i (h8 p hp2)
theorem SamO.rfl' (o : OrdR) : SamO o o := ⟨rfl, rfl, rfl, rfl, rfl, rfl, rfl, rfl, rfl, rfl, rfl, rfl, fun k _ => SamP.rfl' _⟩
theorem sam_reL (o : OrdR) (L : Option Addr) (c : Nat) : SamO o (reL o L c) := ⟨rfl, rfl, rfl, rfl, rfl, rfl, rfl, rfl, rfl, rfl, rfl, rfl, fun k _ => SamP.rfl' _⟩
structure OrdQ (base : Nat) (D : Nat → Prop) (w : World) (o : OrdR) : Prop where
  la : o.al.length = o.na
  lz : o.zs.length = o.nz
  lp : o.ps.length = o.np
  cp : o.np ≤ o.cp
  dA : Dep D w (fun u => Sl u o.A o.al)
  dZ : Dep D w (fun u => Sl u o.Z o.zs)
  dP : Dep D w (fun u => ∀ k, k < o.ps.length → PaOk u (o.ps.getD k noPart))
  row : w.ownsRow base 56 5 (.slice o.L o.np o.cp) o.np (o.ps.flatMap prtC)
theorem pa_row {w : World} {base n c : Nat} {L : Option Addr} {ps : List PartR} (hl : ps.length = n) (hr : w.ownsRow base 56 5 (.slice L n c) n (ps.flatMap prtC)) (hok : ∀ k, k < ps.length → PaOk w (ps.getD k noPart)) : Pa w L ps := fun k hk => by
  obtain ⟨g, cap, e, _, _, _, _, hc⟩ := own_cells prtC 5 noPart hr hl (fun _ _ => rfl) (by omega)
  cases e
  have h9 := hc k (by omega)
  refine ⟨g, 0, rfl, ?_, ?_, ?_, ?_, ?_, hok k hk⟩
  · rw [Nat.zero_add]; exact h9 0 (by decide)
  · rw [Nat.zero_add]; exact h9 1 (by decide)
  · rw [Nat.zero_add]; exact h9 2 (by decide)
  · rw [Nat.zero_add]; exact h9 3 (by decide)
  · rw [Nat.zero_add]; exact h9 4 (by decide)
theorem OrdQ.ok {base : Nat} {D : Nat → Prop} {w : World} {o : OrdR} (h : OrdQ base D w o) : OrdOk w o :=
  ⟨h.la, h.lz, ⟨h.lp, h.cp⟩, h.dA.self, h.dZ.self, pa_row h.lp h.row h.dP.self⟩
theorem OrdQ.dep {base : Nat} {D D' : Nat → Prop} {w : World} {o : OrdR} (h : OrdQ base D w o) (hD : ∀ b, b < w.heap.size → D' b → D b) (hL : ∀ b, (Value.slice o.L o.np o.cp).ownBlock = some b → ¬ D' b) : Dep D' w (fun u => OrdOk u o) := fun w' h' =>
  ⟨h.la, h.lz, ⟨h.lp, h.cp⟩, (h.dA.shrink hD) w' h', (h.dZ.shrink hD) w' h', by
    refine pa_row (base := base) (c := o.cp) h.lp ⟨h.row.1, ?_⟩ ((h.dP.shrink hD) w' h')
    rcases h.row.2 with e | ⟨g, cap, cur, e, hg, hh, rest⟩
    · exact .inl e
    · refine .inr ⟨g, cap, cur, e, hg, ?_, rest⟩
      refine (h' g (Array.getElem?_eq_some_iff.1 hh).1 (hL g ?_)).trans hh
      rw [e]; rfl⟩
theorem OrdQ.step {base : Nat} {D D' : Nat → Prop} {w w' : World} {o : OrdR} (h : OrdQ base D w o) (hz : w.heap.size ≤ w'.heap.size) (hch : ∀ b, b < w.heap.size → ¬ D b → w'.heap[b]? = w.heap[b]?) (hD : ∀ b, b < w.heap.size → D' b → D b) (hrow : ∀ b, (Value.slice o.L o.np o.cp).ownBlock = some b → w'.heap[b]? = w.heap[b]?) : OrdQ base D' w' o :=
  ⟨h.la, h.lz, h.lp, h.cp, h.dA.step hz hch hD, h.dZ.step hz hch hD, h.dP.step hz hch hD, h.row.1, by
    rcases h.row.2 with e | ⟨g, cap, cur, e, hg, hh, rest⟩
    · exact .inl e
    · exact .inr ⟨g, cap, cur, e, hg, (hrow g (by rw [e]; rfl)).trans hh, rest⟩⟩
end Go.Proofs.YtofkihlpbfcdkaaDoor
namespace Go.Proofs.YtofkihlpbfcdkaaDoor
open Go.RowKit SpM
set_option linter.unusedVariables false
set_option linter.unusedSimpArgs false
set_option maxRecDepth 100000
def HcOut (hs : List (List Int)) (m : Nat) (w : World) (e : Ending) (w' : World) : Prop := ∃ K d, e = .returned (.slice K m d) ∧ w'.ownsRow w.heap.size 42 32 (.slice K m d) m (hs.flatMap hshC) ∧ Below w.heap.size w w'
set_option maxHeartbeats 6400000 in
theorem cloneh_any (K : Option Addr) (hs : List (List Int)) (m d : Nat) (hm : Hid (hs.length = m)) (hb : m ≤ 1000000) (w : World) (hK : Hid (Hs w K hs)) :
    Calls Tryd.prog 49 #[.slice K m d] w (HcOut hs m w) := by
  have hq : ∀ (w : World) (a : Option Addr) (n c n' c' : Nat), (binOp .eql 23 (.slice a n c) (.slice none n' c')).run Tryd.prog w = .ok (.bool a.isNone) w := fun w a n c n' c' => Lib.run_eql_slice_nil w _ _ a n c n' c' Tryd.underlying23
  cases K with
  | none =>
    have h0 : m = 0 := by
      refine Nat.eq_zero_of_not_pos fun h => ?_
      obtain ⟨b, o, e, _⟩ := hK.out 0 (by rw [hm.out]; exact h)
      cases e
    subst h0
    have hn : hs = [] := List.eq_nil_of_length_eq_zero hm.out
    subst hn
    go_enter Tryd.func49, Tryd.ntmps49
    go_wp2
    go_ret
    exact ⟨none, 0, rfl, World.ownsRow_nil _ _ _ _, Below.refl _ _⟩
  | some a =>
    obtain ⟨i0, hi, hz0, hz1, hz2⟩ := info_parts hshInfo
    have hrow : (w.alloc (.cells #[] 42)).ownsRow w.heap.size 42 32 (.slice (some ⟨w.heap.size, 0, none⟩) 0 0) 0 [] := World.ownsRow_lit w #[] 0 (Nat.le_refl _) (by decide) rfl
    have hK1 := Lib.hid (hK.out.below (below_box0 w (.cells #[] 42)))
    have hnw := hs_news hK1.out hm.out
    have hln : (hs.flatMap hshC).length = m * 32 := by rw [flat_len hshC 32 hs (fun x hx => by rw [hshC, List.length_map]; exact hs_lens hK.out x hx), hm.out]
    have b1 : 0 + m ≤ maxLen := by unfold maxLen; omega
    have b2 : (0 + m) * 32 ≤ 140737488355328 := by omega
    clear hK hK1
    go_enter Tryd.func49, Tryd.ntmps49
    go_wp2_with (at_builtin; refine wpList_append_all rfl _ _ 23 rfl w.heap.size 42 i0 (.agg (arr .u8 (zer 32))) 32 32 Tryd.underlying23 hi hz0 hz1 hz2 (by rfl) (by decide) _ _ _ rfl hrow (some a) m d _ rfl hln hnw (hsh_one _) b1 b2 (by simp) ?_; intro A1 c1 w1 hown1 hgrow1 hgg1)
    have hown2 : w1.ownsRow w.heap.size 42 32 (.slice A1 m c1) m (hs.flatMap hshC) := by simpa using hown1
    have hbF : Below w.heap.size w w1 := ((Below.refl w.heap.size w).alloc (Nat.le_refl _) (.cells #[] 42)).grown hgrow1 (by simp) (fun j hj => by cases hj; exact Nat.le_refl _)
    go_wp2
    go_ret
    exact ⟨A1, c1, by simp, hown2, hbF⟩
def PtOut (p : PartR) (w : World) (e : Ending) (w' : World) : Prop := ∃ p', e = .returned (ptV p') ∧ SamP p p' ∧ (p'.al.length = p'.na ∧ p'.zs.length = p'.nz) ∧ Dep (fun b => b < w.heap.size) w' (fun u => Sl u p'.A p'.al) ∧ Dep (fun b => b < w.heap.size) w' (fun u => Sl u p'.Z p'.zs) ∧ Below w.heap.size w w'
set_option maxHeartbeats 6400000 in
theorem part_f (p : PartR) (hna : Hid (p.al.length = p.na)) (hnz : Hid (p.zs.length = p.nz)) (hb1 : p.na ≤ 100000) (hb2 : p.nz ≤ 100000) (w : World) (hA : Hid (Sl w p.A p.al)) (hZ : Hid (Sl w p.Z p.zs)) :
    Calls Tryd.prog 50 #[ptV p] w (PtOut p w) := by
  obtain ⟨w0, hW⟩ : ∃ W, ((w.alloc (ptO p)).alloc (.cells #[.int .i64 0, .int .i64 0, .slice none 0 0, .int .i64 0, .slice none 0 0] 56)) = W := ⟨_, rfl⟩
  have HBw : Hid (Below w.heap.size w w0) := Lib.hid (by rw [← hW]; exact below_two (Below.refl _ _))
  have hc : w0.cell? ⟨w.heap.size, 0, none⟩ = some (.int .i64 p.ix) ∧ w0.cell? ⟨w.heap.size, 1, none⟩ = some (.int .i64 p.v) ∧ w0.cell? ⟨w.heap.size, 2, none⟩ = some (.slice p.A p.na p.ca) ∧ w0.cell? ⟨w.heap.size, 3, none⟩ = some (.int .i64 p.C) ∧ w0.cell? ⟨w.heap.size, 4, none⟩ = some (.slice p.Z p.nz p.cz) := by rw [← hW]; exact ⟨cell_below (allocs_cell (by simp) (by rfl)) (below_box0 _ _), cell_below (allocs_cell (by simp) (by rfl)) (below_box0 _ _), cell_below (allocs_cell (by simp) (by rfl)) (below_box0 _ _), cell_below (allocs_cell (by simp) (by rfl)) (below_box0 _ _), cell_below (allocs_cell (by simp) (by rfl)) (below_box0 _ _)⟩
  have kC := Lib.hid (show ∀ u : World, Hid (Below w0.heap.size w0 u) → u.cell? ⟨w.heap.size, 0, none⟩ = some (.int .i64 p.ix) ∧ u.cell? ⟨w.heap.size, 1, none⟩ = some (.int .i64 p.v) ∧ u.cell? ⟨w.heap.size, 2, none⟩ = some (.slice p.A p.na p.ca) ∧ u.cell? ⟨w.heap.size, 3, none⟩ = some (.int .i64 p.C) ∧ u.cell? ⟨w.heap.size, 4, none⟩ = some (.slice p.Z p.nz p.cz) from fun u h => ⟨cell_below hc.1 h.out, cell_below hc.2.1 h.out, cell_below hc.2.2.1 h.out, cell_below hc.2.2.2.1 h.out, cell_below hc.2.2.2.2 h.out⟩)
  have kA := Lib.hid (show ∀ u : World, Hid (Below w0.heap.size w0 u) → Hid (Sl u p.A p.al) from fun u h => Lib.hid ((hA.out.below) (below_ext HBw.out h.out)))
  have kZ := Lib.hid (show ∀ u : World, Hid (Below w0.heap.size w0 u) → Hid (Sl u p.Z p.zs) from fun u h => Lib.hid ((hZ.out.below) (below_ext HBw.out h.out)))
  have HB_0 : Hid (Below w0.heap.size w0 w0) := Lib.hid (Below.refl _ _)
  have HW := Lib.hid hW
  have kRB := Lib.hid (show ∀ u : World, Hid (Below w0.heap.size w0 u) → Hid (u.heap[w.heap.size + 1]? = some (.cells #[.int .i64 0, .int .i64 0, .slice none 0 0, .int .i64 0, .slice none 0 0] 56)) from fun u h => Lib.hid (blk_below (by rw [← hW]; exact heap_alloc2_new _ _ _) h.out))
  have kFr := Lib.hid (show ∀ u : World, Hid (Below w0.heap.size w0 u) → ∀ j, u.frozen? ⟨w.heap.size, j, none⟩ = false from fun u h j => frozen_blk (blk_below (by rw [← hW]; exact heap_alloc2_old _ _ _) h.out) j)
  clear hW hc hA hZ
  have HSZ0 : Hid (w0.heap.size = w.heap.size + 2) := Lib.hid (by rw [← HW.out]; simp)
  go_enter Tryd.func50, Tryd.ntmps50
  go_wp2_with fail
  rw [HW.out]
  obtain ⟨zc0, zc1, zc2, zc3, zc4⟩ := kC.out _ HB_0
  go_wp2_with fail
  refine (proof_f p.A p.na p.ca p.al p.C p.Z p.nz p.cz p.zs hna hnz hb1 hb2 _ (kA.out _ HB_0) (kZ.out _ HB_0)).mono ?_
  rintro e w1 ⟨A, ca, Z, cz, rfl, hsa, hsz, hb0⟩
  have HB_1 := Lib.hid (below_ext HB_0.out hb0)
  clear zc0 zc1 zc2 zc3 zc4
  clear hb0
  obtain ⟨zc0, zc1, zc2, zc3, zc4⟩ := kC.out _ HB_1
  have HSA := Lib.hid hsa
  have HSZ := Lib.hid hsz
  clear hsa hsz
  have f0 := kFr.out _ HB_1 0
  have f1 := kFr.out _ HB_1 1
  have f2 := kFr.out _ HB_1 2
  have f3 := kFr.out _ HB_1 3
  have f4 := kFr.out _ HB_1 4
  go_upto_region 2 with (fail)
  obtain ⟨wz, hwz⟩ : ∃ x, (((w1.setCell ⟨w.heap.size, 2, none⟩ (.slice A p.na ca)).setCell ⟨w.heap.size, 3, none⟩ (.int .i64 p.C)).setCell ⟨w.heap.size, 4, none⟩ (.slice Z p.nz cz)) = x := ⟨_, rfl⟩
  have z0 : Own wz ⟨w.heap.size, 0, none⟩ (.int .i64 p.ix) := by rw [← hwz]; exact own_set_ne2 (own_set_ne2 (own_set_ne2 ⟨zc0, f0⟩ (by simp)) (by simp)) (by simp)
  have z1 : Own wz ⟨w.heap.size, 1, none⟩ (.int .i64 p.v) := by rw [← hwz]; exact own_set_ne2 (own_set_ne2 (own_set_ne2 ⟨zc1, f1⟩ (by simp)) (by simp)) (by simp)
  have z2 : Own wz ⟨w.heap.size, 2, none⟩ (.slice A p.na ca) := by rw [← hwz]; exact own_set_ne2 (own_set_ne2 (own_set_eq2 ⟨zc2, f2⟩) (by simp)) (by simp)
  have z3 : Own wz ⟨w.heap.size, 3, none⟩ (.int .i64 p.C) := by rw [← hwz]; exact own_set_ne2 (own_set_eq2 (own_set_ne2 ⟨zc3, f3⟩ (by simp))) (by simp)
  have z4 : Own wz ⟨w.heap.size, 4, none⟩ (.slice Z p.nz cz) := by rw [← hwz]; exact own_set_eq2 (own_set_ne2 (own_set_ne2 ⟨zc4, f4⟩ (by simp)) (by simp))
  have hlt0 : w.heap.size < w0.heap.size := by have := HSZ0.out; omega
  have HDA : Hid (Dep (fun b => b < w0.heap.size) wz (fun u => Sl u A p.al)) := Lib.hid (by rw [← hwz]; exact (((sl_dep HSA.out.1 fun b o e h0 => Nat.not_lt.2 (HSA.out.2 b o e h0)).setCell hlt0).setCell hlt0).setCell hlt0)
  have HDZ : Hid (Dep (fun b => b < w0.heap.size) wz (fun u => Sl u Z p.zs)) := Lib.hid (by rw [← hwz]; exact (((sl_dep HSZ.out.1 fun b o e h0 => Nat.not_lt.2 (HSZ.out.2 b o e h0)).setCell hlt0).setCell hlt0).setCell hlt0)
  have HBz : Hid (Below w.heap.size w wz) := Lib.hid (by rw [← hwz]; exact (((below_ext HBw.out HB_1.out).setCell (Nat.le_refl _) _).setCell (Nat.le_refl _) _).setCell (Nat.le_refl _) _)
  have HRF : Hid (wz.heap[w.heap.size + 1]? = some (.cells #[.int .i64 0, .int .i64 0, .slice none 0 0, .int .i64 0, .slice none 0 0] 56)) := Lib.hid (by rw [← hwz]; exact (Go.Deep.blk_setCell_other _ _ _ _ (show w.heap.size + 1 ≠ w.heap.size by omega)).trans ((Go.Deep.blk_setCell_other _ _ _ _ (show w.heap.size + 1 ≠ w.heap.size by omega)).trans ((Go.Deep.blk_setCell_other _ _ _ _ (show w.heap.size + 1 ≠ w.heap.size by omega)).trans (kRB.out _ HB_1).out)))
  rw [hwz]
  clear hwz f0 f1 f2 f3 f4
  clear zc0 zc1 zc2 zc3 zc4
  obtain ⟨z0, y0⟩ := z0
  obtain ⟨z1, y1⟩ := z1
  obtain ⟨z2, y2⟩ := z2
  obtain ⟨z3, y3⟩ := z3
  obtain ⟨z4, y4⟩ := z4
  go_wp2_with ((with_reducible show wpList _ _ _ (⟨none, _, _, _, _, _⟩ :: _) _ _); refine wpList_store_row rfl 56 _ _ rfl (w.heap.size + 1) #[.int .i64 p.ix, .int .i64 p.v, .slice A p.na ca, .int .i64 p.C, .slice Z p.nz cz] rfl rfl _ _ HRF.out (by kernel_rfl) rfl (by simp [Value.oneCell']) ?_)
  have hrw := setRow_heap _ _ _ #[.int .i64 p.ix, .int .i64 p.v, .slice A p.na ca, .int .i64 p.C, .slice Z p.nz cz] _ _ HRF.out
  have hbF := below_setRow' HBz.out (cs := #[.int .i64 p.ix, .int .i64 p.v, .slice A p.na ca, .int .i64 p.C, .slice Z p.nz cz]) (Nat.le_add_right w.heap.size 1)
  have hlt1 : w.heap.size + 1 < w0.heap.size := by have := HSZ0.out; omega
  exact bodyPost_ret (v := ptV { p with A := A, ca := ca, Z := Z, cz := cz }) (results_cell1 (p := 2) (ty := 56) rfl _ _ ⟨w.heap.size + 1, 0, none⟩ _ rfl (run_loadVar_row _ _ _ _ _ _ _ hrw Tryd.underlying56 rfl (by kernel_rfl))) rfl ⟨{ p with A := A, ca := ca, Z := Z, cz := cz }, rfl, ⟨rfl, rfl, rfl, rfl, rfl, rfl, rfl⟩, ⟨hna.out, hnz.out⟩, (HDA.out.setRow hlt1).shrink (fun b _ q => Nat.lt_of_lt_of_le q (Nat.le_of_lt hlt0)), (HDZ.out.setRow hlt1).shrink (fun b _ q => Nat.lt_of_lt_of_le q (Nat.le_of_lt hlt0)), hbF⟩
def DD (lw B : Nat) (v : Value) (Li : Option Nat) (b : Nat) : Prop := (lw ≤ b ∧ b ≤ B) ∨ v.ownBlock = some b ∨ Li = some b
structure ClI (lw ix B : Nat) (v : Value) (Li : Option Nat) (os os' : List OrdR) (k : Nat) (u : World) : Prop where
  sam : ∀ j, j < k → SamO (orL os j) (orL os' j)
  ne : ∀ j, j < k → j ≠ ix → Dep (DD lw B v Li) u (fun x => OrdOk x (orL os' j))
  eq : ix < k → OrdQ B (DD lw B v Li) u (orL os' ix) ∧ (Value.slice (orL os' ix).L (orL os' ix).np (orL os' ix).cp).ownBlock = Li
  no : k ≤ ix → Li = none
  fr : ∀ b, Li = some b → B < b ∧ b < u.heap.size ∧ v.ownBlock ≠ some b
theorem ClI.nil (lw ix B : Nat) (v : Value) (os : List OrdR) (u : World) : ClI lw ix B v none os [] 0 u :=
  ⟨fun j h => absurd h (by omega), fun j h => absurd h (by omega), fun h => absurd h (by omega), fun _ => rfl, fun b h => by cases h⟩
theorem ClI.push {lw ix B S : Nat} {v v' : Value} {Li : Option Nat} {os os' : List OrdR} {k : Nat} {u u7 u' : World} {o' : OrdR} (h : ClI lw ix B v Li os os' k u) (hl : os'.length = k) (hS : u.heap.size = S) (hB : B < S) (hlw : lw ≤ B) (hv : ∀ b, v.ownBlock = some b → B < b ∧ b < S)
    (hz7 : S ≤ u7.heap.size) (hz : u7.heap.size ≤ u'.heap.size) (hu : ∀ b, b < S → (b < lw ∨ B < b) → v.ownBlock ≠ some b → u'.heap[b]? = u.heap[b]?) (hu7 : ∀ b, (b < lw ∨ S ≤ b) → b < u7.heap.size → u'.heap[b]? = u7.heap[b]?)
    (hv' : ∀ b, v'.ownBlock = some b → v.ownBlock = some b ∨ u7.heap.size ≤ b) (hs : SamO (orL os k) o') (hq : OrdQ B (fun b => (lw ≤ b ∧ b < S) ∨ (Value.slice o'.L o'.np o'.cp).ownBlock = some b) u7 o') (hlo : ∀ b, (Value.slice o'.L o'.np o'.cp).ownBlock = some b → S ≤ b ∧ b < u7.heap.size) :
    ClI lw ix B v' (if k = ix then (Value.slice o'.L o'.np o'.cp).ownBlock else Li) os (os' ++ [o']) (k + 1) u' := by
  have hD7 : ∀ b, b < u7.heap.size → DD lw B v' (if k = ix then (Value.slice o'.L o'.np o'.cp).ownBlock else Li) b → (lw ≤ b ∧ b < S) ∨ (Value.slice o'.L o'.np o'.cp).ownBlock = some b := fun b hb hd => by
    rcases hd with e | e | e
    · exact .inl (by omega)
    · rcases hv' b e with e | e
      · exact .inl (by have := hv b e; omega)
      · omega
    · by_cases hk : k = ix
      · rw [if_pos hk] at e; exact .inr e
      · rw [if_neg hk] at e; exact .inl (by have := h.fr b e; omega)
  have hq' : OrdQ B (DD lw B v' (if k = ix then (Value.slice o'.L o'.np o'.cp).ownBlock else Li)) u' o' := hq.step hz (fun b hb hn => hu7 b (by by_cases e : S ≤ b; exact .inr e; by_cases e2 : lw ≤ b; exact absurd (Or.inl ⟨e2, by omega⟩) hn; exact .inl (by omega)) hb) hD7 (fun b e => hu7 b (.inr (hlo b e).1) (hlo b e).2)
  have hDa : ∀ b, b < u.heap.size → DD lw B v' (if k = ix then (Value.slice o'.L o'.np o'.cp).ownBlock else Li) b → DD lw B v Li b := fun b hb hd => by
    rcases hd with e | e | e
    · exact .inl e
    · rcases hv' b e with e | e
      · exact .inr (.inl e)
      · omega
    · by_cases hk : k = ix
      · rw [if_pos hk] at e; have := (hlo b e).1; omega
      · rw [if_neg hk] at e; exact .inr (.inr e)
  have hch : ∀ b, b < u.heap.size → ¬ DD lw B v Li b → u'.heap[b]? = u.heap[b]? := fun b hb hn => hu b (by omega) (by by_cases e : b < lw; exact .inl e; by_cases e2 : b ≤ B; exact absurd (Or.inl ⟨by omega, e2⟩) hn; exact .inr (by omega)) (fun e => hn (.inr (.inl e)))
  have hzu : u.heap.size ≤ u'.heap.size := by omega
  refine ⟨fun j hj => ?_, fun j hj hne => ?_, fun hi => ?_, fun hi => ?_, fun b e => ?_⟩
  · by_cases e : j = k
    · subst e; rw [orL_app_r hl]; exact hs
    · rw [orL_app_l (by omega)]; exact h.sam j (by omega)
  · by_cases e : j = k
    · subst e
      rw [orL_app_r hl]
      refine hq'.dep (fun _ _ q => q) (fun b eb hd => ?_)
      have hb := hlo b eb
      rcases hd with e | e | e
      · omega
      · rcases hv' b e with e | e
        · have := hv b e; omega
        · omega
      · rw [if_neg hne] at e; have := (h.fr b e).2.1; omega
    · rw [orL_app_l (by omega)]
      exact (h.ne j (by omega) hne).step hzu hch hDa
  · by_cases e : k = ix
    · subst e
      rw [orL_app_r hl, if_pos rfl]
      rw [if_pos rfl] at hq'
      exact ⟨hq', rfl⟩
    · rw [orL_app_l (by omega), if_neg e]
      rw [if_neg e] at hDa
      obtain ⟨h1, h2⟩ := h.eq (by omega)
      refine ⟨h1.step hzu hch hDa (fun b eb => ?_), h2⟩
      rw [h2] at eb
      have h3 := h.fr b eb
      exact hu b (by omega) (.inr (by omega)) h3.2.2
  · rw [if_neg (by omega)]; exact h.no (by omega)
  · by_cases hk : k = ix
    · rw [if_pos hk] at e
      have hb := hlo b e
      refine ⟨by omega, by omega, fun e2 => ?_⟩
      rcases hv' b e2 with e | e
      · have := hv b e; omega
      · omega
    · rw [if_neg hk] at e
      have hb := h.fr b e
      refine ⟨hb.1, by omega, fun e2 => ?_⟩
      rcases hv' b e2 with e | e
      · exact hb.2.2 e
      · omega
theorem ClI.shut {lw ix B : Nat} {v : Value} {Li : Option Nat} {os os' : List OrdR} {k : Nat} {u u' : World} (h : ClI lw ix B v Li os os' k u) (hz : u.heap.size ≤ u'.heap.size) (hu : ∀ b, b < u.heap.size → (b < lw ∨ B < b) → u'.heap[b]? = u.heap[b]?) : ClI lw ix B v Li os os' k u' := by
  have hch : ∀ b, b < u.heap.size → ¬ DD lw B v Li b → u'.heap[b]? = u.heap[b]? := fun b hb hn => hu b hb (by by_cases e : b < lw; exact .inl e; by_cases e2 : b ≤ B; exact absurd (Or.inl ⟨by omega, e2⟩) hn; exact .inr (by omega))
  refine ⟨h.sam, fun j hj hne => (h.ne j hj hne).step hz hch (fun _ _ q => q), fun hi => ?_, h.no, fun b e => ⟨(h.fr b e).1, Nat.lt_of_lt_of_le (h.fr b e).2.1 hz, (h.fr b e).2.2⟩⟩
  obtain ⟨h1, h2⟩ := h.eq hi
  refine ⟨h1.step hz hch (fun _ _ q => q) (fun b eb => ?_), h2⟩
  rw [h2] at eb
  have h3 := h.fr b eb
  exact hu b h3.2.1 (.inr h3.1)
def DN (lw B N : Nat) (v : Value) (Li : Option Nat) (b : Nat) : Prop := (lw ≤ b ∧ b ≤ B) ∨ N ≤ b ∨ v.ownBlock = some b ∨ Li = some b
structure Cld (lw ix lo : Nat) (os : List OrdR) (n : Nat) (hs : List (List Int)) (m : Nat) (O : Option Addr) (c : Nat) (K : Option Addr) (d : Nat) (os' : List OrdR) (B N : Nat) (Li : Option Nat) (u : World) : Prop where
  l : os'.length = n
  nc : n ≤ c
  md : m ≤ d
  lwo : lw ≤ lo
  lB : lo ≤ B
  BN : B < N
  Nu : N ≤ u.heap.size
  ro : u.ownsRow (B + 1) 46 9 (.slice O n c) n (os'.flatMap ordC)
  rk : u.ownsRow lo 42 32 (.slice K m d) m (hs.flatMap hshC)
  bo : ∀ b, (Value.slice O n c).ownBlock = some b → B < b ∧ b < N
  bk : ∀ b, (Value.slice K m d).ownBlock = some b → lo ≤ b ∧ b < B
  sam : ∀ j, j < n → SamO (orL os j) (orL os' j)
  ne : ∀ j, j < n → j ≠ ix → Dep (DN lw B N (.slice O n c) Li) u (fun x => OrdOk x (orL os' j))
  eq : ix < n → OrdQ B (DN lw B N (.slice O n c) Li) u (orL os' ix) ∧ (Value.slice (orL os' ix).L (orL os' ix).np (orL os' ix).cp).ownBlock = Li
  no : n ≤ ix → Li = none
  fr : ∀ b, Li = some b → B < b ∧ b < N ∧ (Value.slice O n c).ownBlock ≠ some b
theorem own_same {u u' : World} {base s n : Nat} {T : TypeId} {v : Value} {cs : List Value} (h : u.ownsRow base T s v n cs) (he : ∀ b, v.ownBlock = some b → u'.heap[b]? = u.heap[b]?) : u'.ownsRow base T s v n cs := by
  refine ⟨h.1, h.2.imp id ?_⟩
  rintro ⟨g, cap, cur, rfl, hg, hh, rest⟩
  exact ⟨g, cap, cur, rfl, hg, (he g rfl).trans hh, rest⟩
theorem Cld.keep {lw ix lo n m c d B N : Nat} {os os' : List OrdR} {hs : List (List Int)} {O K : Option Addr} {Li : Option Nat} {u u' : World} (h : Cld lw ix lo os n hs m O c K d os' B N Li u) (hz : u.heap.size ≤ u'.heap.size) (hu : ∀ b, (b < lw ∨ B < b) → b < N → u'.heap[b]? = u.heap[b]?) (hk : ∀ b, lo ≤ b → b < B → u'.heap[b]? = u.heap[b]?) : Cld lw ix lo os n hs m O c K d os' B N Li u' := by
  have hch : ∀ b, b < u.heap.size → ¬ DN lw B N (.slice O n c) Li b → u'.heap[b]? = u.heap[b]? := fun b hb hn => hu b (by by_cases e : b < lw; exact .inl e; by_cases e2 : b ≤ B; exact absurd (Or.inl ⟨by omega, e2⟩) hn; exact .inr (by omega)) (by by_cases e : N ≤ b; exact absurd (Or.inr (Or.inl e)) hn; omega)
  refine ⟨h.l, h.nc, h.md, h.lwo, h.lB, h.BN, Nat.le_trans h.Nu hz, own_same h.ro (fun b e => hu b (.inr (h.bo b e).1) (h.bo b e).2), own_same h.rk (fun b e => hk b (h.bk b e).1 (h.bk b e).2), h.bo, h.bk, h.sam, fun j hj hne => (h.ne j hj hne).step hz hch (fun _ _ q => q), fun hi => ?_, h.no, h.fr⟩
  obtain ⟨h1, h2⟩ := h.eq hi
  refine ⟨h1.step hz hch (fun _ _ q => q) (fun b eb => ?_), h2⟩
  rw [h2] at eb
  have h3 := h.fr b eb
  exact hu b (.inr h3.1) h3.2.1
theorem Cld.below {lw ix lo n m c d B N : Nat} {os os' : List OrdR} {hs : List (List Int)} {O K : Option Addr} {Li : Option Nat} {u u' : World} (h : Cld lw ix lo os n hs m O c K d os' B N Li u) (hb : Below u.heap.size u u') : Cld lw ix lo os n hs m O c K d os' B N Li u' :=
  h.keep hb.size (fun b _ h2 => hb.block b (Nat.lt_of_lt_of_le h2 h.Nu)) (fun b _ h2 => hb.block b (by have := h.Nu; have := h.BN; omega))
def ClOut (lw ix : Nat) (os : List OrdR) (n : Nat) (hs : List (List Int)) (m : Nat) (w : World) (e : Ending) (w' : World) : Prop := ∃ (O : Option Addr) (c : Nat) (K : Option Addr) (d : Nat) (os' : List OrdR) (B : Nat) (Li : Option Nat), e = .returned (tlV O n c K m d) ∧ Cld lw ix w.heap.size os n hs m O c K d os' B w'.heap.size Li w' ∧ Below w.heap.size w w'
theorem cld_of {lw ix lo n m c d B : Nat} {os os' : List OrdR} {hs : List (List Int)} {O K : Option Addr} {Li : Option Nat} {u : World} (hl : os'.length = n) (hnc : n ≤ c) (hmd : m ≤ d) (hlw : lw ≤ lo) (hlB : lo ≤ B) (hBu : B < u.heap.size) (hro : u.ownsRow (B + 1) 46 9 (.slice O n c) n (os'.flatMap ordC)) (hrk : u.ownsRow lo 42 32 (.slice K m d) m (hs.flatMap hshC)) (hkB : ∀ b, (Value.slice K m d).ownBlock = some b → b < B) (h : ClI lw ix B (.slice O n c) Li os os' n u) : Cld lw ix lo os n hs m O c K d os' B u.heap.size Li u := by
  have hD : ∀ b, b < u.heap.size → DN lw B u.heap.size (.slice O n c) Li b → DD lw B (.slice O n c) Li b := fun b hb hd => by
    rcases hd with e | e | e | e
    · exact .inl e
    · omega
    · exact .inr (.inl e)
    · exact .inr (.inr e)
  refine ⟨hl, hnc, hmd, hlw, hlB, hBu, Nat.le_refl _, hro, hrk, fun b e => ?_, fun b e => ⟨(World.ownsRow.lt hrk b e).1, hkB b e⟩, h.sam, fun j hj hne => (h.ne j hj hne).shrink hD, fun hi => ?_, h.no, h.fr⟩
  · have := World.ownsRow.lt hro b e
    exact ⟨by omega, this.2⟩
  · obtain ⟨h1, h2⟩ := h.eq hi
    exact ⟨h1.step (Nat.le_refl _) (fun _ _ _ => rfl) hD (fun _ _ => rfl), h2⟩
set_option maxHeartbeats 25600000 in
theorem cloned_any (ix : Nat) (O : Option Addr) (os : List OrdR) (n c : Nat) (K : Option Addr) (hs : List (List Int)) (m d : Nat) (hn : Hid (os.length = n)) (hm : Hid (hs.length = m)) (hb1 : n ≤ 1000000) (hb2 : m ≤ 1000000) (hS : ∀ k, k < n → OrdS (orL os k)) (w : World) (hO : Hid (Os w O os)) (hK : Hid (Hs w K hs)) :
    Calls Tryd.prog 29 #[tlV O n c K m d] w (ClOut 0 ix os n hs m w) := by
  obtain ⟨w0, hW⟩ : ∃ W, ((w.alloc (tlO O n c K m d)).alloc (.cells #[.slice none 0 0, .slice none 0 0] 25)) = W := ⟨_, rfl⟩
  have HBw : Hid (Below w.heap.size w w0) := Lib.hid (by rw [← hW]; exact below_two (Below.refl _ _))
  have hc : w0.cell? ⟨w.heap.size, 0, none⟩ = some (.slice O n c) ∧ w0.cell? ⟨w.heap.size, 1, none⟩ = some (.slice K m d) := by rw [← hW]; exact ⟨cell_below (allocs_cell (by simp) (by rfl)) (below_box0 _ _), cell_below (allocs_cell (by simp) (by rfl)) (below_box0 _ _)⟩
  have kC := Lib.hid (show ∀ u : World, Hid (Below w0.heap.size w0 u) → u.cell? ⟨w.heap.size, 0, none⟩ = some (.slice O n c) ∧ u.cell? ⟨w.heap.size, 1, none⟩ = some (.slice K m d) from fun u h => ⟨cell_below hc.1 h.out, cell_below hc.2 h.out⟩)
  have kOs := Lib.hid (show ∀ u : World, Hid (Below w0.heap.size w0 u) → Hid (Os u O os) from fun u h => Lib.hid ((hO.out.below) (below_ext HBw.out h.out)))
  have kHs := Lib.hid (show ∀ u : World, Hid (Below w0.heap.size w0 u) → Hid (Hs u K hs) from fun u h => Lib.hid ((hK.out.below) (below_ext HBw.out h.out)))
  have HB_0 : Hid (Below w0.heap.size w0 w0) := Lib.hid (Below.refl _ _)
  have HW := Lib.hid hW
  have kRB := Lib.hid (show ∀ u : World, Hid (Below w0.heap.size w0 u) → Hid (u.heap[w.heap.size + 1]? = some (.cells #[.slice none 0 0, .slice none 0 0] 25)) from fun u h => Lib.hid (blk_below (by rw [← hW]; exact heap_alloc2_new _ _ _) h.out))
  clear hW hc hO hK
  have HSZ0 : Hid (w0.heap.size = w.heap.size + 2) := Lib.hid (by rw [← HW.out]; simp)
  obtain ⟨i1, hi1, hy0, hy1, hy2⟩ := info_parts ordInfo
  obtain ⟨i2, hi2, hx0, hx1, hx2⟩ := info_parts prtInfo
  go_enter Tryd.func29, Tryd.ntmps29
  go_wp2_with fail
  rw [HW.out]
  obtain ⟨zc0, zc1⟩ := kC.out _ HB_0
  go_wp2_with fail
  refine (cloneh_any K hs m d hm hb2 _ (kHs.out _ HB_0)).mono ?_
  rintro e w1 ⟨K1, d1, rfl, hk1, hb0⟩
  have HB_1 := Lib.hid (below_ext HB_0.out hb0)
  clear zc0 zc1
  clear hb0
  obtain ⟨zc0, zc1⟩ := kC.out _ HB_1
  go_upto_region 2 with (fail)
  have HB1 := HB_1
  have HKL := Lib.hid (own_slice hk1)
  have HK1 := Lib.hid hk1
  obtain ⟨B, hB⟩ : ∃ x, w1.heap.size = x := ⟨_, rfl⟩
  obtain ⟨W, hW⟩ : ∃ x, w1.alloc (.cells #[.slice none 0 0, .slice K1 m d1] 25) = x := ⟨_, rfl⟩
  have HSB : Hid (W.heap.size = B + 1 ∧ w0.heap.size ≤ B) := Lib.hid ⟨by rw [← hW, ← hB]; simp, by rw [← hB]; exact HB1.out.size⟩
  have hbk : W.heap[B]? = some (.cells #[.slice none 0 0, .slice K1 m d1] 25) := by rw [← hW, ← hB]; exact heap_alloc_new _ _
  have HV0 : Hid (Own W ⟨B, 0, none⟩ (.slice none 0 0)) := Lib.hid ⟨cell_blk hbk 0, frozen_blk hbk 0⟩
  have HV10 : Hid (Own W ⟨B, 1, none⟩ (.slice K1 m d1)) := Lib.hid ⟨cell_blk hbk 1, frozen_blk hbk 1⟩
  have HBX : Hid (Below w0.heap.size w0 W) := Lib.hid (below_ext HB1.out (by rw [← hW]; exact below_box0 _ _))
  have HKW : Hid (Below w1.heap.size w1 W) := Lib.hid (by rw [← hW]; exact below_box0 _ _)
  have HSB2 := Lib.hid hB
  rw [hW, hB]
  clear hW hB hbk hk1
  clear zc0 zc1
  obtain ⟨zc0, zc1⟩ := kC.out _ HBX
  go_wp2
  clear zc0 zc1
  go_loopw [16] (fun i u => ∃ (k : Nat) (v : Value) (os' : List OrdR) (Li : Option Nat), k ≤ n ∧ i = .int .i64 k ∧ Hid (os'.length = k) ∧ Hid (Own u ⟨B, 0, none⟩ v) ∧ Hid (Own u ⟨B, 1, none⟩ (.slice K1 m d1)) ∧ Hid (u.ownsRow (B + 1) 46 9 v k (os'.flatMap ordC)) ∧ Hid (ClI 0 ix B v Li os os' k u) ∧ Hid (Below B W u)) (fun i _ => n - (intOf i).toNat)
  case atStart => exact ⟨0, _, [], none, by omega, rfl, Lib.hid rfl, HV0, HV10, Lib.hid (World.ownsRow_nil _ _ _ _), Lib.hid (ClI.nil _ _ _ _ _ _), Lib.hid (Below.refl _ _)⟩
  case round =>
    obtain ⟨k, v, os', Li, hk, rfl, HCL, HV, HV1, HO, HG, HBr⟩ := hrel
    obtain ⟨wo, rfl⟩ : ∃ wo : World, wo = wr := ⟨_, rfl⟩
    have HBr0 : Hid (Below w0.heap.size w0 wo) := Lib.hid (HBX.out.trans (HBr.out.mono HSB.out.2))
    have hBW := HBr.out.size
    have hsb := HSB.out
    by_cases hlt : k < n
    · skip
      have hkl : k < os.length := by rw [hn.out]; exact hlt
      obtain ⟨b, f, hA, h9, hok⟩ := (kOs.out _ HBr0).out k hkl
      subst hA
      have hSo := hS k hlt
      obtain ⟨o, ho⟩ : ∃ o, os.getD k noOrd = o := ⟨_, rfl⟩
      have HPP : Hid (orL os k = o) := Lib.hid ho
      rw [ho] at h9 hok
      rw [HPP.out] at hSo
      obtain ⟨j0, j1, j2, j3, j4, j5, j6, j7, j8⟩ := h9
      obtain ⟨ok1, ok2, ⟨ok3, okc⟩, ok4, ok5, ok6⟩ := hok
      have HPA := Lib.hid ok6
      have HPN := Lib.hid ok3
      have HLA := Lib.hid ok1
      have HLZ := Lib.hid ok2
      have HSA := Lib.hid ok4
      have HSZ := Lib.hid ok5
      have hna : o.na ≤ 100000 := by rw [← ok1]; have := hSo.a; omega
      have hnz : o.nz ≤ 100000 := by rw [← ok2]; have := hSo.z; omega
      have hnp : o.np ≤ 8 := by rw [← ok3]; exact hSo.n
      have HSO := Lib.hid hSo.p
      clear ho ok1 ok2 ok3 okc ok4 ok5 ok6 hkl hSo
      obtain ⟨zc0, zc1⟩ := kC.out _ HBr0
      have hq0 := below_box0 wo (orO o)
      have HB_2 := Lib.hid (below_ext HBr0.out hq0)
      clear hq0
      obtain ⟨zc0x, zc1x⟩ := kC.out _ HB_2
      have hb5 : (wo.alloc (orO o)).heap[wo.heap.size]? = some (orO o) := heap_alloc_new _ _
      have HX0 : Hid (Own (wo.alloc (orO o)) ⟨wo.heap.size, 0, none⟩ (.int .i64 o.num) ∧ Own (wo.alloc (orO o)) ⟨wo.heap.size, 1, none⟩ (.string o.rs) ∧ Own (wo.alloc (orO o)) ⟨wo.heap.size, 2, none⟩ (.int .i64 o.E1) ∧ Own (wo.alloc (orO o)) ⟨wo.heap.size, 3, none⟩ (.int .i64 o.E2) ∧ Own (wo.alloc (orO o)) ⟨wo.heap.size, 4, none⟩ (.slice o.A o.na o.ca) ∧ Own (wo.alloc (orO o)) ⟨wo.heap.size, 5, none⟩ (.int .i64 o.C) ∧ Own (wo.alloc (orO o)) ⟨wo.heap.size, 6, none⟩ (.slice o.Z o.nz o.cz) ∧ Own (wo.alloc (orO o)) ⟨wo.heap.size, 7, none⟩ (.slice o.L o.np o.cp) ∧ Own (wo.alloc (orO o)) ⟨wo.heap.size, 8, none⟩ (.int .i64 o.key)) := Lib.hid ⟨⟨cell_blk hb5 0, frozen_blk hb5 0⟩, ⟨cell_blk hb5 1, frozen_blk hb5 1⟩, ⟨cell_blk hb5 2, frozen_blk hb5 2⟩, ⟨cell_blk hb5 3, frozen_blk hb5 3⟩, ⟨cell_blk hb5 4, frozen_blk hb5 4⟩, ⟨cell_blk hb5 5, frozen_blk hb5 5⟩, ⟨cell_blk hb5 6, frozen_blk hb5 6⟩, ⟨cell_blk hb5 7, frozen_blk hb5 7⟩, ⟨cell_blk hb5 8, frozen_blk hb5 8⟩⟩
      obtain ⟨⟨x0, y0⟩, ⟨x1, y1⟩, ⟨x2, y2⟩, ⟨x3, y3⟩, ⟨x4, y4⟩, ⟨x5, y5⟩, ⟨x6, y6⟩, ⟨x7, y7⟩, ⟨x8, y8⟩⟩ := HX0.out
      clear hb5
      go_upto_region 5 with (fail)
      clear zc0 zc1 zc0x zc1x
      clear x0 y0 x1 y1 x2 y2 x3 y3 x4 y4 x5 y5 x6 y6 x7 y7 x8 y8
      obtain ⟨w5, hw5⟩ : ∃ x, wo.alloc (orO o) = x := ⟨_, rfl⟩
      rw [hw5] at HX0 HB_2 ⊢
      have HS5 : Hid (w5.heap.size = wo.heap.size + 1) := Lib.hid (by rw [← hw5]; simp)
      have HB5 : Hid (Below wo.heap.size wo w5) := Lib.hid (by rw [← hw5]; exact below_box0 _ _)
      clear hw5 j0 j1 j2 j3 j4 j5 j6 j7 j8
      obtain ⟨X, hX⟩ : ∃ x, wo.heap.size = x := ⟨_, rfl⟩
      have HSA5 : Hid (Sl w5 o.A o.al) := Lib.hid (HSA.out.below HB5.out)
      have HSZ5 : Hid (Sl w5 o.Z o.zs) := Lib.hid (HSZ.out.below HB5.out)
      have HPA5 : Hid (Pa w5 o.L o.ps) := Lib.hid (HPA.out.below HB5.out)
      rw [hX] at HX0 HS5 hBW ⊢
      have HXE := Lib.hid hX
      clear hX
      obtain ⟨⟨x0, y0⟩, ⟨x1, y1⟩, ⟨x2, y2⟩, ⟨x3, y3⟩, ⟨x4, y4⟩, ⟨x5, y5⟩, ⟨x6, y6⟩, ⟨x7, y7⟩, ⟨x8, y8⟩⟩ := HX0.out
      go_wp2_with fail
      refine (proof_f o.A o.na o.ca o.al o.C o.Z o.nz o.cz o.zs HLA HLZ hna hnz _ HSA5 HSZ5).mono ?_
      rintro e w6 ⟨A2, ca2, Z2, cz2, rfl, hsa, hsz, hb6⟩
      have HSA6 := Lib.hid hsa
      have HSZ6 := Lib.hid hsz
      have HB6 : Hid (Below w5.heap.size w5 w6) := Lib.hid hb6
      clear hsa hsz hb6 x0 y0 x1 y1 x2 y2 x3 y3 x4 y4 x5 y5 x6 y6 x7 y7 x8 y8
      have HX6 : Hid (Own w6 ⟨X, 0, none⟩ (.int .i64 o.num) ∧ Own w6 ⟨X, 1, none⟩ (.string o.rs) ∧ Own w6 ⟨X, 2, none⟩ (.int .i64 o.E1) ∧ Own w6 ⟨X, 3, none⟩ (.int .i64 o.E2) ∧ Own w6 ⟨X, 4, none⟩ (.slice o.A o.na o.ca) ∧ Own w6 ⟨X, 5, none⟩ (.int .i64 o.C) ∧ Own w6 ⟨X, 6, none⟩ (.slice o.Z o.nz o.cz) ∧ Own w6 ⟨X, 7, none⟩ (.slice o.L o.np o.cp) ∧ Own w6 ⟨X, 8, none⟩ (.int .i64 o.key)) := Lib.hid (by
        obtain ⟨X0, X1, X2, X3, X4, X5, X6, X7, X8⟩ := HX0.out
        exact ⟨X0.below HB6.out, X1.below HB6.out, X2.below HB6.out, X3.below HB6.out, X4.below HB6.out, X5.below HB6.out, X6.below HB6.out, X7.below HB6.out, X8.below HB6.out⟩)
      obtain ⟨⟨x0, y0⟩, ⟨x1, y1⟩, ⟨x2, y2⟩, ⟨x3, y3⟩, ⟨x4, y4⟩, ⟨x5, y5⟩, ⟨x6, y6⟩, ⟨x7, y7⟩, ⟨x8, y8⟩⟩ := HX6.out
      go_upto_region 6 with (fail)
      clear x0 y0 x1 y1 x2 y2 x3 y3 x4 y4 x5 y5 x6 y6 x7 y7 x8 y8
      obtain ⟨w7, hw7⟩ : ∃ x, ((w6.setCell ⟨X, 4, none⟩ (.slice A2 o.na ca2)).setCell ⟨X, 5, none⟩ (.int .i64 o.C)).setCell ⟨X, 6, none⟩ (.slice Z2 o.nz cz2) = x := ⟨_, rfl⟩
      have HX7 : Hid (Own w7 ⟨X, 0, none⟩ (.int .i64 o.num) ∧ Own w7 ⟨X, 1, none⟩ (.string o.rs) ∧ Own w7 ⟨X, 2, none⟩ (.int .i64 o.E1) ∧ Own w7 ⟨X, 3, none⟩ (.int .i64 o.E2) ∧ Own w7 ⟨X, 4, none⟩ (.slice A2 o.na ca2) ∧ Own w7 ⟨X, 5, none⟩ (.int .i64 o.C) ∧ Own w7 ⟨X, 6, none⟩ (.slice Z2 o.nz cz2) ∧ Own w7 ⟨X, 7, none⟩ (.slice o.L o.np o.cp) ∧ Own w7 ⟨X, 8, none⟩ (.int .i64 o.key)) := Lib.hid (by
        obtain ⟨X0, X1, X2, X3, X4, X5, X6, X7, X8⟩ := HX6.out
        have gn : ∀ j u9, j ≠ 4 → j ≠ 5 → j ≠ 6 → Own w6 ⟨X, j, none⟩ u9 → Own w7 ⟨X, j, none⟩ u9 := fun j u9 h4 h5 h6 h => by
          rw [← hw7]
          exact own_set_ne2 (own_set_ne2 (own_set_ne2 h (by simp <;> omega)) (by simp <;> omega)) (by simp <;> omega)
        refine ⟨gn _ _ (by decide) (by decide) (by decide) X0, gn _ _ (by decide) (by decide) (by decide) X1, gn _ _ (by decide) (by decide) (by decide) X2, gn _ _ (by decide) (by decide) (by decide) X3, ?_, ?_, ?_, gn _ _ (by decide) (by decide) (by decide) X7, gn _ _ (by decide) (by decide) (by decide) X8⟩
        · rw [← hw7]; exact own_set_ne2 (own_set_ne2 (own_set_eq2 X4) (by simp)) (by simp)
        · rw [← hw7]; exact own_set_ne2 (own_set_eq2 (own_set_ne2 X5 (by simp))) (by simp)
        · rw [← hw7]; exact own_set_eq2 (own_set_ne2 (own_set_ne2 X6 (by simp)) (by simp)))
      have hX5 : X < w5.heap.size := by have := HS5.out; omega
      have HDA7 : Hid (Dep (fun b => b < w5.heap.size) w7 (fun u => Sl u A2 o.al)) := Lib.hid (by rw [← hw7]; exact (((sl_dep HSA6.out.1 fun b o e h0 => Nat.not_lt.2 (HSA6.out.2 b o e h0)).setCell hX5).setCell hX5).setCell hX5)
      have HDZ7 : Hid (Dep (fun b => b < w5.heap.size) w7 (fun u => Sl u Z2 o.zs)) := Lib.hid (by rw [← hw7]; exact (((sl_dep HSZ6.out.1 fun b o e h0 => Nat.not_lt.2 (HSZ6.out.2 b o e h0)).setCell hX5).setCell hX5).setCell hX5)
      have HB7 : Hid (Below wo.heap.size wo w7) := Lib.hid (by
        have e9 : wo.heap.size ≤ X := by rw [HXE.out]; exact Nat.le_refl _
        rw [← hw7]; exact (((below_ext HB5.out HB6.out).setCell e9 _).setCell e9 _).setCell e9 _)
      have HZ7 : Hid (w5.heap.size ≤ w7.heap.size) := Lib.hid (by rw [← hw7, World.size_setCell, World.size_setCell, World.size_setCell]; exact HB6.out.size)
      have HPA7 : Hid (Pa w7 o.L o.ps) := Lib.hid (HPA.out.below HB7.out)
      rw [hw7]
      clear hw7 hX5
      obtain ⟨⟨x0, y0⟩, ⟨x1, y1⟩, ⟨x2, y2⟩, ⟨x3, y3⟩, ⟨x4, y4⟩, ⟨x5, y5⟩, ⟨x6, y6⟩, ⟨x7, y7⟩, ⟨x8, y8⟩⟩ := HX7.out
      go_wp2
      clear x0 y0 x1 y1 x2 y2 x3 y3 x4 y4 x5 y5 x6 y6 x7 y7 x8 y8
      go_loopw [6, 29] (fun pv i u => ∃ (j : Nat) (ps' : List PartR), j ≤ o.np ∧ i = .int .i64 j ∧ Hid (ps'.length = j) ∧ Hid (u.ownsRow w7.heap.size 56 5 pv j (ps'.flatMap prtC)) ∧ Hid (∀ q, q < j → SamP (o.ps.getD q noPart) (ps'.getD q noPart) ∧ Dep (fun b => b < w7.heap.size ∨ pv.ownBlock = some b) u (fun x => PaOk x (ps'.getD q noPart))) ∧ Hid (Below w7.heap.size w7 u)) (fun _ i _ => o.np - (intOf i).toNat)
      case atStart => exact ⟨0, [], by omega, rfl, Lib.hid rfl, Lib.hid (World.ownsRow_nil _ _ _ _), Lib.hid (fun q h => absurd h (by omega)), Lib.hid (Below.refl _ _)⟩
      case round =>
        obtain ⟨j, ps', hj, rfl, HPL, HPR, HPS, HBi⟩ := hrel
        obtain ⟨wi, rfl⟩ : ∃ wi : World, wi = wr := ⟨_, rfl⟩
        by_cases hlj : j < o.np
        · skip
          obtain ⟨b2, f2, hA2, i0, i1, i2, i3, i4, i5⟩ := (HPA7.out.below HBi.out) j (by rw [HPN.out]; exact hlj)
          obtain ⟨p, hp⟩ : ∃ x, o.ps.getD j noPart = x := ⟨_, rfl⟩
          have hps := HSO.out p (by rw [← hp]; exact getP_mem (by rw [HPN.out]; exact hlj))
          rw [hp] at i0 i1 i2 i3 i4 i5
          obtain ⟨l1, l2, s1, s2⟩ := i5
          have HP1 := Lib.hid l1
          have HP2 := Lib.hid l2
          have HP3 : Hid (Sl (wi.alloc (ptO p)) p.A p.al) := Lib.hid (s1.below (below_box0 _ _))
          have HP4 : Hid (Sl (wi.alloc (ptO p)) p.Z p.zs) := Lib.hid (s2.below (below_box0 _ _))
          have hpa : p.na ≤ 100000 := by rw [← l1]; have := hps.1; omega
          have hpz : p.nz ≤ 100000 := by rw [← l2]; have := hps.2; omega
          have HPE := Lib.hid hp
          clear hp hps l1 l2 s1 s2
          have hbp : (wi.alloc (ptO p)).heap[wi.heap.size]? = some (ptO p) := heap_alloc_new _ _
          have HLP := Lib.hid hA2
          have HB8 : Hid (Below wi.heap.size wi (wi.alloc (ptO p))) := Lib.hid (below_box0 _ _)
          have p0 := cell_blk hbp 0
          have q0 := frozen_blk hbp 0
          have p1 := cell_blk hbp 1
          have q1 := frozen_blk hbp 1
          have p2 := cell_blk hbp 2
          have q2 := frozen_blk hbp 2
          have p3 := cell_blk hbp 3
          have q3 := frozen_blk hbp 3
          have p4 := cell_blk hbp 4
          have q4 := frozen_blk hbp 4
          clear hbp
          have k0 := cell_below i0 HB8.out
          have k1 := cell_below i1 HB8.out
          have k2 := cell_below i2 HB8.out
          have k3 := cell_below i3 HB8.out
          have k4 := cell_below i4 HB8.out
          have x7 := (HX7.out.2.2.2.2.2.2.2.1.below HBi.out).1
          obtain ⟨wp, hwp⟩ : ∃ x, wi.alloc (ptO p) = x := ⟨_, rfl⟩
          go_upto_region 10 with (fail)
          rw [hwp] at HP3 HP4 HB8 p0 p1 p2 p3 p4
          have HSP : Hid (wp.heap.size = wi.heap.size + 1) := Lib.hid (by rw [← hwp]; simp)
          clear hwp hA2 i0 i1 i2 i3 i4 k0 k1 k2 k3 k4 q0 q1 q2 q3 q4 x7
          go_wp2_with fail
          refine (part_f p HP1 HP2 hpa hpz _ HP3 HP4).mono ?_
          rintro e w8 ⟨p', rfl, hsp, hlp, hda, hdz, hb8⟩
          have HSPP := Lib.hid hsp
          have HLPP := Lib.hid hlp
          have HDA8 := Lib.hid hda
          have HDZ8 := Lib.hid hdz
          have HB9 : Hid (Below wp.heap.size wp w8) := Lib.hid hb8
          clear hsp hlp hda hdz hb8 p0 p1 p2 p3 p4
          have HB10 : Hid (Below wi.heap.size wi w8) := Lib.hid (below_ext HB8.out HB9.out)
          have HPR8 : Hid (w8.ownsRow w7.heap.size 56 5 u6 j (ps'.flatMap prtC)) := Lib.hid (World.ownsRow.kept HPR.out (gb_below HB10.out none) (own_none _))
          have hown : (w8.alloc (.cells #[.int .i64 p'.ix, .int .i64 p'.v, .slice p'.A p'.na p'.ca, .int .i64 p'.C, .slice p'.Z p'.nz p'.cz] 56)).ownsRow w7.heap.size 56 5 u6 j (ps'.flatMap prtC) := HPR8.out.alloc _
          have b5 : j + 1 ≤ maxLen := by unfold maxLen; omega
          have b6 : (j + 1) * 72 ≤ 140737488355328 := by omega
          have b7 : w7.heap.size ≤ (w8.alloc (.cells #[.int .i64 p'.ix, .int .i64 p'.v, .slice p'.A p'.na p'.ca, .int .i64 p'.C, .slice p'.Z p'.nz p'.cz] 56)).heap.size := by have := HBi.out.size; have := HB10.out.size; simp; omega
          go_wp2_with (at_builtin; refine wpList_append_lies rfl _ _ 44 rfl w7.heap.size 56 i2 (.agg #[.int .i64 0, .int .i64 0, .slice none 0 0, .int .i64 0, .slice none 0 0]) 5 72 Tryd.underlying44 hi2 hx0 hx1 hx2 (by rfl) (by decide) _ _ _ rfl hown ⟨w8.heap.size, 0, none⟩ 1 1 [.int .i64 p'.ix, .int .i64 p'.v, .slice p'.A p'.na p'.ca, .int .i64 p'.C, .slice p'.Z p'.nz p'.cz] rfl rfl (World.news_of_block (cs := #[.int .i64 p'.ix, .int .i64 p'.v, .slice p'.A p'.na p'.ca, .int .i64 p'.C, .slice p'.Z p'.nz p'.cz]) (t := 56) (fr := (0, 0)) (heap_alloc_new w8 _)) (by simp [Value.oneCell']) (by decide) b5 b6 b7 _ rfl ?_; intro gg cap w9 hown9 hgrow9 hgg9 hlt9)
          have HB11 : Hid (Below w8.heap.size w8 (w8.alloc (.cells #[.int .i64 p'.ix, .int .i64 p'.v, .slice p'.A p'.na p'.ca, .int .i64 p'.C, .slice p'.Z p'.nz p'.cz] 56))) := Lib.hid (below_box0 _ _)
          have hu6 : ∀ b9, Value.ownBlock u6 = some b9 → w7.heap.size ≤ b9 ∧ b9 < wi.heap.size := fun b9 e => World.ownsRow.lt HPR.out _ e
          have hzz := HB10.out.size
          have hzw := HB9.out.size
          have hsp0 := HSP.out
          have hga : ∀ b9, (w8.alloc (.cells #[.int .i64 p'.ix, .int .i64 p'.v, .slice p'.A p'.na p'.ca, .int .i64 p'.C, .slice p'.Z p'.nz p'.cz] 56)).heap.size ≤ b9 ∨ Value.ownBlock u6 = some b9 → ((.slice (some ⟨gg, 0, none⟩) (j + 1) cap) : Value).ownBlock = some b9 → True := fun _ _ _ => trivial
          have hnew : ∀ b9, ((.slice (some ⟨gg, 0, none⟩) (j + 1) cap) : Value).ownBlock = some b9 → Value.ownBlock u6 = some b9 ∨ (w8.alloc (.cells #[.int .i64 p'.ix, .int .i64 p'.v, .slice p'.A p'.na p'.ca, .int .i64 p'.C, .slice p'.Z p'.nz p'.cz] 56)).heap.size ≤ b9 := fun b9 e => by
            cases e
            rcases hgg9 with e | e
            · exact Or.inl e
            · exact Or.inr (show (w8.alloc (.cells #[.int .i64 p'.ix, .int .i64 p'.v, .slice p'.A p'.na p'.ca, .int .i64 p'.C, .slice p'.Z p'.nz p'.cz] 56)).heap.size ≤ gg by omega)
          have HPL9 : Hid ((ps' ++ [p']).length = j + 1) := Lib.hid (by rw [List.length_append, HPL.out]; rfl)
          have HPR9 : Hid (w9.ownsRow w7.heap.size 56 5 (.slice (some ⟨gg, 0, none⟩) (j + 1) cap) (j + 1) ((ps' ++ [p']).flatMap prtC)) := Lib.hid (by rw [List.flatMap_append]; simpa using hown9)
          have HB12 : Hid (Below w7.heap.size w7 w9) := Lib.hid (((below_ext HBi.out HB10.out).alloc (by have := HBi.out.size; omega) (.cells #[.int .i64 p'.ix, .int .i64 p'.v, .slice p'.A p'.na p'.ca, .int .i64 p'.C, .slice p'.Z p'.nz p'.cz] 56)).grown hgrow9 (by have := HBi.out.size; simp; omega) (fun b9 e => (hu6 b9 e).1))
          have HPS9 : Hid (∀ q, q < j + 1 → SamP (o.ps.getD q noPart) ((ps' ++ [p']).getD q noPart) ∧ Dep (fun b => b < w7.heap.size ∨ ((.slice (some ⟨gg, 0, none⟩) (j + 1) cap) : Value).ownBlock = some b) w9 (fun x => PaOk x ((ps' ++ [p']).getD q noPart))) := Lib.hid (fun q hq => by
            by_cases e : q = j
            · subst e
              have e9 : (ps' ++ [p']).getD q noPart = p' := by rw [List.getD_eq_getElem?_getD, List.getElem?_append_right (by rw [HPL.out]; exact Nat.le_refl _), HPL.out, Nat.sub_self]; rfl
              rw [e9, HPE.out]
              refine ⟨HSPP.out, ?_⟩
              have hd := ((HDA8.out.and HDZ8.out).imp (ψ := fun x => PaOk x p') (fun u9 h9 => ⟨HLPP.out.1, HLPP.out.2, h9.1, h9.2⟩)).below HB11.out
              refine hd.grown hgrow9 (fun b9 e => by have := (hu6 b9 e).2; omega) (fun b9 hb9 e => ?_)
              have h77 := HBi.out.size
              rcases e with e | e
              · omega
              · rcases hnew b9 e with e | e
                · have := (hu6 b9 e).2; omega
                · omega
            · have e9 : (ps' ++ [p']).getD q noPart = ps'.getD q noPart := by rw [List.getD_eq_getElem?_getD, List.getElem?_append_left (by rw [HPL.out]; omega), ← List.getD_eq_getElem?_getD]
              rw [e9]
              obtain ⟨h8, h9⟩ := HPS.out q (by omega)
              refine ⟨h8, ((h9.below HB10.out).below HB11.out).grown hgrow9 (fun b9 e => .inr e) (fun b9 hb9 e => ?_)⟩
              rcases e with e | e
              · exact .inl e
              · rcases hnew b9 e with e | e
                · exact .inr e
                · omega)
          clear hown hown9 hgrow9 hgg9 hlt9 hnew hga hu6 b5 b6 b7
          go_wp2
          go_roundw
          case rel => exact ⟨j + 1, _, by omega, by go_num, HPL9, HPR9, HPS9, HB12⟩
          case measure => simp [intOf]; omega
        · skip
          obtain rfl : j = o.np := by omega
          obtain ⟨L3, cp3, hv3, hc3, hbo3⟩ := own_slice HPR.out
          subst hv3
          have HC3 := Lib.hid hc3
          have HBO3 := Lib.hid hbo3
          clear hc3 hbo3
          have HXi : Hid (Own wi ⟨X, 0, none⟩ (.int .i64 o.num) ∧ Own wi ⟨X, 1, none⟩ (.string o.rs) ∧ Own wi ⟨X, 2, none⟩ (.int .i64 o.E1) ∧ Own wi ⟨X, 3, none⟩ (.int .i64 o.E2) ∧ Own wi ⟨X, 4, none⟩ (.slice A2 o.na ca2) ∧ Own wi ⟨X, 5, none⟩ (.int .i64 o.C) ∧ Own wi ⟨X, 6, none⟩ (.slice Z2 o.nz cz2) ∧ Own wi ⟨X, 7, none⟩ (.slice o.L o.np o.cp) ∧ Own wi ⟨X, 8, none⟩ (.int .i64 o.key)) := Lib.hid (by
            obtain ⟨X0, X1, X2, X3, X4, X5, X6, X7, X8⟩ := HX7.out
            exact ⟨X0.below HBi.out, X1.below HBi.out, X2.below HBi.out, X3.below HBi.out, X4.below HBi.out, X5.below HBi.out, X6.below HBi.out, X7.below HBi.out, X8.below HBi.out⟩)
          obtain ⟨⟨x0, y0⟩, ⟨x1, y1⟩, ⟨x2, y2⟩, ⟨x3, y3⟩, ⟨x4, y4⟩, ⟨x5, y5⟩, ⟨x6, y6⟩, ⟨x7, y7⟩, ⟨x8, y8⟩⟩ := HXi.out
          go_upto_region 13 with (fail)
          clear x0 y0 x1 y1 x2 y2 x3 y3 x4 y4 x5 y5 x6 y6 x7 y7 x8 y8
          obtain ⟨w8, hw8⟩ : ∃ x, wi.setCell ⟨X, 7, none⟩ (.slice L3 o.np cp3) = x := ⟨_, rfl⟩
          have HX8 : Hid (Own w8 ⟨X, 0, none⟩ (.int .i64 o.num) ∧ Own w8 ⟨X, 1, none⟩ (.string o.rs) ∧ Own w8 ⟨X, 2, none⟩ (.int .i64 o.E1) ∧ Own w8 ⟨X, 3, none⟩ (.int .i64 o.E2) ∧ Own w8 ⟨X, 4, none⟩ (.slice A2 o.na ca2) ∧ Own w8 ⟨X, 5, none⟩ (.int .i64 o.C) ∧ Own w8 ⟨X, 6, none⟩ (.slice Z2 o.nz cz2) ∧ Own w8 ⟨X, 7, none⟩ (.slice L3 o.np cp3) ∧ Own w8 ⟨X, 8, none⟩ (.int .i64 o.key)) := Lib.hid (by
            obtain ⟨X0, X1, X2, X3, X4, X5, X6, X7, X8⟩ := HXi.out
            rw [← hw8]
            exact ⟨own_set_ne2 X0 (by simp), own_set_ne2 X1 (by simp), own_set_ne2 X2 (by simp), own_set_ne2 X3 (by simp), own_set_ne2 X4 (by simp), own_set_ne2 X5 (by simp), own_set_ne2 X6 (by simp), own_set_eq2 X7, own_set_ne2 X8 (by simp)⟩)
          have hX7 : X < w5.heap.size := by have := HS5.out; omega
          have hZi : w7.heap.size ≤ wi.heap.size := HBi.out.size
          have hZ8 : w8.heap.size = wi.heap.size := by rw [← hw8, World.size_setCell]
          have hXo : wo.heap.size = X := HXE.out
          have HB8 : Hid (Below wo.heap.size wo w8) := Lib.hid (by rw [← hw8]; exact (below_ext HB7.out HBi.out).setCell (show wo.heap.size ≤ X by omega) _)
          have HQ8 : Hid (OrdQ B (fun b => (0 ≤ b ∧ b < X) ∨ (Value.slice L3 o.np cp3).ownBlock = some b) w8 { o with A := A2, ca := ca2, Z := Z2, cz := cz2, L := L3, cp := cp3, ps := ps' }) := Lib.hid (by
            have hbg : Below w7.heap.size w7 wi := HBi.out
            have hz7 := HZ7.out
            have h5 := HS5.out
            refine ⟨HLA.out, HLZ.out, HPL.out, HC3.out, ?_, ?_, ?_, ?_⟩
            · refine HDA7.out.step (by omega) (fun b9 hb9 hn9 => ?_) (fun b9 hb9 e => ?_)
              · rw [← hw8]; exact (Go.Deep.blk_setCell_other _ _ _ _ (show b9 ≠ X by omega)).trans (hbg.block b9 hb9)
              · rcases e with e | e
                · omega
                · have := (HBO3.out b9 e).1; omega
            · refine HDZ7.out.step (by omega) (fun b9 hb9 hn9 => ?_) (fun b9 hb9 e => ?_)
              · rw [← hw8]; exact (Go.Deep.blk_setCell_other _ _ _ _ (show b9 ≠ X by omega)).trans (hbg.block b9 hb9)
              · rcases e with e | e
                · omega
                · have := (HBO3.out b9 e).1; omega
            · intro w' h' q hq
              refine ((HPS.out q (by rw [← HPL.out]; exact hq)).2.step (by omega) (fun b9 hb9 hn9 => ?_) (fun b9 hb9 e => ?_)) w' h'
              · rw [← hw8]; exact Go.Deep.blk_setCell_other _ _ _ _ (show b9 ≠ X from fun e9 => hn9 (Or.inl (show b9 < w7.heap.size by omega)))
              · rcases e with e | e
                · exact Or.inl (by omega)
                · exact Or.inr e
            · rw [← hw8]
              exact World.ownsRow.kept (own_mono HPR.out (by omega)) (grown_set2 _ _ _ _) (Or.inr (fun e => by have := (HBO3.out _ e).1; omega)))
          rw [hw8]
          clear hw8
          have HV8 : Hid (Own w8 ⟨B, 0, none⟩ v) := Lib.hid (HV.out.below HB8.out)
          have HV18 : Hid (Own w8 ⟨B, 1, none⟩ (.slice K1 m d1)) := Lib.hid (HV1.out.below HB8.out)
          have HO8 : Hid (w8.ownsRow (B + 1) 46 9 v k (os'.flatMap ordC)) := Lib.hid (World.ownsRow.kept HO.out (gb_below HB8.out none) (own_none _))
          have hvo : ∀ b9, v.ownBlock = some b9 → B + 1 ≤ b9 ∧ b9 < X := fun b9 e => by have := World.ownsRow.lt HO.out _ e; rw [hXo] at this; exact this
          have hBX : B < X := by omega
          have hz89 := HB8.out.size
          have HZ8E := Lib.hid hZ8
          obtain ⟨⟨x0, y0⟩, ⟨x1, y1⟩, ⟨x2, y2⟩, ⟨x3, y3⟩, ⟨x4, y4⟩, ⟨x5, y5⟩, ⟨x6, y6⟩, ⟨x7, y7⟩, ⟨x8, y8⟩⟩ := HX8.out
          obtain ⟨v3, v3f⟩ := HV8.out
          have hown : (w8.alloc (.cells #[.int .i64 o.num, .string o.rs, .int .i64 o.E1, .int .i64 o.E2, .slice A2 o.na ca2, .int .i64 o.C, .slice Z2 o.nz cz2, .slice L3 o.np cp3, .int .i64 o.key] 46)).ownsRow (B + 1) 46 9 v k (os'.flatMap ordC) := HO8.out.alloc _
          have hno : v.ownBlock ≠ some B := fun e => by have := (hvo _ e).1; omega
          have b5 : k + 1 ≤ maxLen := by unfold maxLen; omega
          have b6 : (k + 1) * 128 ≤ 140737488355328 := by omega
          have b7 : B + 1 ≤ (w8.alloc (.cells #[.int .i64 o.num, .string o.rs, .int .i64 o.E1, .int .i64 o.E2, .slice A2 o.na ca2, .int .i64 o.C, .slice Z2 o.nz cz2, .slice L3 o.np cp3, .int .i64 o.key] 46)).heap.size := by simp; omega
          clear hZ8
          go_wp2_with (at_builtin; refine wpList_append_lies rfl _ _ 22 rfl (B + 1) 46 i1 (.agg #[.int .i64 0, .string ⟨#[]⟩, .int .i64 0, .int .i64 0, .slice none 0 0, .int .i64 0, .slice none 0 0, .slice none 0 0, .int .i64 0]) 9 128 Tryd.underlying22 hi1 hy0 hy1 hy2 (by rfl) (by decide) _ _ _ rfl hown ⟨w8.heap.size, 0, none⟩ 1 1 [.int .i64 o.num, .string o.rs, .int .i64 o.E1, .int .i64 o.E2, .slice A2 o.na ca2, .int .i64 o.C, .slice Z2 o.nz cz2, .slice L3 o.np cp3, .int .i64 o.key] rfl rfl (World.news_of_block (cs := #[.int .i64 o.num, .string o.rs, .int .i64 o.E1, .int .i64 o.E2, .slice A2 o.na ca2, .int .i64 o.C, .slice Z2 o.nz cz2, .slice L3 o.np cp3, .int .i64 o.key]) (t := 46) (fr := (0, 0)) (heap_alloc_new w8 _)) (by simp [Value.oneCell']) (by decide) b5 b6 b7 _ rfl ?_; intro gg cap w9 hown9 hgrow9 hgg9 hlt9; obtain ⟨p1, p2⟩ := own_grown2 (HV8.out.below (below_box0 w8 (.cells #[.int .i64 o.num, .string o.rs, .int .i64 o.E1, .int .i64 o.E2, .slice A2 o.na ca2, .int .i64 o.C, .slice Z2 o.nz cz2, .slice L3 o.np cp3, .int .i64 o.key] 46))) hgrow9 hno)
          have hZ8 := HZ8E.out
          have hgz : (w8.alloc (.cells #[.int .i64 o.num, .string o.rs, .int .i64 o.E1, .int .i64 o.E2, .slice A2 o.na ca2, .int .i64 o.C, .slice Z2 o.nz cz2, .slice L3 o.np cp3, .int .i64 o.key] 46)).heap.size ≤ w9.heap.size := hgrow9.size
          have hsq : (w8.alloc (.cells #[.int .i64 o.num, .string o.rs, .int .i64 o.E1, .int .i64 o.E2, .slice A2 o.na ca2, .int .i64 o.C, .slice Z2 o.nz cz2, .slice L3 o.np cp3, .int .i64 o.key] 46)).heap.size = w8.heap.size + 1 := by simp
          have hlen : (os' ++ [{ o with A := A2, ca := ca2, Z := Z2, cz := cz2, L := L3, cp := cp3, ps := ps' }]).length = k + 1 := by rw [List.length_append, HCL.out]; rfl
          have hgg9' : ∀ b9, ((.slice (some ⟨gg, 0, none⟩) (k + 1) cap) : Value).ownBlock = some b9 → v.ownBlock = some b9 ∨ w8.heap.size ≤ b9 := fun b9 e => by
            cases e
            rcases hgg9 with e | e
            · exact Or.inl e
            · exact Or.inr (show w8.heap.size ≤ gg by omega)
          have hsz9 : ((w9.setCell ⟨B, 0, none⟩ (.slice (some ⟨gg, 0, none⟩) (k + 1) cap)) : World).heap.size = w9.heap.size := World.size_setCell _ _ _
          have hfar : ∀ b9, b9 < w8.heap.size → b9 ≠ B → v.ownBlock ≠ some b9 → ((w9.setCell ⟨B, 0, none⟩ (.slice (some ⟨gg, 0, none⟩) (k + 1) cap)) : World).heap[b9]? = w8.heap[b9]? := fun b9 h1 h2 h3 => (Go.Deep.blk_setCell_other _ _ _ _ h2).trans ((hgrow9.block b9 (by omega) (fun e => h3 e.symm)).trans ((below_box0 w8 (.cells #[.int .i64 o.num, .string o.rs, .int .i64 o.E1, .int .i64 o.E2, .slice A2 o.na ca2, .int .i64 o.C, .slice Z2 o.nz cz2, .slice L3 o.np cp3, .int .i64 o.key] 46)).block b9 h1))
          have HO9 : Hid ((w9.setCell ⟨B, 0, none⟩ (.slice (some ⟨gg, 0, none⟩) (k + 1) cap)).ownsRow (B + 1) 46 9 (.slice (some ⟨gg, 0, none⟩) (k + 1) cap) (k + 1) ((os' ++ [{ o with A := A2, ca := ca2, Z := Z2, cz := cz2, L := L3, cp := cp3, ps := ps' }]).flatMap ordC)) := Lib.hid (World.ownsRow.kept (by rw [List.flatMap_append]; simpa using hown9) (grown_set2 _ _ _ _) (Or.inr (fun e => by have := (World.ownsRow.lt hown9 _ e).1; omega)))
          have HV9 : Hid (Own (w9.setCell ⟨B, 0, none⟩ (.slice (some ⟨gg, 0, none⟩) (k + 1) cap)) ⟨B, 0, none⟩ (.slice (some ⟨gg, 0, none⟩) (k + 1) cap)) := Lib.hid (own_set_eq2 ⟨p1, p2⟩)
          have HV19 : Hid (Own (w9.setCell ⟨B, 0, none⟩ (.slice (some ⟨gg, 0, none⟩) (k + 1) cap)) ⟨B, 1, none⟩ (.slice K1 m d1)) := Lib.hid (own_set_ne2 (own_grown2 (HV18.out.below (below_box0 w8 (.cells #[.int .i64 o.num, .string o.rs, .int .i64 o.E1, .int .i64 o.E2, .slice A2 o.na ca2, .int .i64 o.C, .slice Z2 o.nz cz2, .slice L3 o.np cp3, .int .i64 o.key] 46))) hgrow9 hno) (by simp))
          have HG9 : Hid (ClI 0 ix B (.slice (some ⟨gg, 0, none⟩) (k + 1) cap) (if k = ix then (Value.slice L3 o.np cp3).ownBlock else Li) os (os' ++ [{ o with A := A2, ca := ca2, Z := Z2, cz := cz2, L := L3, cp := cp3, ps := ps' }]) (k + 1) (w9.setCell ⟨B, 0, none⟩ (.slice (some ⟨gg, 0, none⟩) (k + 1) cap))) := Lib.hid (ClI.push (S := X) (u := wo) (u7 := w8) (o' := { o with A := A2, ca := ca2, Z := Z2, cz := cz2, L := L3, cp := cp3, ps := ps' }) HG.out HCL.out hXo hBX (Nat.zero_le _) (fun b9 e => by have := hvo b9 e; omega) (by omega) (by omega) (fun b9 h1 h2 h3 => (hfar b9 (by omega) (by omega) h3).trans (HB8.out.block b9 (by omega))) (fun b9 h1 h2 => hfar b9 h2 (by omega) (fun e => by have := (hvo _ e).2; omega)) hgg9' (by rw [HPP.out]; exact ⟨rfl, rfl, rfl, rfl, rfl, rfl, rfl, rfl, rfl, rfl, rfl, by rw [HPN.out]; exact HPL.out, fun q hq => (HPS.out q (by rw [← HPN.out]; exact hq)).1⟩) HQ8.out (fun b9 e => by have h1 := HBO3.out b9 e; have h2 := HZ7.out; have h3 := HS5.out; omega))
          have HB9 : Hid (Below B W (w9.setCell ⟨B, 0, none⟩ (.slice (some ⟨gg, 0, none⟩) (k + 1) cap))) := Lib.hid ((((HBr.out.trans (HB8.out.mono (by omega))).alloc (by omega) (.cells #[.int .i64 o.num, .string o.rs, .int .i64 o.E1, .int .i64 o.E2, .slice A2 o.na ca2, .int .i64 o.C, .slice Z2 o.nz cz2, .slice L3 o.np cp3, .int .i64 o.key] 46)).grown hgrow9 (by simp; omega) (fun j hj => by have := (hvo j hj).1; omega)).setCell (Nat.le_refl _) _)
          have HCL9 := Lib.hid hlen
          clear hown hown9 hgrow9 hgg9 hlt9 hgg9' hfar p1 p2 b5 b6 b7 hno v3 v3f x0 y0 x1 y1 x2 y2 x3 y3 x4 y4 x5 y5 x6 y6 x7 y7 x8 y8 hvo
          go_wp2
          go_roundw
          case rel => exact ⟨k + 1, _, _, (if k = ix then (Value.slice L3 o.np cp3).ownBlock else Li), by omega, by go_num, HCL9, HV9, HV19, HO9, HG9, HB9⟩
          case measure => simp [intOf]; omega
    · skip
      obtain rfl : k = n := by omega
      obtain ⟨A3, c3, hv3, hc3, hbo⟩ := own_slice HO.out
      subst hv3
      obtain ⟨A4, c4, hv4, hc4, hbk⟩ := HKL.out
      cases hv4
      have HK9 : Hid (wo.ownsRow w0.heap.size 42 32 (.slice K1 m d1) m (hs.flatMap hshC)) := Lib.hid (own_below (World.ownsRow.kept HK1.out (gb_below HKW.out none) (own_none _)) HBr.out (fun b9 e => by have := (hbk b9 e).2; have := HSB2.out; omega))
      have HRF : Hid (wo.heap[w.heap.size + 1]? = some (.cells #[.slice none 0 0, .slice none 0 0] 25)) := kRB.out _ HBr0
      have HBO := Lib.hid hbo
      have HBK := Lib.hid hbk
      have HC3 := Lib.hid hc3
      have HC4 := Lib.hid hc4
      obtain ⟨v3, v3f⟩ := HV.out
      obtain ⟨v4, v4f⟩ := HV1.out
      clear hbo hbk hc3 hc4
      obtain ⟨zc0, zc1⟩ := kC.out _ HBr0
      go_wp2_with ((with_reducible show wpList _ _ _ (⟨none, _, _, _, _, _⟩ :: _) _ _); refine wpList_store_row rfl 25 _ _ rfl (w.heap.size + 1) #[.slice A3 k c3, .slice K1 m d1] rfl rfl _ _ HRF.out (by kernel_rfl) rfl (by simp [Value.oneCell']) ?_)
      have hrw := setRow_heap _ _ _ #[.slice A3 k c3, .slice K1 m d1] _ _ HRF.out
      have hbF := below_setRow' (below_ext HBw.out HBr0.out) (cs := #[.slice A3 k c3, .slice K1 m d1]) (Nat.le_add_right w.heap.size 1)
      have h0 := HSZ0.out
      have hw1 := HSB2.out
      have hw0 : w.heap.size ≤ w0.heap.size := by omega
      have hzs : (wo.setRow (w.heap.size + 1) #[.slice A3 k c3, .slice K1 m d1]).heap.size = wo.heap.size := by simp [World.setRow]
      refine bodyPost_ret (v := tlV A3 k c3 K1 m d1) (results_cell1 (p := 2) (ty := 25) rfl _ _ ⟨w.heap.size + 1, 0, none⟩ _ rfl (run_loadVar_row _ _ _ _ _ _ _ hrw Tryd.underlying25 rfl (by kernel_rfl))) rfl ⟨A3, c3, K1, d1, os', B, Li, rfl, cld_of HCL.out HC3.out HC4.out (Nat.zero_le _) (by omega) (by omega) ?_ ?_ (fun b9 e => ?_) ?_, hbF⟩
      · exact World.ownsRow.kept HO.out (grown_setRow _ _ _) (Or.inr (fun e => by have := (HBO.out _ e).1; omega))
      · exact World.ownsRow.kept (own_mono HK9.out hw0) (grown_setRow _ _ _) (Or.inr (fun e => by have := (HBK.out _ e).1; omega))
      · have := (HBK.out _ e).2
        omega
      · exact HG.out.shut (by rw [hzs]; exact Nat.le_refl _) (fun b9 h1 h2 => setRow_other _ _ _ _ (by omega))
theorem conv_sk {w : World} {B : Option Addr} {xs : List Int} {n c : Nat} (h : Sk .u8 w B xs) (hn : xs.length = n) : (convert 63 9 (.slice B n c)).run Tryd.prog w = .ok (.string (strOfNums xs)) w := by
  by_cases h0 : 0 < n
  · obtain ⟨b, o, rfl, _⟩ := h 0 (by omega)
    refine run_convert_bytes_arg (P := Tryd.prog) w 63 5 Tryd.underlying63 Tryd.underlying5 b o n c xs hn (fun i hi => ?_) 9 Tryd.underlying9
    obtain ⟨b', o', e, hc⟩ := h i (by omega)
    cases e
    exact hc
  · obtain rfl : n = 0 := by omega
    obtain rfl : xs = [] := List.eq_nil_of_length_eq_zero hn
    cases B with
    | none => exact run_convert_bytes_nil (P := Tryd.prog) w 63 5 Tryd.underlying63 Tryd.underlying5 0 c 9 Tryd.underlying9
    | some a =>
      rw [run_convert_bytes_string w 63 9 5 _ 0 c Tryd.underlying63 Tryd.underlying5 Tryd.underlying9, run_bytesToString w a 0 c [] (run_loadCells_list (P := Tryd.prog) w a [] (fun j v hj => by simp at hj))]
      rfl
theorem sk_nil (w : World) (B : Option Addr) : Sk .u8 w B [] := fun k hk => absurd hk (by simp)
set_option maxHeartbeats 3200000 in
theorem sm_i (nn : Int) (B1 : Option Addr) (cb1 : Nat) (L1 : Option Addr) (cl1 : Nat) (B2 : Option Addr) (cb2 : Nat) (L2 : Option Addr) (cl2 : Nat) (w : World) :
    Calls Tryd.prog 44 #[.agg #[.int .i64 1, .int .i64 nn, .slice B1 0 cb1, .slice L1 0 cl1], .agg #[.int .i64 1, .int .i64 nn, .slice B2 0 cb2, .slice L2 0 cl2]] w fun e' w' => e' = .returned (.bool true) ∧ Below w.heap.size w w' := by
  obtain ⟨w0, hW⟩ : ∃ W, ((w.alloc (.cells #[.int .i64 1, .int .i64 nn, .slice B1 0 cb1, .slice L1 0 cl1] 67)).alloc (.cells #[.int .i64 1, .int .i64 nn, .slice B2 0 cb2, .slice L2 0 cl2] 67)) = W := ⟨_, rfl⟩
  have HBw : Hid (Below w.heap.size w w0) := Lib.hid (by rw [← hW]; exact below_two (Below.refl _ _))
  have hc : w0.cell? ⟨w.heap.size, 0, none⟩ = some (.int .i64 1) ∧ w0.cell? ⟨w.heap.size, 1, none⟩ = some (.int .i64 nn) ∧ w0.cell? ⟨w.heap.size, 2, none⟩ = some (.slice B1 0 cb1) ∧ w0.cell? ⟨w.heap.size, 3, none⟩ = some (.slice L1 0 cl1) ∧ w0.cell? ⟨w.heap.size + 1, 0, none⟩ = some (.int .i64 1) ∧ w0.cell? ⟨w.heap.size + 1, 1, none⟩ = some (.int .i64 nn) ∧ w0.cell? ⟨w.heap.size + 1, 2, none⟩ = some (.slice B2 0 cb2) ∧ w0.cell? ⟨w.heap.size + 1, 3, none⟩ = some (.slice L2 0 cl2) := by rw [← hW]; exact ⟨cell_below (allocs_cell (by simp) (by rfl)) (below_box0 _ _), cell_below (allocs_cell (by simp) (by rfl)) (below_box0 _ _), cell_below (allocs_cell (by simp) (by rfl)) (below_box0 _ _), cell_below (allocs_cell (by simp) (by rfl)) (below_box0 _ _), allocs_cell (by simp) (by rfl), allocs_cell (by simp) (by rfl), allocs_cell (by simp) (by rfl), allocs_cell (by simp) (by rfl)⟩
  have kC := Lib.hid (show ∀ u : World, Hid (Below w0.heap.size w0 u) → u.cell? ⟨w.heap.size, 0, none⟩ = some (.int .i64 1) ∧ u.cell? ⟨w.heap.size, 1, none⟩ = some (.int .i64 nn) ∧ u.cell? ⟨w.heap.size, 2, none⟩ = some (.slice B1 0 cb1) ∧ u.cell? ⟨w.heap.size, 3, none⟩ = some (.slice L1 0 cl1) ∧ u.cell? ⟨w.heap.size + 1, 0, none⟩ = some (.int .i64 1) ∧ u.cell? ⟨w.heap.size + 1, 1, none⟩ = some (.int .i64 nn) ∧ u.cell? ⟨w.heap.size + 1, 2, none⟩ = some (.slice B2 0 cb2) ∧ u.cell? ⟨w.heap.size + 1, 3, none⟩ = some (.slice L2 0 cl2) from fun u h => ⟨cell_below hc.1 h.out, cell_below hc.2.1 h.out, cell_below hc.2.2.1 h.out, cell_below hc.2.2.2.1 h.out, cell_below hc.2.2.2.2.1 h.out, cell_below hc.2.2.2.2.2.1 h.out, cell_below hc.2.2.2.2.2.2.1 h.out, cell_below hc.2.2.2.2.2.2.2 h.out⟩)
  have HB_0 : Hid (Below w0.heap.size w0 w0) := Lib.hid (Below.refl _ _)
  have HW := Lib.hid hW
  clear hW hc 
  have hc1 : (convert 63 9 (.slice B1 0 cb1)).run Tryd.prog w0 = .ok (.string (strOfNums [])) w0 := conv_sk (sk_nil w0 B1) rfl
  have hc2 : (convert 63 9 (.slice B2 0 cb2)).run Tryd.prog w0 = .ok (.string (strOfNums [])) w0 := conv_sk (sk_nil w0 B2) rfl
  go_enter Tryd.func44, Tryd.ntmps44
  go_upto_region 1 with (fail)
  rw [HW.out]
  obtain ⟨zc0, zc1, zc2, zc3, zc4, zc5, zc6, zc7⟩ := kC.out _ HB_0
  go_wp2
  clear zc0 zc1 zc2 zc3 zc4 zc5 zc6 zc7
  go_loopw [5] (fun i u => i = .int .i64 0 ∧ u = w0) (fun _ _ => 0)
  case atStart => exact ⟨rfl, rfl⟩
  case round =>
    obtain ⟨rfl, rfl⟩ := hrel
    obtain ⟨zc0, zc1, zc2, zc3, zc4, zc5, zc6, zc7⟩ := kC.out _ HB_0
    have hbF := HBw.out
    go_wp2
    go_ret
    exact ⟨rfl, hbF⟩
set_option maxHeartbeats 3200000 in
theorem sm_b (l : List Int) (n : Nat) (hn : Hid (l.length = n)) (B1 : Option Addr) (cb1 : Nat) (L1 : Option Addr) (cl1 : Nat) (B2 : Option Addr) (cb2 : Nat) (L2 : Option Addr) (cl2 : Nat) (w : World) (h1 : Hid (Sk .u8 w B1 l)) (h2 : Hid (Sk .u8 w B2 l)) :
    Calls Tryd.prog 44 #[.agg #[.int .i64 2, .int .i64 0, .slice B1 n cb1, .slice L1 0 cl1], .agg #[.int .i64 2, .int .i64 0, .slice B2 n cb2, .slice L2 0 cl2]] w fun e' w' => e' = .returned (.bool true) ∧ Below w.heap.size w w' := by
  obtain ⟨w0, hW⟩ : ∃ W, ((w.alloc (.cells #[.int .i64 2, .int .i64 0, .slice B1 n cb1, .slice L1 0 cl1] 67)).alloc (.cells #[.int .i64 2, .int .i64 0, .slice B2 n cb2, .slice L2 0 cl2] 67)) = W := ⟨_, rfl⟩
  have HBw : Hid (Below w.heap.size w w0) := Lib.hid (by rw [← hW]; exact below_two (Below.refl _ _))
  have hc : w0.cell? ⟨w.heap.size, 0, none⟩ = some (.int .i64 2) ∧ w0.cell? ⟨w.heap.size, 1, none⟩ = some (.int .i64 0) ∧ w0.cell? ⟨w.heap.size, 2, none⟩ = some (.slice B1 n cb1) ∧ w0.cell? ⟨w.heap.size, 3, none⟩ = some (.slice L1 0 cl1) ∧ w0.cell? ⟨w.heap.size + 1, 0, none⟩ = some (.int .i64 2) ∧ w0.cell? ⟨w.heap.size + 1, 1, none⟩ = some (.int .i64 0) ∧ w0.cell? ⟨w.heap.size + 1, 2, none⟩ = some (.slice B2 n cb2) ∧ w0.cell? ⟨w.heap.size + 1, 3, none⟩ = some (.slice L2 0 cl2) := by rw [← hW]; exact ⟨cell_below (allocs_cell (by simp) (by rfl)) (below_box0 _ _), cell_below (allocs_cell (by simp) (by rfl)) (below_box0 _ _), cell_below (allocs_cell (by simp) (by rfl)) (below_box0 _ _), cell_below (allocs_cell (by simp) (by rfl)) (below_box0 _ _), allocs_cell (by simp) (by rfl), allocs_cell (by simp) (by rfl), allocs_cell (by simp) (by rfl), allocs_cell (by simp) (by rfl)⟩
  have kC := Lib.hid (show ∀ u : World, Hid (Below w0.heap.size w0 u) → u.cell? ⟨w.heap.size, 0, none⟩ = some (.int .i64 2) ∧ u.cell? ⟨w.heap.size, 1, none⟩ = some (.int .i64 0) ∧ u.cell? ⟨w.heap.size, 2, none⟩ = some (.slice B1 n cb1) ∧ u.cell? ⟨w.heap.size, 3, none⟩ = some (.slice L1 0 cl1) ∧ u.cell? ⟨w.heap.size + 1, 0, none⟩ = some (.int .i64 2) ∧ u.cell? ⟨w.heap.size + 1, 1, none⟩ = some (.int .i64 0) ∧ u.cell? ⟨w.heap.size + 1, 2, none⟩ = some (.slice B2 n cb2) ∧ u.cell? ⟨w.heap.size + 1, 3, none⟩ = some (.slice L2 0 cl2) from fun u h => ⟨cell_below hc.1 h.out, cell_below hc.2.1 h.out, cell_below hc.2.2.1 h.out, cell_below hc.2.2.2.1 h.out, cell_below hc.2.2.2.2.1 h.out, cell_below hc.2.2.2.2.2.1 h.out, cell_below hc.2.2.2.2.2.2.1 h.out, cell_below hc.2.2.2.2.2.2.2 h.out⟩)
  have kS1 := Lib.hid (show ∀ u : World, Hid (Below w0.heap.size w0 u) → Hid (Sk .u8 u B1 l) from fun u h => Lib.hid ((h1.out.below) (below_ext HBw.out h.out)))
  have kS2 := Lib.hid (show ∀ u : World, Hid (Below w0.heap.size w0 u) → Hid (Sk .u8 u B2 l) from fun u h => Lib.hid ((h2.out.below) (below_ext HBw.out h.out)))
  have HB_0 : Hid (Below w0.heap.size w0 w0) := Lib.hid (Below.refl _ _)
  have HW := Lib.hid hW
  clear hW hc h1 h2
  have hc1 : (convert 63 9 (.slice B1 n cb1)).run Tryd.prog w0 = .ok (.string (strOfNums l)) w0 := conv_sk (kS1.out _ HB_0).out hn.out
  have hc2 : (convert 63 9 (.slice B2 n cb2)).run Tryd.prog w0 = .ok (.string (strOfNums l)) w0 := conv_sk (kS2.out _ HB_0).out hn.out
  obtain ⟨sl, hsl⟩ : ∃ x, strOfNums l = x := ⟨_, rfl⟩
  rw [hsl] at hc1 hc2
  clear hsl
  go_enter Tryd.func44, Tryd.ntmps44
  go_upto_region 1 with (fail)
  rw [HW.out]
  obtain ⟨zc0, zc1, zc2, zc3, zc4, zc5, zc6, zc7⟩ := kC.out _ HB_0
  go_wp2
  clear zc0 zc1 zc2 zc3 zc4 zc5 zc6 zc7
  go_loopw [5] (fun i u => i = .int .i64 0 ∧ u = w0) (fun _ _ => 0)
  case atStart => exact ⟨rfl, rfl⟩
  case round =>
    obtain ⟨rfl, rfl⟩ := hrel
    obtain ⟨zc0, zc1, zc2, zc3, zc4, zc5, zc6, zc7⟩ := kC.out _ HB_0
    have hbF := HBw.out
    go_wp2
    go_ret
    exact ⟨rfl, hbF⟩
set_option maxHeartbeats 6400000 in
theorem sm_l (l : List It) (n : Nat) (hn : Hid (l.length = n)) (hn1 : n ≤ 1000) (f1 f2 : Nat → Ic) (B1 : Option Addr) (cb1 : Nat) (L1 : Option Addr) (cl1 : Nat) (B2 : Option Addr) (cb2 : Nat) (L2 : Option Addr) (cl2 : Nat) (w : World) (h5 : Hid (∀ k, k < l.length → ∃ b o, L1 = some ⟨b, o, none⟩ ∧ Four w b (o + k * 4) (f1 k))) (h6 : Hid (∀ k, k < l.length → ∃ b o, L2 = some ⟨b, o, none⟩ ∧ Four w b (o + k * 4) (f2 k)))
    (ih : Hid (∀ k, k < l.length → ∀ u, Below w.heap.size w u → Calls Tryd.prog 44 #[(f1 k).val, (f2 k).val] u fun e w' => e = .returned (.bool true) ∧ Below u.heap.size u w')) :
    Calls Tryd.prog 44 #[.agg #[.int .i64 3, .int .i64 0, .slice B1 0 cb1, .slice L1 n cl1], .agg #[.int .i64 3, .int .i64 0, .slice B2 0 cb2, .slice L2 n cl2]] w fun e' w' => e' = .returned (.bool true) ∧ Below w.heap.size w w' := by
  obtain ⟨w0, hW⟩ : ∃ W, ((w.alloc (.cells #[.int .i64 3, .int .i64 0, .slice B1 0 cb1, .slice L1 n cl1] 67)).alloc (.cells #[.int .i64 3, .int .i64 0, .slice B2 0 cb2, .slice L2 n cl2] 67)) = W := ⟨_, rfl⟩
  have HBw : Hid (Below w.heap.size w w0) := Lib.hid (by rw [← hW]; exact below_two (Below.refl _ _))
  have hc : w0.cell? ⟨w.heap.size, 0, none⟩ = some (.int .i64 3) ∧ w0.cell? ⟨w.heap.size, 1, none⟩ = some (.int .i64 0) ∧ w0.cell? ⟨w.heap.size, 2, none⟩ = some (.slice B1 0 cb1) ∧ w0.cell? ⟨w.heap.size, 3, none⟩ = some (.slice L1 n cl1) ∧ w0.cell? ⟨w.heap.size + 1, 0, none⟩ = some (.int .i64 3) ∧ w0.cell? ⟨w.heap.size + 1, 1, none⟩ = some (.int .i64 0) ∧ w0.cell? ⟨w.heap.size + 1, 2, none⟩ = some (.slice B2 0 cb2) ∧ w0.cell? ⟨w.heap.size + 1, 3, none⟩ = some (.slice L2 n cl2) := by rw [← hW]; exact ⟨cell_below (allocs_cell (by simp) (by rfl)) (below_box0 _ _), cell_below (allocs_cell (by simp) (by rfl)) (below_box0 _ _), cell_below (allocs_cell (by simp) (by rfl)) (below_box0 _ _), cell_below (allocs_cell (by simp) (by rfl)) (below_box0 _ _), allocs_cell (by simp) (by rfl), allocs_cell (by simp) (by rfl), allocs_cell (by simp) (by rfl), allocs_cell (by simp) (by rfl)⟩
  have kC := Lib.hid (show ∀ u : World, Hid (Below w0.heap.size w0 u) → u.cell? ⟨w.heap.size, 0, none⟩ = some (.int .i64 3) ∧ u.cell? ⟨w.heap.size, 1, none⟩ = some (.int .i64 0) ∧ u.cell? ⟨w.heap.size, 2, none⟩ = some (.slice B1 0 cb1) ∧ u.cell? ⟨w.heap.size, 3, none⟩ = some (.slice L1 n cl1) ∧ u.cell? ⟨w.heap.size + 1, 0, none⟩ = some (.int .i64 3) ∧ u.cell? ⟨w.heap.size + 1, 1, none⟩ = some (.int .i64 0) ∧ u.cell? ⟨w.heap.size + 1, 2, none⟩ = some (.slice B2 0 cb2) ∧ u.cell? ⟨w.heap.size + 1, 3, none⟩ = some (.slice L2 n cl2) from fun u h => ⟨cell_below hc.1 h.out, cell_below hc.2.1 h.out, cell_below hc.2.2.1 h.out, cell_below hc.2.2.2.1 h.out, cell_below hc.2.2.2.2.1 h.out, cell_below hc.2.2.2.2.2.1 h.out, cell_below hc.2.2.2.2.2.2.1 h.out, cell_below hc.2.2.2.2.2.2.2 h.out⟩)
  have HB_0 : Hid (Below w0.heap.size w0 w0) := Lib.hid (Below.refl _ _)
  have HW := Lib.hid hW
  clear hW hc 
  have hc1 : (convert 63 9 (.slice B1 0 cb1)).run Tryd.prog w0 = .ok (.string (strOfNums [])) w0 := conv_sk (sk_nil w0 B1) rfl
  have hc2 : (convert 63 9 (.slice B2 0 cb2)).run Tryd.prog w0 = .ok (.string (strOfNums [])) w0 := conv_sk (sk_nil w0 B2) rfl
  go_enter Tryd.func44, Tryd.ntmps44
  go_upto_region 1 with (fail)
  rw [HW.out]
  obtain ⟨zc0, zc1, zc2, zc3, zc4, zc5, zc6, zc7⟩ := kC.out _ HB_0
  go_wp2
  clear zc0 zc1 zc2 zc3 zc4 zc5 zc6 zc7
  go_loopw [5] (fun i u => ∃ k : Nat, k ≤ n ∧ i = .int .i64 k ∧ Hid (Below w0.heap.size w0 u)) (fun i _ => n - (intOf i).toNat)
  case atStart => exact ⟨0, by omega, rfl, Lib.hid (Below.refl _ _)⟩
  case round =>
    obtain ⟨k, hk, rfl, HBr⟩ := hrel
    by_cases hlt : k < n
    · skip
      have hkl : k < l.length := by rw [hn.out]; exact hlt
      obtain ⟨a1, o1, e1, q1⟩ := h5.out k hkl
      obtain ⟨a2, o2, e2, q2⟩ := h6.out k hkl
      subst e1
      subst e2
      have HIH := Lib.hid (ih.out k hkl)
      obtain ⟨⟨kd1, nn1, B3, nb3, cb3, L3, nl3, cl3⟩, hic1⟩ : ∃ x, f1 k = x := ⟨_, rfl⟩
      obtain ⟨⟨kd2, nn2, B4, nb4, cb4, L4, nl4, cl4⟩, hic2⟩ : ∃ x, f2 k = x := ⟨_, rfl⟩
      rw [hic1] at q1 HIH
      rw [hic2] at q2 HIH
      have HQ1 := Lib.hid q1
      have HQ2 := Lib.hid q2
      clear hkl q1 q2 hic1 hic2 hc1 hc2
      have kE := Lib.hid (show ∀ u : World, Hid (Below w0.heap.size w0 u) → u.cell? ⟨a1, o1 + k * 4, none⟩ = some (.int .i64 kd1) ∧ u.cell? ⟨a1, o1 + k * 4 + 1, none⟩ = some (.int .i64 nn1) ∧ u.cell? ⟨a1, o1 + k * 4 + 2, none⟩ = some (.slice B3 nb3 cb3) ∧ u.cell? ⟨a1, o1 + k * 4 + 3, none⟩ = some (.slice L3 nl3 cl3) ∧ u.cell? ⟨a2, o2 + k * 4, none⟩ = some (.int .i64 kd2) ∧ u.cell? ⟨a2, o2 + k * 4 + 1, none⟩ = some (.int .i64 nn2) ∧ u.cell? ⟨a2, o2 + k * 4 + 2, none⟩ = some (.slice B4 nb4 cb4) ∧ u.cell? ⟨a2, o2 + k * 4 + 3, none⟩ = some (.slice L4 nl4 cl4) from fun u h => by
        obtain ⟨r0, r1, r2, r3⟩ := (HQ1.out.below (below_ext HBw.out h.out)).get
        obtain ⟨s0, s1, s2, s3⟩ := (HQ2.out.below (below_ext HBw.out h.out)).get
        exact ⟨r0, r1, r2, r3, s0, s1, s2, s3⟩)
      have kIH := Lib.hid (show ∀ u : World, Hid (Below w0.heap.size w0 u) → Hid (Calls Tryd.prog 44 #[.agg #[.int .i64 kd1, .int .i64 nn1, .slice B3 nb3 cb3, .slice L3 nl3 cl3], .agg #[.int .i64 kd2, .int .i64 nn2, .slice B4 nb4 cb4, .slice L4 nl4 cl4]] u fun e w' => e = .returned (.bool true) ∧ Below u.heap.size u w') from fun u h => Lib.hid (HIH.out u (below_ext HBw.out h.out)))
      obtain ⟨zc0, zc1, zc2, zc3, zc4, zc5, zc6, zc7⟩ := kC.out _ HBr
      obtain ⟨kE_0, kE_1, kE_2, kE_3, kE_4, kE_5, kE_6, kE_7⟩ := kE.out _ HBr
      go_upto_region 6 with (fail)
      clear zc0 zc1 zc2 zc3 zc4 zc5 zc6 zc7 kE_0 kE_1 kE_2 kE_3 kE_4 kE_5 kE_6 kE_7
      have hBx1 := Lib.hid (show ∀ u u2 : World, Hid (Below w0.heap.size w0 u) → Below u.heap.size u u2 → Hid (Below w0.heap.size w0 u2) from fun u u2 h1 h2 => Lib.hid (below_ext h1.out h2))
      have hS1 := Lib.hid (show ∀ u : World, Hid (Below w0.heap.size w0 u) → (u.cell? ⟨w.heap.size, 0, none⟩ = some (.int .i64 3) ∧ u.cell? ⟨w.heap.size, 1, none⟩ = some (.int .i64 0) ∧ u.cell? ⟨w.heap.size, 2, none⟩ = some (.slice B1 0 cb1) ∧ u.cell? ⟨w.heap.size, 3, none⟩ = some (.slice (some ⟨a1, o1, none⟩) n cl1) ∧ u.cell? ⟨w.heap.size + 1, 0, none⟩ = some (.int .i64 3) ∧ u.cell? ⟨w.heap.size + 1, 1, none⟩ = some (.int .i64 0) ∧ u.cell? ⟨w.heap.size + 1, 2, none⟩ = some (.slice B2 0 cb2) ∧ u.cell? ⟨w.heap.size + 1, 3, none⟩ = some (.slice (some ⟨a2, o2, none⟩) n cl2) ∧ u.cell? ⟨a1, o1 + k * 4, none⟩ = some (.int .i64 kd1) ∧ u.cell? ⟨a1, o1 + k * 4 + 1, none⟩ = some (.int .i64 nn1) ∧ u.cell? ⟨a1, o1 + k * 4 + 2, none⟩ = some (.slice B3 nb3 cb3) ∧ u.cell? ⟨a1, o1 + k * 4 + 3, none⟩ = some (.slice L3 nl3 cl3) ∧ u.cell? ⟨a2, o2 + k * 4, none⟩ = some (.int .i64 kd2) ∧ u.cell? ⟨a2, o2 + k * 4 + 1, none⟩ = some (.int .i64 nn2) ∧ u.cell? ⟨a2, o2 + k * 4 + 2, none⟩ = some (.slice B4 nb4 cb4) ∧ u.cell? ⟨a2, o2 + k * 4 + 3, none⟩ = some (.slice L4 nl4 cl4) ∧ Hid (Below w0.heap.size w0 u)) from fun u h1 => by
        obtain ⟨y0, y1, y2, y3, y4, y5, y6, y7⟩ := kC.out _ (Lib.hid h1.out)
        obtain ⟨kE_0, kE_1, kE_2, kE_3, kE_4, kE_5, kE_6, kE_7⟩ := kE.out _ (Lib.hid h1.out)
        exact ⟨y0, y1, y2, y3, y4, y5, y6, y7, kE_0, kE_1, kE_2, kE_3, kE_4, kE_5, kE_6, kE_7, h1⟩)
      have HBA1 : Hid (Below w0.heap.size w0 wr) := Lib.hid HBr.out
      refine wp_region_T (S := fun w' => w'.cell? ⟨w.heap.size, 0, none⟩ = some (.int .i64 3) ∧ w'.cell? ⟨w.heap.size, 1, none⟩ = some (.int .i64 0) ∧ w'.cell? ⟨w.heap.size, 2, none⟩ = some (.slice B1 0 cb1) ∧ w'.cell? ⟨w.heap.size, 3, none⟩ = some (.slice (some ⟨a1, o1, none⟩) n cl1) ∧ w'.cell? ⟨w.heap.size + 1, 0, none⟩ = some (.int .i64 3) ∧ w'.cell? ⟨w.heap.size + 1, 1, none⟩ = some (.int .i64 0) ∧ w'.cell? ⟨w.heap.size + 1, 2, none⟩ = some (.slice B2 0 cb2) ∧ w'.cell? ⟨w.heap.size + 1, 3, none⟩ = some (.slice (some ⟨a2, o2, none⟩) n cl2) ∧ w'.cell? ⟨a1, o1 + k * 4, none⟩ = some (.int .i64 kd1) ∧ w'.cell? ⟨a1, o1 + k * 4 + 1, none⟩ = some (.int .i64 nn1) ∧ w'.cell? ⟨a1, o1 + k * 4 + 2, none⟩ = some (.slice B3 nb3 cb3) ∧ w'.cell? ⟨a1, o1 + k * 4 + 3, none⟩ = some (.slice L3 nl3 cl3) ∧ w'.cell? ⟨a2, o2 + k * 4, none⟩ = some (.int .i64 kd2) ∧ w'.cell? ⟨a2, o2 + k * 4 + 1, none⟩ = some (.int .i64 nn2) ∧ w'.cell? ⟨a2, o2 + k * 4 + 2, none⟩ = some (.slice B4 nb4 cb4) ∧ w'.cell? ⟨a2, o2 + k * 4 + 3, none⟩ = some (.slice L4 nl4 cl4) ∧ Hid (Below w0.heap.size w0 w')) (E := []) (by kernel_rfl) (hS1.out _ (hBx1.out _ _ HBA1 ((Below.refl _ _).drew))) (fun hHeld => ?_)
      refine tkV 0 ?_
      try simp only [qq1, qq2, qq3, Act.put, qq4, qq5, qq6]
      refine tkV 1 ?_
      try simp only [qq1, qq2, qq3, Act.put, qq4, qq5, qq6]
      refine tkV 2 ?_
      try simp only [qq1, qq2, qq3, Act.put, qq4, qq5, qq6]
      refine tkV 3 ?_
      try simp only [qq1, qq2, qq3, Act.put, qq4, qq5, qq6]
      refine tkV 4 ?_
      try simp only [qq1, qq2, qq3, Act.put, qq4, qq5, qq6]
      refine tkV 5 ?_
      try simp only [qq1, qq2, qq3, Act.put, qq4, qq5, qq6]
      refine tkV 6 ?_
      try simp only [qq1, qq2, qq3, Act.put, qq4, qq5, qq6]
      refine tkV 7 ?_
      try simp only [qq1, qq2, qq3, Act.put, qq4, qq5, qq6]
      refine tkV 8 ?_
      try simp only [qq1, qq2, qq3, Act.put, qq4, qq5, qq6]
      refine tkV 9 ?_
      try simp only [qq1, qq2, qq3, Act.put, qq4, qq5, qq6]
      refine wpT_one (i := 10) (by kernel_rfl) rfl (fun K hK => ?_)
      go_simp
      refine (((kIH.out _ (Lib.hid (hHeld.2.2.2.2.2.2.2.2.2.2.2.2.2.2.2.2).out))).out).mono ?_
      rintro e wA ⟨rfl, hbA⟩
      refine hK.out _ _ ?_ (fun hHeld => ?_)
      · exact hS1.out _ (hBx1.out _ _ hHeld.2.2.2.2.2.2.2.2.2.2.2.2.2.2.2.2 hbA)
      clear hK K
      try simp only [qq1, qq2, qq3, Act.put, qq4, qq5, qq6]
      refine tkV 11 ?_
      try simp only [qq1, qq2, qq3, Act.put, qq4, qq5, qq6]
      refine wpT_done (by kernel_rfl) ?_ _
      obtain ⟨x0, x1, x2, x3, x4, x5, x6, x7, x8, x9, x10, x11, x12, x13, x14, x15, FB1⟩ := hHeld
      clear x0 x1 x2 x3 x4 x5 x6 x7 x8 x9 x10 x11 x12 x13 x14 x15 hS1 hBx1 HBA1
      have HL1_w0 := Lib.hid FB1.out
      obtain ⟨zc0, zc1, zc2, zc3, zc4, zc5, zc6, zc7⟩ := kC.out _ HL1_w0
      obtain ⟨kE_0, kE_1, kE_2, kE_3, kE_4, kE_5, kE_6, kE_7⟩ := kE.out _ HL1_w0
      have HBN := HL1_w0
      clear zc0 zc1 zc2 zc3 zc4 zc5 zc6 zc7 kE_0 kE_1 kE_2 kE_3 kE_4 kE_5 kE_6 kE_7
      go_wp2
      go_roundw
      case rel => exact ⟨k + 1, by omega, by go_num, HBN⟩
      case measure => simp [intOf]; omega
    · skip
      have hke : k = n := by omega
      obtain ⟨zc0, zc1, zc2, zc3, zc4, zc5, zc6, zc7⟩ := kC.out _ HBr
      have hbF := below_ext HBw.out HBr.out
      go_wp2
      go_ret
      exact ⟨rfl, hbF⟩
theorem same07_any : ∀ (d : Nat) (i : It) (a b : Ic) (w : World), fits d i → ItR w i a → ItR w i b → Calls Tryd.prog 44 #[a.val, b.val] w fun e w' => e = .returned (.bool true) ∧ Below w.heap.size w w' := by
  intro d
  induction d with
  | zero =>
    intro i a b w hf hr hs
    cases hr with
    | int n c h1 h2 h3 h4 =>
      cases hs with
      | int n c2 g1 g2 g3 g4 =>
        obtain ⟨kd, nn, B, nb, cb, L, nl, cl⟩ := a
        obtain ⟨kd2, nn2, B2, nb2, cb2, L2, nl2, cl2⟩ := b
        dsimp only at h1 h2 h3 h4 g1 g2 g3 g4
        subst h1; subst h2; subst h3; subst h4; subst g1; subst g2; subst g3; subst g4
        exact sm_i _ B cb L cl B2 cb2 L2 cl2 w
    | byt l c h1 h2 h3 h4 h5 =>
      cases hs with
      | byt l c2 g1 g2 g3 g4 g5 =>
        obtain ⟨kd, nn, B, nb, cb, L, nl, cl⟩ := a
        obtain ⟨kd2, nn2, B2, nb2, cb2, L2, nl2, cl2⟩ := b
        dsimp only at h1 h2 h3 h4 h5 g1 g2 g3 g4 g5
        subst h1; subst h2; subst h3; subst h4; subst g1; subst g2; subst g3; subst g4
        exact sm_b l l.length (Lib.hid rfl) B cb L cl B2 cb2 L2 cl2 w (Lib.hid h5) (Lib.hid g5)
    | lst l c h1 h2 h3 h4 f h5 h6 => exact absurd hf (by simp [fits])
  | succ d ihd =>
    intro i a b w hf hr hs
    cases hr with
    | int n c h1 h2 h3 h4 =>
      cases hs with
      | int n c2 g1 g2 g3 g4 =>
        obtain ⟨kd, nn, B, nb, cb, L, nl, cl⟩ := a
        obtain ⟨kd2, nn2, B2, nb2, cb2, L2, nl2, cl2⟩ := b
        dsimp only at h1 h2 h3 h4 g1 g2 g3 g4
        subst h1; subst h2; subst h3; subst h4; subst g1; subst g2; subst g3; subst g4
        exact sm_i _ B cb L cl B2 cb2 L2 cl2 w
    | byt l c h1 h2 h3 h4 h5 =>
      cases hs with
      | byt l c2 g1 g2 g3 g4 g5 =>
        obtain ⟨kd, nn, B, nb, cb, L, nl, cl⟩ := a
        obtain ⟨kd2, nn2, B2, nb2, cb2, L2, nl2, cl2⟩ := b
        dsimp only at h1 h2 h3 h4 h5 g1 g2 g3 g4 g5
        subst h1; subst h2; subst h3; subst h4; subst g1; subst g2; subst g3; subst g4
        exact sm_b l l.length (Lib.hid rfl) B cb L cl B2 cb2 L2 cl2 w (Lib.hid h5) (Lib.hid g5)
    | lst l c h1 h2 h3 h4 f h5 h6 =>
      cases hs with
      | lst l c2 g1 g2 g3 g4 f2 g5 g6 =>
        obtain ⟨kd, nn, B, nb, cb, L, nl, cl⟩ := a
        obtain ⟨kd2, nn2, B2, nb2, cb2, L2, nl2, cl2⟩ := b
        dsimp only at h1 h2 h3 h4 h5 g1 g2 g3 g4 g5
        subst h1; subst h2; subst h3; subst h4; subst g1; subst g2; subst g3; subst g4
        refine sm_l l l.length (Lib.hid rfl) hf.1 f f2 B cb L cl B2 cb2 L2 cl2 w (Lib.hid h5) (Lib.hid g5) (Lib.hid fun k hk u hu => ?_)
        exact ihd _ (f k) (f2 k) u (hf.2 _ (by rw [List.getD_eq_getElem?_getD, List.getElem?_eq_getElem hk]; exact List.getElem_mem hk)) ((h6 k hk).kept hu) ((g6 k hk).kept hu)
end Go.Proofs.YtofkihlpbfcdkaaDoor
