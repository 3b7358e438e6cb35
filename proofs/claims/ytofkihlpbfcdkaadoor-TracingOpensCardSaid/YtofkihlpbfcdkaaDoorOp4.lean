/- Contracts and lemmas: TlE, TlF, OpTl, OpEs, TlL, TlJ, TlK, TlM. -/
import Derived.Laws.StructEq
import Derived.Deep.MidRow
import Derived.Laws.AppendOwnNone
import Derived.Test.YtofkihlpbfcdkaaDoorOp3
namespace Go.Proofs.YtofkihlpbfcdkaaDoor
open Go.RowKit SpM
set_option linter.unusedVariables false
set_option linter.unusedSimpArgs false
set_option maxRecDepth 100000
def tagTl : ByteArray := ⟨#[115, 112, 101, 99, 105, 101, 47, 116, 114, 97, 105, 108]⟩
def lIt (h : List Int) (o : OrdR) : It := .lst [.byt h, oIt o]
def lnk (h : List Int) (o : OrdR) : List Int := tagged (bys tagTl) (enc (lIt h o))
theorem lnk_len (h : List Int) (o : OrdR) : (lnk h o).length = 32 := tagged_len _ _
theorem lnk_b (h : List Int) (o : OrdR) : bytesB (lnk h o) = true := sha_bytes _
theorem fits_l {h : List Int} {o : OrdR} (hl : h.length = 32) (hb : bytesB h = true) (hi : OrdI o) (hs : OrdS o) : fits 8 (lIt h o) := by
  refine ⟨by simp, fun x hx => ?_⟩
  simp only [List.mem_cons, List.not_mem_nil, or_false] at hx
  rcases hx with rfl | rfl
  · exact ⟨⟨by omega, by omega⟩, hb⟩
  · exact fits_mono (fits_o hi hs) (by decide)
theorem enc_l {h : List Int} {o : OrdR} (hl : h.length = 32) (hs : OrdS o) : (enc (lIt h o)).length ≤ 16384 := by
  have h1 := enc_o hs
  rw [lIt, enc_lst]
  simp only [List.length_cons, List.length_append, be4_len, encL_cons, enc_byt, List.length_nil, show (encL []).length = 0 from rfl, hl]
  omega
set_option maxHeartbeats 3200000 in
theorem tagI_any (tg : ByteArray) (ht1 : 1 ≤ tg.size) (ht2 : tg.size ≤ 100) (i : It) (c : Ic) (HFIT : Hid (fits 8 i)) (HLEN : Hid ((enc i).length ≤ 16384)) (w : World) (hv : Hid (VarsD w)) (hi : Hid (ItR w i c)) :
    Calls Tryd.prog 51 #[.string tg, .agg #[.int .i64 c.kind, .int .i64 c.n, .slice c.B c.nb c.cb, .slice c.L c.nl c.cl]] w fun e w' => e = .returned (.agg (arr .u8 (tagged (bys tg) (enc i)))) ∧ Below w.heap.size w w' := by
  obtain ⟨RR, hRR⟩ : ∃ R, tagged (bys tg) (enc i) = R := ⟨_, rfl⟩
  rw [hRR]
  have HRR0 : Kp (tagged (bys tg) (enc i) = RR) := ⟨hRR⟩
  have HRL : Hid (RR.length = 32) := Lib.hid (by rw [← hRR]; exact tagged_len _ _)
  clear hRR
  obtain ⟨W, hW⟩ : ∃ W, (w.alloc (.cells #[.int .i64 c.kind, .int .i64 c.n, .slice c.B c.nb c.cb, .slice c.L c.nl c.cl] 67)).alloc (.cells #[.int .u8 0, .int .u8 0, .int .u8 0, .int .u8 0, .int .u8 0, .int .u8 0, .int .u8 0, .int .u8 0, .int .u8 0, .int .u8 0, .int .u8 0, .int .u8 0, .int .u8 0, .int .u8 0, .int .u8 0, .int .u8 0, .int .u8 0, .int .u8 0, .int .u8 0, .int .u8 0, .int .u8 0, .int .u8 0, .int .u8 0, .int .u8 0, .int .u8 0, .int .u8 0, .int .u8 0, .int .u8 0, .int .u8 0, .int .u8 0, .int .u8 0, .int .u8 0] 42) = W := ⟨_, rfl⟩
  have HBX : Hid (Below w.heap.size w W) := Lib.hid (by rw [← hW]; exact below_two (Below.refl _ _))
  have HF0 : Hid (W.heap[w.heap.size]? = some (.cells #[.int .i64 c.kind, .int .i64 c.n, .slice c.B c.nb c.cb, .slice c.L c.nl c.cl] 67)) := Lib.hid (by rw [← hW]; exact heap_alloc2_old _ _ _)
  have HR0 : Hid (Blk .u8 42 W (w.heap.size + 1) (zer 32)) := Lib.hid (by rw [← hW, zarrh]; exact heap_alloc2_new _ _ _)
  have HV := Lib.hid (hv.out.below HBX.out)
  have HI := Lib.hid (hi.out.kept HBX.out)
  have HW := Lib.hid hW
  have c0 := cell_blk HF0.out 0
  have c1 := cell_blk HF0.out 1
  have c2 := cell_blk HF0.out 2
  have c3 := cell_blk HF0.out 3
  clear hW hv hi
  go_enter Tryd.func51, Tryd.ntmps51
  go_upto_region 1 with (fail)
  rw [HW.out]
  go_wp2_with fail
  refine (encode_any i c _ HFIT.out HI.out HLEN.out).mono ?_
  rintro e w4 ⟨v4, rfl, ho4, hb4⟩
  obtain ⟨E, hE⟩ : ∃ E, enc i = E := ⟨_, rfl⟩
  have HEB : Hid (bytesB E = true) := Lib.hid (by rw [← hE]; exact enc_bytes HFIT.out)
  have HEL : Hid (0 < E.length ∧ E.length ≤ 16384) := Lib.hid (by rw [← hE]; exact ⟨enc_pos _, HLEN.out⟩)
  rw [hE] at ho4
  obtain ⟨g4, cap4, e4, hg4, -, -, hsk4⟩ := ho4.cells HEL.out.1
  obtain ⟨n4, hn4⟩ : ∃ n, E.length = n := ⟨_, rfl⟩
  rw [hn4] at e4 HEL
  subst e4
  have HN4 := Lib.hid hn4
  have HS4 := Lib.hid hsk4
  have HB4 := Lib.hid hb4
  have HEE : Kp (enc i = E) := ⟨hE⟩
  clear hE hsk4 ho4 hb4 hn4 c0 c1 c2 c3
  obtain ⟨he0, he1⟩ := HEL.out
  go_wp2_with fail
  refine (tagged_any tg ht1 ht2 g4 0 cap4 E n4 HN4 he0 (by omega) HEB _ HS4 (Lib.hid (HV.out.below HB4.out))).mono ?_
  rintro e w5 ⟨rfl, hb5⟩
  have HB5 := Lib.hid (below_ext HB4.out hb5)
  rw [← HEE.1, HRR0.1, show HashOk RR = .tuple #[.agg (arr .u8 RR), .int .i64 0] from rfl]
  clear hb5 HS4 HB4
  have HR5 : Hid (Blk .u8 42 w5 (w.heap.size + 1) (zer 32)) := Lib.hid (HR0.out.below HB5.out)
  have HA5 : Hid (Blk .u8 42 (w5.alloc (.cells #[.int .u8 0, .int .u8 0, .int .u8 0, .int .u8 0, .int .u8 0, .int .u8 0, .int .u8 0, .int .u8 0, .int .u8 0, .int .u8 0, .int .u8 0, .int .u8 0, .int .u8 0, .int .u8 0, .int .u8 0, .int .u8 0, .int .u8 0, .int .u8 0, .int .u8 0, .int .u8 0, .int .u8 0, .int .u8 0, .int .u8 0, .int .u8 0, .int .u8 0, .int .u8 0, .int .u8 0, .int .u8 0, .int .u8 0, .int .u8 0, .int .u8 0, .int .u8 0] 42)) w5.heap.size (zer 32)) := Lib.hid (by rw [zarrh]; exact Blk.new _ _)
  have HA6 : Hid (Blk .u8 42 ((w5.alloc (.cells #[.int .u8 0, .int .u8 0, .int .u8 0, .int .u8 0, .int .u8 0, .int .u8 0, .int .u8 0, .int .u8 0, .int .u8 0, .int .u8 0, .int .u8 0, .int .u8 0, .int .u8 0, .int .u8 0, .int .u8 0, .int .u8 0, .int .u8 0, .int .u8 0, .int .u8 0, .int .u8 0, .int .u8 0, .int .u8 0, .int .u8 0, .int .u8 0, .int .u8 0, .int .u8 0, .int .u8 0, .int .u8 0, .int .u8 0, .int .u8 0, .int .u8 0, .int .u8 0] 42)).setRow w5.heap.size (arr .u8 RR)) w5.heap.size RR) := Lib.hid HA5.out.setRow
  have HR6 : Hid (Blk .u8 42 ((w5.alloc (.cells #[.int .u8 0, .int .u8 0, .int .u8 0, .int .u8 0, .int .u8 0, .int .u8 0, .int .u8 0, .int .u8 0, .int .u8 0, .int .u8 0, .int .u8 0, .int .u8 0, .int .u8 0, .int .u8 0, .int .u8 0, .int .u8 0, .int .u8 0, .int .u8 0, .int .u8 0, .int .u8 0, .int .u8 0, .int .u8 0, .int .u8 0, .int .u8 0, .int .u8 0, .int .u8 0, .int .u8 0, .int .u8 0, .int .u8 0, .int .u8 0, .int .u8 0, .int .u8 0] 42)).setRow w5.heap.size (arr .u8 RR)) (w.heap.size + 1) (zer 32)) := Lib.hid ((HR5.out.old _).setRow_ne (by have := HR5.out.lt; omega))
  go_wp2_with (first
    | ((with_reducible show wpList _ _ _ (⟨none, Op.store _ (Operand.tmp 7) _, _, _, _, _⟩ :: _) _ _); refine wpList_store_row rfl 42 _ _ rfl w5.heap.size (arr .u8 RR) rfl rfl _ _ HA5.out (hash_info HRL.out) (arrs_sz (l := zer 32) rfl HRL.out) (arr_one _) ?_)
    | ((with_reducible show wpList _ _ _ (⟨some 20, _, _, _, _, _⟩ :: _) _ _); refine wpList_load_row rfl 42 _ rfl w5.heap.size rfl _ _ _ _ HA6.out Tryd.underlying42 rfl (hash_info HRL.out) ?_)
    | ((with_reducible show wpList _ _ _ (⟨none, Op.store _ (Operand.tmp 4) _, _, _, _, _⟩ :: _) _ _); refine wpList_store_row rfl 42 _ _ rfl (w.heap.size + 1) (arr .u8 RR) rfl rfl _ _ HR6.out (hash_info HRL.out) (arrs_sz (l := zer 32) rfl HRL.out) (arr_one _) ?_))
  have HRR := HR6.out.setRow (l' := RR)
  have HBF := below_setRow' (below_setRow' (below_ext HBX.out (below_ext HB5.out (below_box0 w5 (.cells #[.int .u8 0, .int .u8 0, .int .u8 0, .int .u8 0, .int .u8 0, .int .u8 0, .int .u8 0, .int .u8 0, .int .u8 0, .int .u8 0, .int .u8 0, .int .u8 0, .int .u8 0, .int .u8 0, .int .u8 0, .int .u8 0, .int .u8 0, .int .u8 0, .int .u8 0, .int .u8 0, .int .u8 0, .int .u8 0, .int .u8 0, .int .u8 0, .int .u8 0, .int .u8 0, .int .u8 0, .int .u8 0, .int .u8 0, .int .u8 0, .int .u8 0, .int .u8 0] 42)))) (b := w5.heap.size) (by have := (below_ext HBX.out HB5.out).size; omega) (cs := arr .u8 RR)) (b := w.heap.size + 1) (Nat.le_succ _) (cs := arr .u8 RR)
  exact bodyPost_ret (v := .agg (arr .u8 RR)) (results_cell1 (p := 4) (ty := 42) rfl _ _ ⟨w.heap.size + 1, 0, none⟩ _ rfl (run_loadVar_row _ _ _ _ _ _ _ HRR Tryd.underlying42 rfl (hash_info HRL.out))) rfl ⟨rfl, HBF⟩
set_option maxHeartbeats 12800000 in
theorem link_any (h : List Int) (hl : Hid (h.length = 32)) (hb : Hid (bytesB h = true)) (o : OrdR) (hi : Hid (OrdI o)) (hs : OrdS o) (w : World) (hv : Hid (VarsD w)) (ho : Hid (OrdOk w o)) :
    Calls Tryd.prog 32 #[.agg (arr .u8 h), orV o] w fun e' w' => e' = .returned (.agg (arr .u8 (lnk h o))) ∧ Below w.heap.size w w' := by
  obtain ⟨RR, hRR⟩ : ∃ R, tagged (bys tagTl) (enc (lIt h o)) = R := ⟨_, rfl⟩
  rw [show lnk h o = tagged (bys tagTl) (enc (lIt h o)) from rfl, hRR]
  have HRR : Kp (tagged (bys tagTl) (enc (lIt h o)) = RR) := ⟨hRR⟩
  have HRL : Hid (RR.length = 32) := Lib.hid (by rw [← hRR]; exact tagged_len _ _)
  have HFIT : Hid (fits 8 (lIt h o)) := Lib.hid (fits_l hl.out hb.out hi.out hs)
  have HLEN : Hid ((enc (lIt h o)).length ≤ 16384) := Lib.hid (enc_l hl.out hs)
  clear hRR
  obtain ⟨w0, hW⟩ : ∃ W, (((w.alloc (.cells (arr .u8 h) 42)).alloc (orO o)).alloc (.cells #[.int .u8 0, .int .u8 0, .int .u8 0, .int .u8 0, .int .u8 0, .int .u8 0, .int .u8 0, .int .u8 0, .int .u8 0, .int .u8 0, .int .u8 0, .int .u8 0, .int .u8 0, .int .u8 0, .int .u8 0, .int .u8 0, .int .u8 0, .int .u8 0, .int .u8 0, .int .u8 0, .int .u8 0, .int .u8 0, .int .u8 0, .int .u8 0, .int .u8 0, .int .u8 0, .int .u8 0, .int .u8 0, .int .u8 0, .int .u8 0, .int .u8 0, .int .u8 0] 42)) = W := ⟨_, rfl⟩
  have HBw : Hid (Below w.heap.size w w0) := Lib.hid (by rw [← hW]; exact (((Below.refl _ _).alloc (Nat.le_refl _) _).alloc (by simp) _).alloc (by simp; omega) _)
  have hc : w0.cell? ⟨w.heap.size + 1, 0, none⟩ = some (.int .i64 o.num) ∧ w0.cell? ⟨w.heap.size + 1, 1, none⟩ = some (.string o.rs) ∧ w0.cell? ⟨w.heap.size + 1, 2, none⟩ = some (.int .i64 o.E1) ∧ w0.cell? ⟨w.heap.size + 1, 3, none⟩ = some (.int .i64 o.E2) ∧ w0.cell? ⟨w.heap.size + 1, 4, none⟩ = some (.slice o.A o.na o.ca) ∧ w0.cell? ⟨w.heap.size + 1, 5, none⟩ = some (.int .i64 o.C) ∧ w0.cell? ⟨w.heap.size + 1, 6, none⟩ = some (.slice o.Z o.nz o.cz) ∧ w0.cell? ⟨w.heap.size + 1, 7, none⟩ = some (.slice o.L o.np o.cp) ∧ w0.cell? ⟨w.heap.size + 1, 8, none⟩ = some (.int .i64 o.key) := by rw [← hW]; exact ⟨cell_below (allocs_cell (by simp) (by rfl)) (below_box0 _ _), cell_below (allocs_cell (by simp) (by rfl)) (below_box0 _ _), cell_below (allocs_cell (by simp) (by rfl)) (below_box0 _ _), cell_below (allocs_cell (by simp) (by rfl)) (below_box0 _ _), cell_below (allocs_cell (by simp) (by rfl)) (below_box0 _ _), cell_below (allocs_cell (by simp) (by rfl)) (below_box0 _ _), cell_below (allocs_cell (by simp) (by rfl)) (below_box0 _ _), cell_below (allocs_cell (by simp) (by rfl)) (below_box0 _ _), cell_below (allocs_cell (by simp) (by rfl)) (below_box0 _ _)⟩
  have kC := Lib.hid (show ∀ u : World, Hid (Below w0.heap.size w0 u) → u.cell? ⟨w.heap.size + 1, 0, none⟩ = some (.int .i64 o.num) ∧ u.cell? ⟨w.heap.size + 1, 1, none⟩ = some (.string o.rs) ∧ u.cell? ⟨w.heap.size + 1, 2, none⟩ = some (.int .i64 o.E1) ∧ u.cell? ⟨w.heap.size + 1, 3, none⟩ = some (.int .i64 o.E2) ∧ u.cell? ⟨w.heap.size + 1, 4, none⟩ = some (.slice o.A o.na o.ca) ∧ u.cell? ⟨w.heap.size + 1, 5, none⟩ = some (.int .i64 o.C) ∧ u.cell? ⟨w.heap.size + 1, 6, none⟩ = some (.slice o.Z o.nz o.cz) ∧ u.cell? ⟨w.heap.size + 1, 7, none⟩ = some (.slice o.L o.np o.cp) ∧ u.cell? ⟨w.heap.size + 1, 8, none⟩ = some (.int .i64 o.key) from fun u h => ⟨cell_below hc.1 h.out, cell_below hc.2.1 h.out, cell_below hc.2.2.1 h.out, cell_below hc.2.2.2.1 h.out, cell_below hc.2.2.2.2.1 h.out, cell_below hc.2.2.2.2.2.1 h.out, cell_below hc.2.2.2.2.2.2.1 h.out, cell_below hc.2.2.2.2.2.2.2.1 h.out, cell_below hc.2.2.2.2.2.2.2.2 h.out⟩)
  have kO := Lib.hid (show ∀ u : World, Hid (Below w0.heap.size w0 u) → Hid (OrdOk u o) from fun u h => Lib.hid ((ho.out.below) (below_ext HBw.out h.out)))
  have kD := Lib.hid (show ∀ u : World, Hid (Below w0.heap.size w0 u) → Hid (VarsD u) from fun u h => Lib.hid ((hv.out.below) (below_ext HBw.out h.out)))
  have HB_0 : Hid (Below w0.heap.size w0 w0) := Lib.hid (Below.refl _ _)
  have HW := Lib.hid hW
  have kHB := Lib.hid (show ∀ u : World, Hid (Below w0.heap.size w0 u) → Hid (Blk .u8 42 u w.heap.size h) from fun u h9 => Lib.hid (Blk.below (by rw [← hW]; exact ((Blk.new w h).old _).old _) h9.out))
  have kRB := Lib.hid (show ∀ u : World, Hid (Below w0.heap.size w0 u) → Hid (Blk .u8 42 u (w.heap.size + 2) (zer 32)) from fun u h9 => Lib.hid (Blk.below (by rw [← hW, zarrh]; exact heap_alloc3_new _ _ _ _) h9.out))
  clear hW hc ho hv
  go_enter Tryd.func32, Tryd.ntmps32
  go_upto_region 1 with (fail)
  rw [HW.out]
  obtain ⟨zc0, zc1, zc2, zc3, zc4, zc5, zc6, zc7, zc8⟩ := kC.out _ HB_0
  have HSZ0 : Hid (w0.heap.size = w.heap.size + 3) := Lib.hid (by rw [← HW.out]; simp)
  clear zc0 zc1 zc2 zc3 zc4 zc5 zc6 zc7 zc8
  have hBx := Lib.hid (show ∀ u u2 : World, Hid (Below w0.heap.size w0 u) → Below u.heap.size u u2 → Hid (Below w0.heap.size w0 u2) from fun u u2 h1 h2 => Lib.hid (below_ext h1.out h2))
  have hS := Lib.hid (show ∀ u : World, Hid (Below w0.heap.size w0 u) → (u.cell? ⟨w.heap.size + 1, 0, none⟩ = some (.int .i64 o.num) ∧ u.cell? ⟨w.heap.size + 1, 1, none⟩ = some (.string o.rs) ∧ u.cell? ⟨w.heap.size + 1, 2, none⟩ = some (.int .i64 o.E1) ∧ u.cell? ⟨w.heap.size + 1, 3, none⟩ = some (.int .i64 o.E2) ∧ u.cell? ⟨w.heap.size + 1, 4, none⟩ = some (.slice o.A o.na o.ca) ∧ u.cell? ⟨w.heap.size + 1, 5, none⟩ = some (.int .i64 o.C) ∧ u.cell? ⟨w.heap.size + 1, 6, none⟩ = some (.slice o.Z o.nz o.cz) ∧ u.cell? ⟨w.heap.size + 1, 7, none⟩ = some (.slice o.L o.np o.cp) ∧ u.cell? ⟨w.heap.size + 1, 8, none⟩ = some (.int .i64 o.key)) from fun u h1 => by
    obtain ⟨y0, y1, y2, y3, y4, y5, y6, y7, y8⟩ := kC.out _ (Lib.hid h1.out)
    exact ⟨y0, y1, y2, y3, y4, y5, y6, y7, y8⟩)
  have HBA : Hid (Below w0.heap.size w0 w0) := Lib.hid HB_0.out
  have HBD := hBx.out _ _ HBA (Below.refl _ _).drew
  refine wp_region_T (S := fun w' => w'.cell? ⟨w.heap.size + 1, 0, none⟩ = some (.int .i64 o.num) ∧ w'.cell? ⟨w.heap.size + 1, 1, none⟩ = some (.string o.rs) ∧ w'.cell? ⟨w.heap.size + 1, 2, none⟩ = some (.int .i64 o.E1) ∧ w'.cell? ⟨w.heap.size + 1, 3, none⟩ = some (.int .i64 o.E2) ∧ w'.cell? ⟨w.heap.size + 1, 4, none⟩ = some (.slice o.A o.na o.ca) ∧ w'.cell? ⟨w.heap.size + 1, 5, none⟩ = some (.int .i64 o.C) ∧ w'.cell? ⟨w.heap.size + 1, 6, none⟩ = some (.slice o.Z o.nz o.cz) ∧ w'.cell? ⟨w.heap.size + 1, 7, none⟩ = some (.slice o.L o.np o.cp) ∧ w'.cell? ⟨w.heap.size + 1, 8, none⟩ = some (.int .i64 o.key)) (E := [7]) (by kernel_rfl) (hS.out _ HBD) (fun hHeld => ?_)
  obtain ⟨wD, hwD⟩ : ∃ u, w0.drew = u := ⟨_, rfl⟩
  rw [hwD] at HBD hHeld ⊢
  have HSZD : Hid (w0.heap.size ≤ wD.heap.size) := Lib.hid (by rw [← hwD]; exact Nat.le_refl _)
  clear hwD
  refine tkV 0 ?_
  try simp only [qq1, qq2, qq3, Act.put, qq4, qq5, qq6]
  refine tkV 2 ?_
  try simp only [qq1, qq2, qq3, Act.put, qq4, qq5, qq6]
  refine wpT_frame (fun T a0 hT ha0 => ?_)
  clear hHeld
  have G1_3_4_5_6 : ∀ (cO : Ic) (gL : Nat) (u : World), (Hid (Below w0.heap.size w0 u)) → (Hid (ItS w0.heap.size u (oIt o) cO)) → (Hid (u.heap[gL]? = some (.cells #[.int .i64 2, .int .i64 0, .slice (some ⟨w.heap.size, 0, none⟩) 32 32, .slice none 0 0, .int .i64 cO.kind, .int .i64 cO.n, .slice cO.B cO.nb cO.cb, .slice cO.L cO.nl cO.cl] 67))) → (Hid (w0.heap.size ≤ gL)) → T 1 #[true, true, true, true, true, true, true, false] (((((a0.put (some 6) (.agg #[.int .i64 2, .int .i64 (0), .slice (some ⟨w.heap.size, 0, none⟩) 32 32, .slice none 0 0])).put (some 8) (.agg #[.int .i64 cO.kind, .int .i64 cO.n, .slice cO.B cO.nb cO.cb, .slice cO.L cO.nl cO.cl])).put (some 9) (.slice (some ⟨gL, 0, none⟩) 2 2)).put (some 10) (.agg #[.int .i64 3, .int .i64 (0), .slice none 0 0, .slice (some ⟨gL, 0, none⟩) 2 2])).put (some 11) (.agg (arr .u8 RR))) u := by
    intro cO gL u FB HO FL FLl
    have hHeld := hS.out _ FB
    rw [hT, ha0]
    try simp only [qq1, qq2, qq3, Act.put, qq4, qq5, qq6]
    have HE_w0 := Lib.hid FB.out
    have FNIL := kRB.out _ (Lib.hid FB.out)
    refine wpT_pass (i := 7) (by kernel_rfl) (by simp) rfl (fun K hK => ?_)
    rw [show (if Region.wanted _ _ = true then _ else _ : Prop) = _ from if_pos rfl]
    refine wp_store_row 42 _ _ rfl (w.heap.size + 2) (arr .u8 RR) rfl rfl 42 _ FNIL.out (hash_info HRL.out) (arrs_sz (l := zer 32) rfl HRL.out) (arr_one _) ?_
    refine hK.out _ _ ?_
    clear hK K
    try simp only [qq1, qq2, qq3, Act.put, qq4, qq5, qq6]
    refine wpT_done (by kernel_rfl) ?_ _
    have hbF := below_setRow' (below_ext HBw.out FB.out) (cs := arr .u8 RR) (Nat.le_add_right w.heap.size 2)
    have hrw := FNIL.out.setRow (l' := RR)
    go_wp2
    exact bodyPost_ret (v := .agg (arr .u8 RR)) (results_cell1 (p := 4) (ty := 42) rfl _ _ ⟨w.heap.size + 2, 0, none⟩ _ rfl (run_loadVar_row _ _ _ _ _ _ _ hrw Tryd.underlying42 rfl (hash_info HRL.out))) rfl ⟨rfl, hbF⟩
  have G1_3_4_5 : ∀ (cO : Ic) (gL : Nat) (u : World), (Hid (Below w0.heap.size w0 u)) → (Hid (ItS w0.heap.size u (oIt o) cO)) → (Hid (u.heap[gL]? = some (.cells #[.int .i64 2, .int .i64 0, .slice (some ⟨w.heap.size, 0, none⟩) 32 32, .slice none 0 0, .int .i64 cO.kind, .int .i64 cO.n, .slice cO.B cO.nb cO.cb, .slice cO.L cO.nl cO.cl] 67))) → (Hid (w0.heap.size ≤ gL)) → T 2 #[true, true, true, true, true, true, false, false] ((((a0.put (some 6) (.agg #[.int .i64 2, .int .i64 (0), .slice (some ⟨w.heap.size, 0, none⟩) 32 32, .slice none 0 0])).put (some 8) (.agg #[.int .i64 cO.kind, .int .i64 cO.n, .slice cO.B cO.nb cO.cb, .slice cO.L cO.nl cO.cl])).put (some 9) (.slice (some ⟨gL, 0, none⟩) 2 2)).put (some 10) (.agg #[.int .i64 3, .int .i64 (0), .slice none 0 0, .slice (some ⟨gL, 0, none⟩) 2 2])) u := by
    intro cO gL u FB HO FL FLl
    have hHeld := hS.out _ FB
    rw [hT, ha0]
    try simp only [qq1, qq2, qq3, Act.put, qq4, qq5, qq6]
    refine wpT_one (i := 6) (by kernel_rfl) rfl (fun K hK => ?_)
    go_simp
    have hit : ItR u (lIt h o) (Ic.mk 3 0 none 0 0 (some ⟨gL, 0, none⟩) 2 2) := itr_blk (fun k => match k with | 0 => icByt (some ⟨w.heap.size, 0, none⟩) 32 32 | _ => cO) FL.out rfl (fun k hk => by
        rcases (show k = 0 ∨ k = 1 by omega) with rfl | rfl <;> exact ⟨rfl, rfl, rfl, rfl⟩) (fun k hk => by
        rcases (show k = 0 ∨ k = 1 by omega) with rfl | rfl
        · exact itr_byt (kHB.out _ (Lib.hid FB.out)).out.sk hl.out
        · exact HO.out.it)
    refine (tagI_any tagTl (by decide) (by decide) (lIt h o) (Ic.mk 3 0 none 0 0 (some ⟨gL, 0, none⟩) 2 2) HFIT HLEN _ (kD.out _ (Lib.hid FB.out)) (Lib.hid hit)).mono ?_
    rintro e wB ⟨rfl, hq⟩
    clear hit
    rw [HRR.1]
    have FB2 := hBx.out _ _ FB hq
    refine hK.out _ _ ?_ (fun hHeld => ?_)
    · exact hS.out _ FB2
    clear hK K hHeld
    try simp only [qq1, qq2, qq3, Act.put, qq4, qq5, qq6]
    have hG := G1_3_4_5_6 cO gL wB FB2 (Lib.hid (HO.out.kept hq)) (Lib.hid (blk_below FL.out hq)) (FLl)
    rw [hT, ha0] at hG
    (try simp only [qq1, qq2, qq3, Act.put, qq4, qq5, qq6] at hG)
    exact hG
  have G1_3_4 : ∀ (cO : Ic) (gL : Nat) (u : World), (Hid (Below w0.heap.size w0 u)) → (Hid (ItS w0.heap.size u (oIt o) cO)) → (Hid (u.heap[gL]? = some (.cells #[.int .i64 2, .int .i64 0, .slice (some ⟨w.heap.size, 0, none⟩) 32 32, .slice none 0 0, .int .i64 cO.kind, .int .i64 cO.n, .slice cO.B cO.nb cO.cb, .slice cO.L cO.nl cO.cl] 67))) → (Hid (w0.heap.size ≤ gL)) → T 3 #[true, true, true, true, true, false, false, false] (((a0.put (some 6) (.agg #[.int .i64 2, .int .i64 (0), .slice (some ⟨w.heap.size, 0, none⟩) 32 32, .slice none 0 0])).put (some 8) (.agg #[.int .i64 cO.kind, .int .i64 cO.n, .slice cO.B cO.nb cO.cb, .slice cO.L cO.nl cO.cl])).put (some 9) (.slice (some ⟨gL, 0, none⟩) 2 2)) u := by
    intro cO gL u FB HO FL FLl
    have hHeld := hS.out _ FB
    rw [hT, ha0]
    try simp only [qq1, qq2, qq3, Act.put, qq4, qq5, qq6]
    refine wpT_one (i := 5) (by kernel_rfl) rfl (fun K hK => ?_)
    go_simp
    refine (list_it (some ⟨gL, 0, none⟩) 2 2 _).mono ?_
    rintro e wB ⟨rfl, hq⟩
    have FB2 := hBx.out _ _ FB hq
    refine hK.out _ _ ?_ (fun hHeld => ?_)
    · exact hS.out _ FB2
    clear hK K hHeld
    try simp only [qq1, qq2, qq3, Act.put, qq4, qq5, qq6]
    have hG := G1_3_4_5 cO gL wB FB2 (Lib.hid (HO.out.kept hq)) (Lib.hid (blk_below FL.out hq)) (FLl)
    rw [hT, ha0] at hG
    (try simp only [qq1, qq2, qq3, Act.put, qq4, qq5, qq6] at hG)
    exact hG
  have G1_3 : ∀ (cO : Ic) (u : World), (Hid (Below w0.heap.size w0 u)) → (Hid (ItS w0.heap.size u (oIt o) cO)) → T 4 #[true, true, true, true, false, false, false, false] ((a0.put (some 6) (.agg #[.int .i64 2, .int .i64 (0), .slice (some ⟨w.heap.size, 0, none⟩) 32 32, .slice none 0 0])).put (some 8) (.agg #[.int .i64 cO.kind, .int .i64 cO.n, .slice cO.B cO.nb cO.cb, .slice cO.L cO.nl cO.cl])) u := by
    intro cO u FB HO
    have hHeld := hS.out _ FB
    rw [hT, ha0]
    try simp only [qq1, qq2, qq3, Act.put, qq4, qq5, qq6]
    refine wpT_one (i := 4) (by kernel_rfl) rfl (fun K hK => ?_)
    go_simp
    have FB2 := hBx.out _ _ FB (below_box0 u (.cells #[.int .i64 2, .int .i64 0, .slice (some ⟨w.heap.size, 0, none⟩) 32 32, .slice none 0 0, .int .i64 cO.kind, .int .i64 cO.n, .slice cO.B cO.nb cO.cb, .slice cO.L cO.nl cO.cl] 67))
    refine hK.out _ _ ?_ (fun hHeld => ?_)
    · exact hS.out _ FB2
    clear hK K hHeld
    try simp only [qq1, qq2, qq3, Act.put, qq4, qq5, qq6]
    have hG := G1_3_4 cO u.heap.size (u.alloc (.cells #[.int .i64 2, .int .i64 0, .slice (some ⟨w.heap.size, 0, none⟩) 32 32, .slice none 0 0, .int .i64 cO.kind, .int .i64 cO.n, .slice cO.B cO.nb cO.cb, .slice cO.L cO.nl cO.cl] 67)) FB2 (Lib.hid (HO.out.kept (below_box0 u (.cells #[.int .i64 2, .int .i64 0, .slice (some ⟨w.heap.size, 0, none⟩) 32 32, .slice none 0 0, .int .i64 cO.kind, .int .i64 cO.n, .slice cO.B cO.nb cO.cb, .slice cO.L cO.nl cO.cl] 67)))) (Lib.hid (heap_alloc_new u _)) (Lib.hid (by have := FB.out.size; omega))
    rw [hT, ha0] at hG
    (try simp only [qq1, qq2, qq3, Act.put, qq4, qq5, qq6] at hG)
    exact hG
  have G1 : ∀  (u : World), (Hid (Below w0.heap.size w0 u)) → T 5 #[true, true, true, false, false, false, false, false] (a0.put (some 6) (.agg #[.int .i64 2, .int .i64 (0), .slice (some ⟨w.heap.size, 0, none⟩) 32 32, .slice none 0 0])) u := by
    intro  u FB
    have hHeld := hS.out _ FB
    rw [hT, ha0]
    try simp only [qq1, qq2, qq3, Act.put, qq4, qq5, qq6]
    refine wpT_one (i := 3) (by kernel_rfl) rfl (fun K hK => ?_)
    go_simp
    refine (item_any o hs _ (kO.out _ (Lib.hid FB.out))).mono ?_
    rintro e wB ⟨cB, rfl, hit, hq⟩
    have FB2 := hBx.out _ _ FB hq
    refine hK.out _ _ ?_ (fun hHeld => ?_)
    · exact hS.out _ FB2
    clear hK K hHeld
    try simp only [qq1, qq2, qq3, Act.put, qq4, qq5, qq6]
    have hG := G1_3 cB wB FB2 (Lib.hid (hit.mono (by have := FB.out.size; omega)))
    rw [hT, ha0] at hG
    (try simp only [qq1, qq2, qq3, Act.put, qq4, qq5, qq6] at hG)
    exact hG
  have G0 : ∀  (u : World), (Hid (Below w0.heap.size w0 u)) → T 6 #[true, false, true, false, false, false, false, false] a0 u := by
    intro  u FB
    have hHeld := hS.out _ FB
    rw [hT, ha0]
    try simp only [qq1, qq2, qq3, Act.put, qq4, qq5, qq6]
    refine wpT_one (i := 1) (by kernel_rfl) rfl (fun K hK => ?_)
    go_simp
    refine (text_it (some ⟨w.heap.size, 0, none⟩) 32 32 _).mono ?_
    rintro e wB ⟨rfl, hq⟩
    have FB2 := hBx.out _ _ FB hq
    refine hK.out _ _ ?_ (fun hHeld => ?_)
    · exact hS.out _ FB2
    clear hK K hHeld
    try simp only [qq1, qq2, qq3, Act.put, qq4, qq5, qq6]
    have hG := G1  wB FB2
    rw [hT, ha0] at hG
    (try simp only [qq1, qq2, qq3, Act.put, qq4, qq5, qq6] at hG)
    exact hG
  exact G0 _ HBD
def hsL (hs : List (List Int)) (k : Nat) : List Int := hs.getD k []
def Hs (w : World) (K : Option Addr) (hs : List (List Int)) : Prop := ∀ k, k < hs.length → ∃ b o, K = some ⟨b, o, none⟩ ∧ (hsL hs k).length = 32 ∧ w.rangeAt b (o + k * 32) ((hsL hs k).map (Value.int .u8))
theorem rangeAt_below {w w' : World} {b o : Nat} {cs : List Value} (h : w.rangeAt b o cs) (hb : Below w.heap.size w w') : w'.rangeAt b o cs := fun j v hj => cell_below (h j v hj) hb
theorem Hs.below {w w' : World} {K : Option Addr} {hs : List (List Int)} (h : Hs w K hs) (hb : Below w.heap.size w w') : Hs w' K hs := fun k hk => by
  obtain ⟨b, o, h1, h2, h3⟩ := h k hk
  exact ⟨b, o, h1, h2, rangeAt_below h3 hb⟩
abbrev tlV (O : Option Addr) (n c : Nat) (K : Option Addr) (m d : Nat) : Value := .agg #[.slice O n c, .slice K m d]
abbrev tlO (O : Option Addr) (n c : Nat) (K : Option Addr) (m d : Nat) : Obj := .cells #[.slice O n c, .slice K m d] 25
def orL (os : List OrdR) (k : Nat) : OrdR := os.getD k noOrd
def hbL (os : List OrdR) : Nat → List Int
  | 0 => zer 32
  | k + 1 => if (orL os k).key = 0 then hbL os k else lnk (hbL os k) (orL os k)
def clN (os : List OrdR) : Nat → Nat
  | 0 => 0
  | k + 1 => clN os k + (if (orL os k).key = 0 then 0 else 1)
def trR (os : List OrdR) (hs : List (List Int)) (n k : Nat) : Bool := ordB (orL os k) && ((orL os k).num == (k : Int)) && ((orL os k).key != 0 || decide (k + 1 = n)) && ((orL os k).key == 0 || (decide (k < hs.length) && (hsL hs k == hbL os (k + 1))))
def trS (os : List OrdR) (hs : List (List Int)) (n : Nat) : Nat → Bool
  | 0 => true
  | k + 1 => trS os hs n k && trR os hs n k
def trlB (os : List OrdR) (hs : List (List Int)) : Bool := decide (os.length ≤ 100) && (trS os hs os.length os.length && (clN os os.length == hs.length))
theorem hbL_len (os : List OrdR) : ∀ k, (hbL os k).length = 32
  | 0 => by simp [hbL, zer]
  | k + 1 => by
    rw [hbL]; split
    · exact hbL_len os k
    · exact lnk_len _ _
theorem zer_b (n : Nat) : bytesB (zer n) = true := by
  simp [bytesB, zer]
theorem hbL_b (os : List OrdR) : ∀ k, bytesB (hbL os k) = true
  | 0 => zer_b 32
  | k + 1 => by
    rw [hbL]; split
    · exact hbL_b os k
    · exact lnk_b _ _
theorem trS_mono {os : List OrdR} {hs : List (List Int)} {n k : Nat} (h : trS os hs n k = false) : ∀ j, k ≤ j → trS os hs n j = false
  | 0, hm => by obtain rfl : k = 0 := by omega
                exact h
  | j + 1, hm => by
    by_cases e : k = j + 1
    · rw [← e]; exact h
    · rw [trS, trS_mono h j (by omega)]; rfl
theorem trl_hit {os : List OrdR} {hs : List (List Int)} {n k : Nat} (hn : os.length = n) (hk : k < n) (h : trR os hs n k = false) : trlB os hs = false := by
  have h1 : trS os hs n n = false := trS_mono (k := k + 1) (by rw [trS, h, Bool.and_false]) n (by omega)
  rw [trlB, hn, h1, Bool.false_and, Bool.and_false]
theorem trS_get {os : List OrdR} {hs : List (List Int)} {n : Nat} : ∀ {k : Nat}, trS os hs n k = true → ∀ j, j < k → trR os hs n j = true
  | 0, _, j, hj => absurd hj (by omega)
  | k + 1, h, j, hj => by
    simp only [trS, Bool.and_eq_true] at h
    by_cases e : j = k
    · subst e; exact h.2
    · exact trS_get h.1 j (by omega)
theorem trR_parts {os : List OrdR} {hs : List (List Int)} {n k : Nat} (h : trR os hs n k = true) : ordB (orL os k) = true ∧ (orL os k).num = (k : Int) ∧ ((orL os k).key = 0 → k + 1 = n) ∧ ((orL os k).key ≠ 0 → k < hs.length ∧ hsL hs k = hbL os (k + 1)) := by
  simp only [trR, Bool.and_eq_true, Bool.or_eq_true, beq_iff_eq, bne_iff_ne, decide_eq_true_eq] at h
  obtain ⟨⟨⟨h1, h2⟩, h3⟩, h4⟩ := h
  exact ⟨h1, h2, fun e => h3.resolve_left (fun h => h e), fun e => h4.resolve_left e⟩
theorem cl_eq {os : List OrdR} {hs : List (List Int)} {n : Nat} : ∀ {k : Nat}, trS os hs n k = true → k < n → clN os k = k
  | 0, _, _ => rfl
  | k + 1, h, hk => by
    have h1 := trR_parts (trS_get h k (by omega))
    have h2 : (orL os k).key ≠ 0 := fun e => by have := h1.2.2.1 e; omega
    simp only [trS, Bool.and_eq_true] at h
    rw [clN, if_neg h2, cl_eq h.1 (by omega)]
theorem ptsB_get {ps : List PartR} : ∀ {n : Nat}, ptsB ps n = true → ∀ k, k < n → prtB ps k = true
  | 0, _, k, hk => absurd hk (by omega)
  | n + 1, h, k, hk => by
    simp only [ptsB, Bool.and_eq_true] at h
    by_cases e : k = n
    · subst e; exact h.2
    · exact ptsB_get h.1 k (by omega)
theorem ordS_of {w : World} {o : OrdR} (h : ordB o = true) (hk : OrdOk w o) : OrdS o := by
  simp only [ordB, rsB, shB, Bool.and_eq_true, decide_eq_true_eq] at h
  obtain ⟨-, -, ⟨r0, r1⟩, ⟨a, z⟩, np, -, hp⟩ := h
  obtain ⟨k1, k2, ⟨k3, -⟩, -, -, k6⟩ := hk
  refine ⟨by omega, by omega, by omega, fun p hpm => ?_, r0, r1⟩
  obtain ⟨j, hj, rfl⟩ := List.getElem_of_mem hpm
  have h1 := ptsB_get hp j (by omega)
  obtain ⟨b, f, -, -, -, -, -, -, l1, l2, -, -⟩ := k6 j hj
  have e : o.ps.getD j noPart = o.ps[j] := by rw [List.getD_eq_getElem?_getD, List.getElem?_eq_getElem hj]; rfl
  rw [e] at l1 l2
  simp only [prtB, shB, Bool.and_eq_true, decide_eq_true_eq, e] at h1
  omega
section
variable {P : Program} (w : World)
theorem all_range_eqH : ∀ (xs ys : List Int), xs.length = ys.length → ((List.range xs.length).all fun i => xs.getD i 0 == ys.getD i 0) = (xs == ys)
  | [], [], _ => rfl
  | x :: xs, y :: ys, h => by
    have ih := all_range_eqH xs ys (by simpa using h)
    rw [List.length_cons, List.range_succ_eq_map, List.all_cons, List.all_map]
    simp only [List.getD_cons_zero, Function.comp_def, List.getD_cons_succ, ih]
    simp [List.cons_beq_cons]
  | [], _ :: _, h => by simp at h
  | _ :: _, [], h => by simp at h
theorem arr_getH {K : IntKind} {l : List Int} {i : Nat} (h : i < l.length) : (arr K l)[i]? = some (.int K (l.getD i 0)) := by
  simp [arr, List.getD, List.getElem?_eq_getElem h]
theorem run_equalIn_arrH (d : Nat) (t e : TypeId) (n : Nat) (ht : P.underlying t = some (.array n e)) (he : P.underlying e = some (.int .u8)) (hsz : ∀ w, (sizeOf e).run P w = .ok 1 w)
    (xs ys : List Int) (hx : xs.length = n) (hy : ys.length = n) :
    (Op.equalIn (d + 2) t (.agg (arr .u8 xs)) (.agg (arr .u8 ys))).run P w = .ok (xs == ys) w := by
  rw [← all_range_eqH xs ys (hx.trans hy.symm), hx, List.range_eq_range', Op.equalIn]
  simp only [Sem.run_bind, run_underlying ht, Result.andThen_ok, hsz, Std.Legacy.Range.forIn_eq_forIn_range', Std.Legacy.Range.size, Nat.sub_zero, Nat.add_sub_cancel, Nat.div_one]
  have hl : ∀ i ∈ List.range' 0 n 1, i < n := fun i hi => by simpa using (List.mem_range'_1.1 hi).2
  generalize List.range' 0 n 1 = l at hl ⊢
  induction l with
  | nil => simp
  | cons i l ih =>
    have hi : i < n := hl i (by simp)
    have px : (Go.part e (arr .u8 xs) (i * 1)).run P w = .ok (.int .u8 (xs.getD i 0)) w := by
      have h1 := arr_getH (K := .u8) (l := xs) (i := i) (by omega)
      simp [Go.part, isAgg, run_underlying he, h1]
    have py : (Go.part e (arr .u8 ys) (i * 1)).run P w = .ok (.int .u8 (ys.getD i 0)) w := by
      have h1 := arr_getH (K := .u8) (l := ys) (i := i) (by omega)
      simp [Go.part, isAgg, run_underlying he, h1]
    have pe : (Op.equalIn (d + 1) e (.int .u8 (xs.getD i 0)) (.int .u8 (ys.getD i 0))).run P w = .ok (xs.getD i 0 == ys.getD i 0) w := run_equalIn_int w d e .u8 .u8 _ _ he
    simp only [List.forIn_cons, Sem.run_bind, px, py, pe, Result.andThen_ok, List.all_cons]
    cases hb : (xs.getD i 0 == ys.getD i 0)
    · simp
    · simp only [Bool.not_true, Bool.false_eq_true, if_false, Sem.run_pure, Result.andThen_ok, Bool.true_and]
      exact ih fun j hj => hl j (by simp [hj])
theorem yields_mid {S : World → Prop} {o : Oper} {a : Act} (ty : TypeId) (x : Operand) (ho : o.op = .load ty x)
    (b f : Nat) (hx : a.eval x = .pointer (some ⟨b, f, none⟩)) (cs : List Value) (d : TypeDesc) (hS : ∀ w, S w → w.rangeAt b f cs)
    (hu : P.underlying ty = some d) (hd : d.isRow = true) (hi : (P.info? ty).map (·.size) = some cs.length) :
    ∀ w, S w → (execOp a.eval o).run P w = .ok (.value (.agg cs.toArray)) w := fun w hw => by
  unfold execOp
  simp only [ho, hx, Instr.loadAt, Instr.sureAddr, Sem.run_bind, Sem.run_pure, Result.andThen_ok, run_loadVar_mid w b f ty cs d (hS w hw) hu hd hi]
end
theorem szU8H (w : World) : (sizeOf 5).run Tryd.prog w = .ok 1 w := by kernel_rfl
theorem noGuardH : Tryd.prog.eqGuardType Tryd.prog.depth 42 = false := by kernel_rfl
theorem yields_neq_hash {S : World → Prop} {o : Oper} {a : Act} (x y : Operand) (t : TypeId) (ho : o.op = .binOp .neq 42 x y t)
    (h h' : List Int) (hl : h.length = 32) (hl' : h'.length = 32) (hx : a.eval x = .agg (arr .u8 h)) (hy : a.eval y = .agg (arr .u8 h')) (r : Bool) (hr : (!(h == h')) = r) :
    ∀ w, S w → (execOp a.eval o).run Tryd.prog w = .ok (.value (.bool r)) w := fun w _ => by
  unfold execOp
  simp only [ho, hx, hy, Sem.run_bind, run_eqGuard_agg (P := Tryd.prog) w .neq 42 x y _ _ noGuardH, run_neq_struct, run_equalIn_arrH (P := Tryd.prog) w 9998 42 5 32 (by kernel_rfl) (by kernel_rfl) szU8H h h' hl hl', hr, Result.andThen_ok]
  rfl
theorem map_size {l : List Int} (h : l.length = 32) : (Tryd.prog.info? 42).map (·.size) = some (l.map (Value.int .u8)).length := infoH.trans (congrArg some (by rw [List.length_map, h]))
theorem stTl (O : Option Addr) (n c : Nat) (K : Option Addr) (m d : Nat) (w : World) : ∃ w0, Hid ((w.alloc (tlO O n c K m d)) = w0) ∧ Hid (Below w.heap.size w w0) ∧ Hid (∀ u : World, Hid (Below w0.heap.size w0 u) → u.cell? ⟨w.heap.size, 0, none⟩ = some (.slice O n c) ∧ u.cell? ⟨w.heap.size, 1, none⟩ = some (.slice K m d)) := by
  obtain ⟨w0, hW⟩ : ∃ W, (w.alloc (tlO O n c K m d)) = W := ⟨_, rfl⟩
  have HBw : Hid (Below w.heap.size w w0) := Lib.hid (by rw [← hW]; exact below_box0 _ _)
  have hc : w0.cell? ⟨w.heap.size, 0, none⟩ = some (.slice O n c) ∧ w0.cell? ⟨w.heap.size, 1, none⟩ = some (.slice K m d) := by rw [← hW]; exact ⟨allocs_cell (by simp) (by rfl), allocs_cell (by simp) (by rfl)⟩
  have kC := Lib.hid (show ∀ u : World, Hid (Below w0.heap.size w0 u) → u.cell? ⟨w.heap.size, 0, none⟩ = some (.slice O n c) ∧ u.cell? ⟨w.heap.size, 1, none⟩ = some (.slice K m d) from fun u h => ⟨cell_below hc.1 h.out, cell_below hc.2 h.out⟩)
  exact ⟨w0, Lib.hid hW, HBw, kC⟩
set_option maxHeartbeats 3200000 in
theorem tval_1 (O : Option Addr) (n c : Nat) (K : Option Addr) (m d : Nat) (h : ¬ n ≤ 100) (hb1 : n ≤ 1000000) (w : World) :
    Calls Tryd.prog 12 #[tlV O n c K m d] w fun e' w' => e' = .returned (.bool false) ∧ Below w.heap.size w w' := by
  have dn : decide ((100 : Int) < (n : Int)) = true := by simp; omega
  obtain ⟨w0, HW, HBw, kC⟩ := stTl O n c K m d w
  have HB_0 : Hid (Below w0.heap.size w0 w0) := Lib.hid (Below.refl _ _)
  go_enter Tryd.func12, Tryd.ntmps12
  go_upto_region 1 with (fail)
  rw [HW.out]
  obtain ⟨zc0, zc1⟩ := kC.out _ HB_0
  have hbF := below_ext HBw.out HB_0.out
  go_wp2
  go_ret
  exact ⟨rfl, hbF⟩
set_option maxHeartbeats 25600000 in
theorem tval_2 (O : Option Addr) (os : List OrdR) (n c : Nat) (K : Option Addr) (hs : List (List Int)) (m d : Nat) (hn : Hid (os.length = n)) (hm : Hid (hs.length = m)) (hI : ∀ k, k < n → OrdI (orL os k)) (hb1 : n ≤ 1000000) (hb2 : m ≤ 1000000) (h100 : n ≤ 100) (r : Bool) (hr : Kp (trlB os hs = r)) (w : World) (hv : Hid (VarsD w)) (hO : Hid (Os w O os)) (hK : Hid (Hs w K hs)) :
    Calls Tryd.prog 12 #[tlV O n c K m d] w fun e' w' => e' = .returned (.bool r) ∧ Below w.heap.size w w' := by
  have dn : decide ((100 : Int) < (n : Int)) = false := by simp; omega
  obtain ⟨w0, HW, HBw, kC⟩ := stTl O n c K m d w
  have kD := Lib.hid (show ∀ u : World, Hid (Below w0.heap.size w0 u) → Hid (VarsD u) from fun u h => Lib.hid ((hv.out.below) (below_ext HBw.out h.out)))
  have kOs := Lib.hid (show ∀ u : World, Hid (Below w0.heap.size w0 u) → Hid (Os u O os) from fun u h => Lib.hid ((hO.out.below) (below_ext HBw.out h.out)))
  have kHs := Lib.hid (show ∀ u : World, Hid (Below w0.heap.size w0 u) → Hid (Hs u K hs) from fun u h => Lib.hid ((hK.out.below) (below_ext HBw.out h.out)))
  have HB_0 : Hid (Below w0.heap.size w0 w0) := Lib.hid (Below.refl _ _)
  clear hv hO hK
  go_enter Tryd.func12, Tryd.ntmps12
  go_upto_region 1 with (fail)
  rw [HW.out]
  obtain ⟨zc0, zc1⟩ := kC.out _ HB_0
  have HBl := HB_0
  have hq0 := below_box0 w0 (.cells #[.int .u8 0, .int .u8 0, .int .u8 0, .int .u8 0, .int .u8 0, .int .u8 0, .int .u8 0, .int .u8 0, .int .u8 0, .int .u8 0, .int .u8 0, .int .u8 0, .int .u8 0, .int .u8 0, .int .u8 0, .int .u8 0, .int .u8 0, .int .u8 0, .int .u8 0, .int .u8 0, .int .u8 0, .int .u8 0, .int .u8 0, .int .u8 0, .int .u8 0, .int .u8 0, .int .u8 0, .int .u8 0, .int .u8 0, .int .u8 0, .int .u8 0, .int .u8 0] 42)
  have HB_1 := Lib.hid (below_ext HB_0.out hq0)
  clear hq0
  obtain ⟨zc0x, zc1x⟩ := kC.out _ HB_1
  go_wp2
  clear zc0 zc1 zc0x zc1x
  obtain ⟨W, hW⟩ : ∃ x, w0.alloc (.cells #[.int .u8 0, .int .u8 0, .int .u8 0, .int .u8 0, .int .u8 0, .int .u8 0, .int .u8 0, .int .u8 0, .int .u8 0, .int .u8 0, .int .u8 0, .int .u8 0, .int .u8 0, .int .u8 0, .int .u8 0, .int .u8 0, .int .u8 0, .int .u8 0, .int .u8 0, .int .u8 0, .int .u8 0, .int .u8 0, .int .u8 0, .int .u8 0, .int .u8 0, .int .u8 0, .int .u8 0, .int .u8 0, .int .u8 0, .int .u8 0, .int .u8 0, .int .u8 0] 42) = x := ⟨_, rfl⟩
  rw [hW] at HB_1
  have HBX := HB_1
  obtain ⟨B, hB⟩ : ∃ x, w0.heap.size = x := ⟨_, rfl⟩
  have HSB : Hid (W.heap.size = B + 1 ∧ w0.heap.size ≤ B) := Lib.hid ⟨by rw [← hW, ← hB]; simp, by rw [← hB]; exact Nat.le_refl _⟩
  have HK0 : Hid (Blk .u8 42 W B (zer 32)) := Lib.hid (by rw [← hW, ← hB, zarrh]; exact Blk.new _ _)
  rw [hW, hB]
  have HSW := Lib.hid hW
  have HSB2 := Lib.hid hB
  clear hW hB HBl
  go_loopw [4, 14] (fun ce i u => ∃ (k : Nat) (h : List Int), k ≤ n ∧ i = .int .i64 k ∧ ce = .int .i64 (clN os k) ∧ Hid (trS os hs n k = true) ∧ Kp (hbL os k = h) ∧ Hid (Blk .u8 42 u B h) ∧ Hid (Below B W u)) (fun _ i _ => n - (intOf i).toNat)
  case atStart => exact ⟨0, zer 32, by omega, rfl, rfl, Lib.hid rfl, ⟨rfl⟩, HK0, Lib.hid (Below.refl _ _)⟩
  case round =>
    obtain ⟨k, h, hk, rfl, rfl, HST, HHB, HBK, HBr⟩ := hrel
    have HBr0 : Hid (Below w0.heap.size w0 wr) := Lib.hid (HBX.out.trans (HBr.out.mono HSB.out.2))
    have HL : Hid (h.length = 32) := Lib.hid (by rw [← HHB.1]; exact hbL_len _ _)
    have HBY : Hid (bytesB h = true) := Lib.hid (by rw [← HHB.1]; exact hbL_b _ _)
    by_cases hlt : k < n
    · skip
      have hkl : k < os.length := by rw [hn.out]; exact hlt
      obtain ⟨b, f, hA, h9, hok⟩ := (kOs.out _ HBr0).out k hkl
      subst hA
      have hoi := hI k hlt
      have hcl : clN os k = k := cl_eq HST.out hlt
      rw [hcl]
      obtain ⟨o, ho⟩ : ∃ o, os.getD k noOrd = o := ⟨_, rfl⟩
      have HPP : Hid (orL os k = o) := Lib.hid ho
      rw [ho] at h9 hok
      have hoi2 : OrdI o := by rw [← ho]; exact hoi
      have HOI := Lib.hid hoi2
      have HOK := Lib.hid hok
      obtain ⟨j0, j1, j2, j3, j4, j5, j6, j7, j8⟩ := h9
      have dw : IntKind.i64.wrap ((n : Int) - 1) = (n : Int) - 1 := IntWalk.i64_in _ (by omega)
      have dw2 : wrap64 ((n : Int) - 1) = (n : Int) - 1 := IntWalk.wrap64_in _ (by omega)
      have HCL := Lib.hid hcl
      clear ho hoi hoi2 hok hkl hcl
      cases hob : ordB o with
      | true =>
        by_cases hnum : o.num = (k : Int)
        · skip
          by_cases hkey : o.key = 0
          · skip
            by_cases hlast : k + 1 = n
            · skip
              have HOB := Lib.hid hob
              have dn1 : (o.num != (k : Int)) = false := by simpa using hnum
              have dk1 : (o.key == 0) = true := by simpa using hkey
              have dl1 : decide ((k : Int) < (n : Int) - 1) = false := by simp; omega
              have HS2 : Hid (trS os hs n (k + 1) = true) := Lib.hid (by rw [trS, HST.out, trR, HPP.out]; simp [hob, hkey, hnum, hlast])
              have HH2 : Kp (hbL os (k + 1) = h) := ⟨by rw [hbL, HPP.out, if_pos hkey]; exact HHB.1⟩
              have HCN : Hid (clN os (k + 1) = k) := Lib.hid (by simp [clN, HPP.out, hkey, HCL.out])
              clear hob hkey hnum hlast
              have HB_wr_1 : Hid (Below wr.heap.size wr wr) := Lib.hid (Below.refl _ _)
              have kOo := Lib.hid (show ∀ u : World, Hid (Below wr.heap.size wr u) → Hid (OrdOk u o) from fun u h => Lib.hid (HOK.out.below h.out))
              have kBK := Lib.hid (show ∀ u : World, Hid (Below wr.heap.size wr u) → Hid (Blk .u8 42 u B h) from fun u h9 => Lib.hid (HBK.out.below h9.out))
              obtain ⟨zc0, zc1⟩ := kC.out _ HBr0
              have hq := below_box0 wr (orO o)
              have HB_2 := Lib.hid (below_ext HBr0.out hq)
              have HB_wr_2 := Lib.hid (below_ext HB_wr_1.out hq)
              have hc : (wr.alloc (orO o)).cell? ⟨wr.heap.size, 0, none⟩ = some (.int .i64 o.num) ∧ (wr.alloc (orO o)).cell? ⟨wr.heap.size, 1, none⟩ = some (.string o.rs) ∧ (wr.alloc (orO o)).cell? ⟨wr.heap.size, 2, none⟩ = some (.int .i64 o.E1) ∧ (wr.alloc (orO o)).cell? ⟨wr.heap.size, 3, none⟩ = some (.int .i64 o.E2) ∧ (wr.alloc (orO o)).cell? ⟨wr.heap.size, 4, none⟩ = some (.slice o.A o.na o.ca) ∧ (wr.alloc (orO o)).cell? ⟨wr.heap.size, 5, none⟩ = some (.int .i64 o.C) ∧ (wr.alloc (orO o)).cell? ⟨wr.heap.size, 6, none⟩ = some (.slice o.Z o.nz o.cz) ∧ (wr.alloc (orO o)).cell? ⟨wr.heap.size, 7, none⟩ = some (.slice o.L o.np o.cp) ∧ (wr.alloc (orO o)).cell? ⟨wr.heap.size, 8, none⟩ = some (.int .i64 o.key) := ⟨allocs_cell rfl (by rfl), allocs_cell rfl (by rfl), allocs_cell rfl (by rfl), allocs_cell rfl (by rfl), allocs_cell rfl (by rfl), allocs_cell rfl (by rfl), allocs_cell rfl (by rfl), allocs_cell rfl (by rfl), allocs_cell rfl (by rfl)⟩
              have HC2 := Lib.hid hc
              clear hq
              obtain ⟨zc0x, zc1x⟩ := kC.out _ HB_2
              obtain ⟨zq0, zq1, zq2, zq3, zq4, zq5, zq6, zq7, zq8⟩ := hc
              go_wp2_with fail
              obtain ⟨w2, hw⟩ : ∃ x, (wr.alloc (orO o)) = x := ⟨_, rfl⟩
              rw [hw] at HC2 HB_2 HB_wr_2 ⊢
              have HSN2 : Hid (w2.heap.size = wr.heap.size + 1) := Lib.hid (by rw [← hw]; simp)
              clear zc0 zc1 zc0x zc1x zq0 zq1 zq2 zq3 zq4 zq5 zq6 zq7 zq8
              clear hw
              have HB_w2_2 : Hid (Below w2.heap.size w2 w2) := Lib.hid (Below.refl _ _)
              have kS := Lib.hid (show ∀ u : World, Hid (Below w2.heap.size w2 u) → u.cell? ⟨wr.heap.size, 0, none⟩ = some (.int .i64 o.num) ∧ u.cell? ⟨wr.heap.size, 1, none⟩ = some (.string o.rs) ∧ u.cell? ⟨wr.heap.size, 2, none⟩ = some (.int .i64 o.E1) ∧ u.cell? ⟨wr.heap.size, 3, none⟩ = some (.int .i64 o.E2) ∧ u.cell? ⟨wr.heap.size, 4, none⟩ = some (.slice o.A o.na o.ca) ∧ u.cell? ⟨wr.heap.size, 5, none⟩ = some (.int .i64 o.C) ∧ u.cell? ⟨wr.heap.size, 6, none⟩ = some (.slice o.Z o.nz o.cz) ∧ u.cell? ⟨wr.heap.size, 7, none⟩ = some (.slice o.L o.np o.cp) ∧ u.cell? ⟨wr.heap.size, 8, none⟩ = some (.int .i64 o.key) from fun u h => ⟨cell_below HC2.out.1 h.out, cell_below HC2.out.2.1 h.out, cell_below HC2.out.2.2.1 h.out, cell_below HC2.out.2.2.2.1 h.out, cell_below HC2.out.2.2.2.2.1 h.out, cell_below HC2.out.2.2.2.2.2.1 h.out, cell_below HC2.out.2.2.2.2.2.2.1 h.out, cell_below HC2.out.2.2.2.2.2.2.2.1 h.out, cell_below HC2.out.2.2.2.2.2.2.2.2 h.out⟩)
              obtain ⟨zc0, zc1⟩ := kC.out _ HB_2
              obtain ⟨kS_0, kS_1, kS_2, kS_3, kS_4, kS_5, kS_6, kS_7, kS_8⟩ := kS.out _ HB_w2_2
              clear j0 j1 j2 j3 j4 j5 j6 j7 j8
              clear zc0 zc1 kS_0 kS_1 kS_2 kS_3 kS_4 kS_5 kS_6 kS_7 kS_8
              obtain ⟨zc0, zc1⟩ := kC.out _ HB_2
              obtain ⟨kS_0, kS_1, kS_2, kS_3, kS_4, kS_5, kS_6, kS_7, kS_8⟩ := kS.out _ HB_w2_2
              go_wp2_with fail
              refine (order_any o true HOB _ (kOo.out _ HB_wr_2)).mono ?_
              rintro e w3 ⟨rfl, hb0⟩
              have HB_3 := Lib.hid (below_ext HB_2.out hb0)
              have HB_wr_3 := Lib.hid (below_ext HB_wr_2.out hb0)
              have HB_w2_3 := Lib.hid (below_ext HB_w2_2.out hb0)
              clear zc0 zc1 kS_0 kS_1 kS_2 kS_3 kS_4 kS_5 kS_6 kS_7 kS_8
              clear hb0
              obtain ⟨zc0, zc1⟩ := kC.out _ HB_3
              obtain ⟨kS_0, kS_1, kS_2, kS_3, kS_4, kS_5, kS_6, kS_7, kS_8⟩ := kS.out _ HB_w2_3
              have HBn : Hid (Below B W w3) := Lib.hid (HBr.out.trans (HB_wr_3.out.mono (by have := HBr.out.size; have := HSB.out.1; omega)))
              have HKn : Hid (Blk .u8 42 w3 B h) := (kBK.out _ HB_wr_3)
              go_wp2
              go_roundw
              case rel => exact ⟨k + 1, h, by omega, by go_num, by rw [HCN.out], HS2, HH2, HKn, HBn⟩
              case measure => simp [intOf]; omega
            · skip
              have HOB := Lib.hid hob
              have dn1 : (o.num != (k : Int)) = false := by simpa using hnum
              have dk1 : (o.key == 0) = true := by simpa using hkey
              have dl1 : decide ((k : Int) < (n : Int) - 1) = true := by simp; omega
              have hl9 : k + 1 ≠ n := hlast
              obtain rfl : r = false := hr.1.symm.trans (trl_hit hn.out hlt (by rw [trR, HPP.out]; simp [hob, hkey, hl9]))
              clear hob hkey hnum hlast hl9
              have HB_wr_1 : Hid (Below wr.heap.size wr wr) := Lib.hid (Below.refl _ _)
              have kOo := Lib.hid (show ∀ u : World, Hid (Below wr.heap.size wr u) → Hid (OrdOk u o) from fun u h => Lib.hid (HOK.out.below h.out))
              have kBK := Lib.hid (show ∀ u : World, Hid (Below wr.heap.size wr u) → Hid (Blk .u8 42 u B h) from fun u h9 => Lib.hid (HBK.out.below h9.out))
              obtain ⟨zc0, zc1⟩ := kC.out _ HBr0
              have hq := below_box0 wr (orO o)
              have HB_2 := Lib.hid (below_ext HBr0.out hq)
              have HB_wr_2 := Lib.hid (below_ext HB_wr_1.out hq)
              have hc : (wr.alloc (orO o)).cell? ⟨wr.heap.size, 0, none⟩ = some (.int .i64 o.num) ∧ (wr.alloc (orO o)).cell? ⟨wr.heap.size, 1, none⟩ = some (.string o.rs) ∧ (wr.alloc (orO o)).cell? ⟨wr.heap.size, 2, none⟩ = some (.int .i64 o.E1) ∧ (wr.alloc (orO o)).cell? ⟨wr.heap.size, 3, none⟩ = some (.int .i64 o.E2) ∧ (wr.alloc (orO o)).cell? ⟨wr.heap.size, 4, none⟩ = some (.slice o.A o.na o.ca) ∧ (wr.alloc (orO o)).cell? ⟨wr.heap.size, 5, none⟩ = some (.int .i64 o.C) ∧ (wr.alloc (orO o)).cell? ⟨wr.heap.size, 6, none⟩ = some (.slice o.Z o.nz o.cz) ∧ (wr.alloc (orO o)).cell? ⟨wr.heap.size, 7, none⟩ = some (.slice o.L o.np o.cp) ∧ (wr.alloc (orO o)).cell? ⟨wr.heap.size, 8, none⟩ = some (.int .i64 o.key) := ⟨allocs_cell rfl (by rfl), allocs_cell rfl (by rfl), allocs_cell rfl (by rfl), allocs_cell rfl (by rfl), allocs_cell rfl (by rfl), allocs_cell rfl (by rfl), allocs_cell rfl (by rfl), allocs_cell rfl (by rfl), allocs_cell rfl (by rfl)⟩
              have HC2 := Lib.hid hc
              clear hq
              obtain ⟨zc0x, zc1x⟩ := kC.out _ HB_2
              obtain ⟨zq0, zq1, zq2, zq3, zq4, zq5, zq6, zq7, zq8⟩ := hc
              go_wp2_with fail
              obtain ⟨w2, hw⟩ : ∃ x, (wr.alloc (orO o)) = x := ⟨_, rfl⟩
              rw [hw] at HC2 HB_2 HB_wr_2 ⊢
              have HSN2 : Hid (w2.heap.size = wr.heap.size + 1) := Lib.hid (by rw [← hw]; simp)
              clear zc0 zc1 zc0x zc1x zq0 zq1 zq2 zq3 zq4 zq5 zq6 zq7 zq8
              clear hw
              have HB_w2_2 : Hid (Below w2.heap.size w2 w2) := Lib.hid (Below.refl _ _)
              have kS := Lib.hid (show ∀ u : World, Hid (Below w2.heap.size w2 u) → u.cell? ⟨wr.heap.size, 0, none⟩ = some (.int .i64 o.num) ∧ u.cell? ⟨wr.heap.size, 1, none⟩ = some (.string o.rs) ∧ u.cell? ⟨wr.heap.size, 2, none⟩ = some (.int .i64 o.E1) ∧ u.cell? ⟨wr.heap.size, 3, none⟩ = some (.int .i64 o.E2) ∧ u.cell? ⟨wr.heap.size, 4, none⟩ = some (.slice o.A o.na o.ca) ∧ u.cell? ⟨wr.heap.size, 5, none⟩ = some (.int .i64 o.C) ∧ u.cell? ⟨wr.heap.size, 6, none⟩ = some (.slice o.Z o.nz o.cz) ∧ u.cell? ⟨wr.heap.size, 7, none⟩ = some (.slice o.L o.np o.cp) ∧ u.cell? ⟨wr.heap.size, 8, none⟩ = some (.int .i64 o.key) from fun u h => ⟨cell_below HC2.out.1 h.out, cell_below HC2.out.2.1 h.out, cell_below HC2.out.2.2.1 h.out, cell_below HC2.out.2.2.2.1 h.out, cell_below HC2.out.2.2.2.2.1 h.out, cell_below HC2.out.2.2.2.2.2.1 h.out, cell_below HC2.out.2.2.2.2.2.2.1 h.out, cell_below HC2.out.2.2.2.2.2.2.2.1 h.out, cell_below HC2.out.2.2.2.2.2.2.2.2 h.out⟩)
              obtain ⟨zc0, zc1⟩ := kC.out _ HB_2
              obtain ⟨kS_0, kS_1, kS_2, kS_3, kS_4, kS_5, kS_6, kS_7, kS_8⟩ := kS.out _ HB_w2_2
              clear j0 j1 j2 j3 j4 j5 j6 j7 j8
              clear zc0 zc1 kS_0 kS_1 kS_2 kS_3 kS_4 kS_5 kS_6 kS_7 kS_8
              obtain ⟨zc0, zc1⟩ := kC.out _ HB_2
              obtain ⟨kS_0, kS_1, kS_2, kS_3, kS_4, kS_5, kS_6, kS_7, kS_8⟩ := kS.out _ HB_w2_2
              go_wp2_with fail
              refine (order_any o true HOB _ (kOo.out _ HB_wr_2)).mono ?_
              rintro e w3 ⟨rfl, hb0⟩
              have HB_3 := Lib.hid (below_ext HB_2.out hb0)
              have HB_wr_3 := Lib.hid (below_ext HB_wr_2.out hb0)
              have HB_w2_3 := Lib.hid (below_ext HB_w2_2.out hb0)
              clear zc0 zc1 kS_0 kS_1 kS_2 kS_3 kS_4 kS_5 kS_6 kS_7 kS_8
              clear hb0
              obtain ⟨zc0, zc1⟩ := kC.out _ HB_3
              obtain ⟨kS_0, kS_1, kS_2, kS_3, kS_4, kS_5, kS_6, kS_7, kS_8⟩ := kS.out _ HB_w2_3
              have hbF := below_ext HBw.out HB_3.out
              go_wp2
              go_ret
              exact ⟨rfl, hbF⟩
          · skip
            by_cases hkm : m ≤ k
            · skip
              have HOB := Lib.hid hob
              have dn1 : (o.num != (k : Int)) = false := by simpa using hnum
              have dk1 : (o.key == 0) = false := by simpa using hkey
              obtain ⟨RR, hRR⟩ : ∃ x, lnk h o = x := ⟨_, rfl⟩
              have HRR : Kp (lnk h o = RR) := ⟨hRR⟩
              have HRL : Hid (RR.length = 32) := Lib.hid (by rw [← hRR]; exact lnk_len _ _)
              clear hRR
              have HH2 : Kp (hbL os (k + 1) = RR) := ⟨by rw [hbL, HPP.out, if_neg hkey, HHB.1]; exact HRR.1⟩
              have dm1 : decide ((m : Int) ≤ (k : Int)) = true := by simp; omega
              obtain rfl : r = false := hr.1.symm.trans (trl_hit hn.out hlt (by rw [trR, HPP.out]; simp [hob, hkey, hnum, hm.out]; omega))
              clear hob hkey hnum
              have HB_wr_1 : Hid (Below wr.heap.size wr wr) := Lib.hid (Below.refl _ _)
              have kOo := Lib.hid (show ∀ u : World, Hid (Below wr.heap.size wr u) → Hid (OrdOk u o) from fun u h => Lib.hid (HOK.out.below h.out))
              have kBK := Lib.hid (show ∀ u : World, Hid (Below wr.heap.size wr u) → Hid (Blk .u8 42 u B h) from fun u h9 => Lib.hid (HBK.out.below h9.out))
              obtain ⟨zc0, zc1⟩ := kC.out _ HBr0
              have hq := below_box0 wr (orO o)
              have HB_2 := Lib.hid (below_ext HBr0.out hq)
              have HB_wr_2 := Lib.hid (below_ext HB_wr_1.out hq)
              have hc : (wr.alloc (orO o)).cell? ⟨wr.heap.size, 0, none⟩ = some (.int .i64 o.num) ∧ (wr.alloc (orO o)).cell? ⟨wr.heap.size, 1, none⟩ = some (.string o.rs) ∧ (wr.alloc (orO o)).cell? ⟨wr.heap.size, 2, none⟩ = some (.int .i64 o.E1) ∧ (wr.alloc (orO o)).cell? ⟨wr.heap.size, 3, none⟩ = some (.int .i64 o.E2) ∧ (wr.alloc (orO o)).cell? ⟨wr.heap.size, 4, none⟩ = some (.slice o.A o.na o.ca) ∧ (wr.alloc (orO o)).cell? ⟨wr.heap.size, 5, none⟩ = some (.int .i64 o.C) ∧ (wr.alloc (orO o)).cell? ⟨wr.heap.size, 6, none⟩ = some (.slice o.Z o.nz o.cz) ∧ (wr.alloc (orO o)).cell? ⟨wr.heap.size, 7, none⟩ = some (.slice o.L o.np o.cp) ∧ (wr.alloc (orO o)).cell? ⟨wr.heap.size, 8, none⟩ = some (.int .i64 o.key) := ⟨allocs_cell rfl (by rfl), allocs_cell rfl (by rfl), allocs_cell rfl (by rfl), allocs_cell rfl (by rfl), allocs_cell rfl (by rfl), allocs_cell rfl (by rfl), allocs_cell rfl (by rfl), allocs_cell rfl (by rfl), allocs_cell rfl (by rfl)⟩
              have HC2 := Lib.hid hc
              clear hq
              obtain ⟨zc0x, zc1x⟩ := kC.out _ HB_2
              obtain ⟨zq0, zq1, zq2, zq3, zq4, zq5, zq6, zq7, zq8⟩ := hc
              go_wp2_with fail
              obtain ⟨w2, hw⟩ : ∃ x, (wr.alloc (orO o)) = x := ⟨_, rfl⟩
              rw [hw] at HC2 HB_2 HB_wr_2 ⊢
              have HSN2 : Hid (w2.heap.size = wr.heap.size + 1) := Lib.hid (by rw [← hw]; simp)
              clear zc0 zc1 zc0x zc1x zq0 zq1 zq2 zq3 zq4 zq5 zq6 zq7 zq8
              clear hw
              have HB_w2_2 : Hid (Below w2.heap.size w2 w2) := Lib.hid (Below.refl _ _)
              have kS := Lib.hid (show ∀ u : World, Hid (Below w2.heap.size w2 u) → u.cell? ⟨wr.heap.size, 0, none⟩ = some (.int .i64 o.num) ∧ u.cell? ⟨wr.heap.size, 1, none⟩ = some (.string o.rs) ∧ u.cell? ⟨wr.heap.size, 2, none⟩ = some (.int .i64 o.E1) ∧ u.cell? ⟨wr.heap.size, 3, none⟩ = some (.int .i64 o.E2) ∧ u.cell? ⟨wr.heap.size, 4, none⟩ = some (.slice o.A o.na o.ca) ∧ u.cell? ⟨wr.heap.size, 5, none⟩ = some (.int .i64 o.C) ∧ u.cell? ⟨wr.heap.size, 6, none⟩ = some (.slice o.Z o.nz o.cz) ∧ u.cell? ⟨wr.heap.size, 7, none⟩ = some (.slice o.L o.np o.cp) ∧ u.cell? ⟨wr.heap.size, 8, none⟩ = some (.int .i64 o.key) from fun u h => ⟨cell_below HC2.out.1 h.out, cell_below HC2.out.2.1 h.out, cell_below HC2.out.2.2.1 h.out, cell_below HC2.out.2.2.2.1 h.out, cell_below HC2.out.2.2.2.2.1 h.out, cell_below HC2.out.2.2.2.2.2.1 h.out, cell_below HC2.out.2.2.2.2.2.2.1 h.out, cell_below HC2.out.2.2.2.2.2.2.2.1 h.out, cell_below HC2.out.2.2.2.2.2.2.2.2 h.out⟩)
              obtain ⟨zc0, zc1⟩ := kC.out _ HB_2
              obtain ⟨kS_0, kS_1, kS_2, kS_3, kS_4, kS_5, kS_6, kS_7, kS_8⟩ := kS.out _ HB_w2_2
              clear j0 j1 j2 j3 j4 j5 j6 j7 j8
              clear zc0 zc1 kS_0 kS_1 kS_2 kS_3 kS_4 kS_5 kS_6 kS_7 kS_8
              obtain ⟨zc0, zc1⟩ := kC.out _ HB_2
              obtain ⟨kS_0, kS_1, kS_2, kS_3, kS_4, kS_5, kS_6, kS_7, kS_8⟩ := kS.out _ HB_w2_2
              go_wp2_with fail
              refine (order_any o true HOB _ (kOo.out _ HB_wr_2)).mono ?_
              rintro e w3 ⟨rfl, hb0⟩
              have HB_3 := Lib.hid (below_ext HB_2.out hb0)
              have HB_wr_3 := Lib.hid (below_ext HB_wr_2.out hb0)
              have HB_w2_3 := Lib.hid (below_ext HB_w2_2.out hb0)
              clear zc0 zc1 kS_0 kS_1 kS_2 kS_3 kS_4 kS_5 kS_6 kS_7 kS_8
              clear hb0
              obtain ⟨zc0, zc1⟩ := kC.out _ HB_3
              obtain ⟨kS_0, kS_1, kS_2, kS_3, kS_4, kS_5, kS_6, kS_7, kS_8⟩ := kS.out _ HB_w2_3
              have HBk := (kBK.out _ HB_wr_3)
              go_wp2_with ((with_reducible show wpList _ _ _ (⟨some 44, _, _, _, _, _⟩ :: _) _ _); refine wpList_load_row rfl 42 _ rfl B rfl _ _ _ _ HBk.out Tryd.underlying42 rfl (hash_info HL.out) ?_)
              refine (link_any h HL HBY o HOI (ordS_of HOB.out HOK.out) _ (kD.out _ HB_3) (kOo.out _ HB_wr_3)).mono ?_
              rintro e w4 ⟨rfl, hb0⟩
              rw [HRR.1]
              have HB_4 := Lib.hid (below_ext HB_3.out hb0)
              have HB_wr_4 := Lib.hid (below_ext HB_wr_3.out hb0)
              have HB_w2_4 := Lib.hid (below_ext HB_w2_3.out hb0)
              clear zc0 zc1 kS_0 kS_1 kS_2 kS_3 kS_4 kS_5 kS_6 kS_7 kS_8
              clear hb0
              obtain ⟨zc0, zc1⟩ := kC.out _ HB_4
              obtain ⟨kS_0, kS_1, kS_2, kS_3, kS_4, kS_5, kS_6, kS_7, kS_8⟩ := kS.out _ HB_w2_4
              have HBk2 := (kBK.out _ HB_wr_4)
              obtain ⟨wz, hwz⟩ : ∃ x, w4.setRow B (arr .u8 RR) = x := ⟨_, rfl⟩
              have HBzB : Hid (Below B W wz) := Lib.hid (by rw [← hwz]; exact below_setRow' (HBr.out.trans (HB_wr_4.out.mono (by have := HBr.out.size; have := HSB.out.1; omega))) (Nat.le_refl _))
              have HBz0 : Hid (Below w0.heap.size w0 wz) := Lib.hid (HBX.out.trans (HBzB.out.mono HSB.out.2))
              have HBKz : Hid (Blk .u8 42 wz B RR) := Lib.hid (by rw [← hwz]; exact HBk2.out.setRow)
              go_upto_region 12 with ((with_reducible show wpList _ _ _ (⟨none, _, _, _, _, _⟩ :: _) _ _); refine wpList_store_row rfl 42 _ _ rfl B (arr .u8 RR) rfl rfl _ _ HBk2.out (hash_info HRL.out) (arrs_sz HL.out HRL.out) (arr_one _) ?_)
              clear zc0 zc1 kS_0 kS_1 kS_2 kS_3 kS_4 kS_5 kS_6 kS_7 kS_8
              rw [hwz]
              clear hwz
              have hSz := Lib.hid (show ∀ u : World, Below wz.heap.size wz u → (u.cell? ⟨w.heap.size, 0, none⟩ = some (.slice (some ⟨b, f, none⟩) n c) ∧ u.cell? ⟨w.heap.size, 1, none⟩ = some (.slice K m d) ∧ Hid (Below wz.heap.size wz u)) from fun u h9 => by
                obtain ⟨y0, y1⟩ := kC.out _ HBz0
                exact ⟨cell_below y0 h9, cell_below y1 h9, Lib.hid h9⟩)
              refine wp_region_T (S := fun w' => w'.cell? ⟨w.heap.size, 0, none⟩ = some (.slice (some ⟨b, f, none⟩) n c) ∧ w'.cell? ⟨w.heap.size, 1, none⟩ = some (.slice K m d) ∧ Hid (Below wz.heap.size wz w')) (E := []) (by kernel_rfl) (hSz.out _ ((Below.refl _ _).drew)) (fun hHeld => ?_)
              refine tkV 0 ?_
              try simp only [qq1, qq2, qq3, Act.put, qq4, qq5, qq6]
              refine tkV 1 ?_
              try simp only [qq1, qq2, qq3, Act.put, qq4, qq5, qq6]
              refine tkV 2 ?_
              try simp only [qq1, qq2, qq3, Act.put, qq4, qq5, qq6]
              refine tkV 3 ?_
              try simp only [qq1, qq2, qq3, Act.put, qq4, qq5, qq6]
              refine tkV 4 ?_
              try simp only [qq1, qq2, qq3, Act.put, qq4, qq5, qq6]
              refine tkV 5 ?_
              try simp only [qq1, qq2, qq3, Act.put, qq4, qq5, qq6]
              refine tkU 6 ?_
              try simp only [qq1, qq2, qq3, Act.put, qq4, qq5, qq6]
              refine tkU 7 ?_
              try simp only [qq1, qq2, qq3, Act.put, qq4, qq5, qq6]
              refine tkU 8 ?_
              try simp only [qq1, qq2, qq3, Act.put, qq4, qq5, qq6]
              refine tkU 9 ?_
              try simp only [qq1, qq2, qq3, Act.put, qq4, qq5, qq6]
              refine tkU 10 ?_
              try simp only [qq1, qq2, qq3, Act.put, qq4, qq5, qq6]
              refine tkU 11 ?_
              try simp only [qq1, qq2, qq3, Act.put, qq4, qq5, qq6]
              refine tkU 12 ?_
              try simp only [qq1, qq2, qq3, Act.put, qq4, qq5, qq6]
              refine tkV 13 ?_
              try simp only [qq1, qq2, qq3, Act.put, qq4, qq5, qq6]
              refine wpT_done (by kernel_rfl) ?_ _
              have HBd := hHeld.2.2
              have HB9 : Hid (Below B W wz.drew) := Lib.hid (HBzB.out.trans (HBd.out.mono (by have := HBzB.out.size; have := HSB.out.1; omega)))
              have hbF := below_ext HBw.out (HBX.out.trans (HB9.out.mono HSB.out.2))
              clear hHeld HBd
              go_wp2
              go_ret
              exact ⟨rfl, hbF⟩
            · skip
              cases hrq : (hsL hs k == lnk h o) with
              | true =>
                have HOB := Lib.hid hob
                have dn1 : (o.num != (k : Int)) = false := by simpa using hnum
                have dk1 : (o.key == 0) = false := by simpa using hkey
                obtain ⟨RR, hRR⟩ : ∃ x, lnk h o = x := ⟨_, rfl⟩
                have HRR : Kp (lnk h o = RR) := ⟨hRR⟩
                have HRL : Hid (RR.length = 32) := Lib.hid (by rw [← hRR]; exact lnk_len _ _)
                clear hRR
                have HH2 : Kp (hbL os (k + 1) = RR) := ⟨by rw [hbL, HPP.out, if_neg hkey, HHB.1]; exact HRR.1⟩
                have dm1 : decide ((m : Int) ≤ (k : Int)) = false := by simp; omega
                have hkm2 : k < m := by omega
                obtain ⟨b2, f2, hA2, hl2, hrg2⟩ := (kHs.out _ HBr0).out k (by rw [hm.out]; omega)
                subst hA2
                obtain ⟨hk9, hhk⟩ : ∃ x, hsL hs k = x := ⟨_, rfl⟩
                rw [hhk] at hl2 hrg2
                have HL2 := Lib.hid hl2
                have HRG := Lib.hid hrg2
                have HHK := Lib.hid hhk
                have hhk9 := hhk
                clear hl2 hrg2 hhk
                rw [hhk9, HRR.1] at hrq
                have hbq : (!(hk9 == RR)) = false := by rw [hrq]; rfl
                have HS2 : Hid (trS os hs n (k + 1) = true) := Lib.hid (by rw [trS, HST.out, trR, HPP.out, HH2.1, HHK.out]; simp [hob, hm.out, hrq, hkey, hnum]; omega)
                have HCN : Hid (clN os (k + 1) = k + 1) := Lib.hid (by simp [clN, HPP.out, hkey, HCL.out])
                clear hob hkey hnum hrq hhk9
                have HB_wr_1 : Hid (Below wr.heap.size wr wr) := Lib.hid (Below.refl _ _)
                have kOo := Lib.hid (show ∀ u : World, Hid (Below wr.heap.size wr u) → Hid (OrdOk u o) from fun u h => Lib.hid (HOK.out.below h.out))
                have kBK := Lib.hid (show ∀ u : World, Hid (Below wr.heap.size wr u) → Hid (Blk .u8 42 u B h) from fun u h9 => Lib.hid (HBK.out.below h9.out))
                obtain ⟨zc0, zc1⟩ := kC.out _ HBr0
                have hq := below_box0 wr (orO o)
                have HB_2 := Lib.hid (below_ext HBr0.out hq)
                have HB_wr_2 := Lib.hid (below_ext HB_wr_1.out hq)
                have hc : (wr.alloc (orO o)).cell? ⟨wr.heap.size, 0, none⟩ = some (.int .i64 o.num) ∧ (wr.alloc (orO o)).cell? ⟨wr.heap.size, 1, none⟩ = some (.string o.rs) ∧ (wr.alloc (orO o)).cell? ⟨wr.heap.size, 2, none⟩ = some (.int .i64 o.E1) ∧ (wr.alloc (orO o)).cell? ⟨wr.heap.size, 3, none⟩ = some (.int .i64 o.E2) ∧ (wr.alloc (orO o)).cell? ⟨wr.heap.size, 4, none⟩ = some (.slice o.A o.na o.ca) ∧ (wr.alloc (orO o)).cell? ⟨wr.heap.size, 5, none⟩ = some (.int .i64 o.C) ∧ (wr.alloc (orO o)).cell? ⟨wr.heap.size, 6, none⟩ = some (.slice o.Z o.nz o.cz) ∧ (wr.alloc (orO o)).cell? ⟨wr.heap.size, 7, none⟩ = some (.slice o.L o.np o.cp) ∧ (wr.alloc (orO o)).cell? ⟨wr.heap.size, 8, none⟩ = some (.int .i64 o.key) := ⟨allocs_cell rfl (by rfl), allocs_cell rfl (by rfl), allocs_cell rfl (by rfl), allocs_cell rfl (by rfl), allocs_cell rfl (by rfl), allocs_cell rfl (by rfl), allocs_cell rfl (by rfl), allocs_cell rfl (by rfl), allocs_cell rfl (by rfl)⟩
                have HC2 := Lib.hid hc
                clear hq
                obtain ⟨zc0x, zc1x⟩ := kC.out _ HB_2
                obtain ⟨zq0, zq1, zq2, zq3, zq4, zq5, zq6, zq7, zq8⟩ := hc
                go_wp2_with fail
                obtain ⟨w2, hw⟩ : ∃ x, (wr.alloc (orO o)) = x := ⟨_, rfl⟩
                rw [hw] at HC2 HB_2 HB_wr_2 ⊢
                have HSN2 : Hid (w2.heap.size = wr.heap.size + 1) := Lib.hid (by rw [← hw]; simp)
                clear zc0 zc1 zc0x zc1x zq0 zq1 zq2 zq3 zq4 zq5 zq6 zq7 zq8
                clear hw
                have HB_w2_2 : Hid (Below w2.heap.size w2 w2) := Lib.hid (Below.refl _ _)
                have kS := Lib.hid (show ∀ u : World, Hid (Below w2.heap.size w2 u) → u.cell? ⟨wr.heap.size, 0, none⟩ = some (.int .i64 o.num) ∧ u.cell? ⟨wr.heap.size, 1, none⟩ = some (.string o.rs) ∧ u.cell? ⟨wr.heap.size, 2, none⟩ = some (.int .i64 o.E1) ∧ u.cell? ⟨wr.heap.size, 3, none⟩ = some (.int .i64 o.E2) ∧ u.cell? ⟨wr.heap.size, 4, none⟩ = some (.slice o.A o.na o.ca) ∧ u.cell? ⟨wr.heap.size, 5, none⟩ = some (.int .i64 o.C) ∧ u.cell? ⟨wr.heap.size, 6, none⟩ = some (.slice o.Z o.nz o.cz) ∧ u.cell? ⟨wr.heap.size, 7, none⟩ = some (.slice o.L o.np o.cp) ∧ u.cell? ⟨wr.heap.size, 8, none⟩ = some (.int .i64 o.key) from fun u h => ⟨cell_below HC2.out.1 h.out, cell_below HC2.out.2.1 h.out, cell_below HC2.out.2.2.1 h.out, cell_below HC2.out.2.2.2.1 h.out, cell_below HC2.out.2.2.2.2.1 h.out, cell_below HC2.out.2.2.2.2.2.1 h.out, cell_below HC2.out.2.2.2.2.2.2.1 h.out, cell_below HC2.out.2.2.2.2.2.2.2.1 h.out, cell_below HC2.out.2.2.2.2.2.2.2.2 h.out⟩)
                obtain ⟨zc0, zc1⟩ := kC.out _ HB_2
                obtain ⟨kS_0, kS_1, kS_2, kS_3, kS_4, kS_5, kS_6, kS_7, kS_8⟩ := kS.out _ HB_w2_2
                clear j0 j1 j2 j3 j4 j5 j6 j7 j8
                clear zc0 zc1 kS_0 kS_1 kS_2 kS_3 kS_4 kS_5 kS_6 kS_7 kS_8
                obtain ⟨zc0, zc1⟩ := kC.out _ HB_2
                obtain ⟨kS_0, kS_1, kS_2, kS_3, kS_4, kS_5, kS_6, kS_7, kS_8⟩ := kS.out _ HB_w2_2
                go_wp2_with fail
                refine (order_any o true HOB _ (kOo.out _ HB_wr_2)).mono ?_
                rintro e w3 ⟨rfl, hb0⟩
                have HB_3 := Lib.hid (below_ext HB_2.out hb0)
                have HB_wr_3 := Lib.hid (below_ext HB_wr_2.out hb0)
                have HB_w2_3 := Lib.hid (below_ext HB_w2_2.out hb0)
                clear zc0 zc1 kS_0 kS_1 kS_2 kS_3 kS_4 kS_5 kS_6 kS_7 kS_8
                clear hb0
                obtain ⟨zc0, zc1⟩ := kC.out _ HB_3
                obtain ⟨kS_0, kS_1, kS_2, kS_3, kS_4, kS_5, kS_6, kS_7, kS_8⟩ := kS.out _ HB_w2_3
                have HBk := (kBK.out _ HB_wr_3)
                go_wp2_with ((with_reducible show wpList _ _ _ (⟨some 44, _, _, _, _, _⟩ :: _) _ _); refine wpList_load_row rfl 42 _ rfl B rfl _ _ _ _ HBk.out Tryd.underlying42 rfl (hash_info HL.out) ?_)
                refine (link_any h HL HBY o HOI (ordS_of HOB.out HOK.out) _ (kD.out _ HB_3) (kOo.out _ HB_wr_3)).mono ?_
                rintro e w4 ⟨rfl, hb0⟩
                rw [HRR.1]
                have HB_4 := Lib.hid (below_ext HB_3.out hb0)
                have HB_wr_4 := Lib.hid (below_ext HB_wr_3.out hb0)
                have HB_w2_4 := Lib.hid (below_ext HB_w2_3.out hb0)
                clear zc0 zc1 kS_0 kS_1 kS_2 kS_3 kS_4 kS_5 kS_6 kS_7 kS_8
                clear hb0
                obtain ⟨zc0, zc1⟩ := kC.out _ HB_4
                obtain ⟨kS_0, kS_1, kS_2, kS_3, kS_4, kS_5, kS_6, kS_7, kS_8⟩ := kS.out _ HB_w2_4
                have HBk2 := (kBK.out _ HB_wr_4)
                obtain ⟨wz, hwz⟩ : ∃ x, w4.setRow B (arr .u8 RR) = x := ⟨_, rfl⟩
                have HBzB : Hid (Below B W wz) := Lib.hid (by rw [← hwz]; exact below_setRow' (HBr.out.trans (HB_wr_4.out.mono (by have := HBr.out.size; have := HSB.out.1; omega))) (Nat.le_refl _))
                have HBz0 : Hid (Below w0.heap.size w0 wz) := Lib.hid (HBX.out.trans (HBzB.out.mono HSB.out.2))
                have HBKz : Hid (Blk .u8 42 wz B RR) := Lib.hid (by rw [← hwz]; exact HBk2.out.setRow)
                go_upto_region 12 with ((with_reducible show wpList _ _ _ (⟨none, _, _, _, _, _⟩ :: _) _ _); refine wpList_store_row rfl 42 _ _ rfl B (arr .u8 RR) rfl rfl _ _ HBk2.out (hash_info HRL.out) (arrs_sz HL.out HRL.out) (arr_one _) ?_)
                clear zc0 zc1 kS_0 kS_1 kS_2 kS_3 kS_4 kS_5 kS_6 kS_7 kS_8
                rw [hwz]
                clear hwz
                have hSz := Lib.hid (show ∀ u : World, Below wz.heap.size wz u → (u.cell? ⟨w.heap.size, 0, none⟩ = some (.slice (some ⟨b, f, none⟩) n c) ∧ u.cell? ⟨w.heap.size, 1, none⟩ = some (.slice (some ⟨b2, f2, none⟩) m d) ∧ Hid (Below wz.heap.size wz u)) from fun u h9 => by
                  obtain ⟨y0, y1⟩ := kC.out _ HBz0
                  exact ⟨cell_below y0 h9, cell_below y1 h9, Lib.hid h9⟩)
                have HHz : Hid (wz.rangeAt b2 (f2 + k * 32) (hk9.map (Value.int .u8))) := Lib.hid (by
                  obtain ⟨b3, f3, e3, _, hr3⟩ := ((kHs.out _ HBz0)).out k (by rw [hm.out]; omega)
                  cases e3
                  rwa [HHK.out] at hr3)
                refine wp_region_T (S := fun w' => w'.cell? ⟨w.heap.size, 0, none⟩ = some (.slice (some ⟨b, f, none⟩) n c) ∧ w'.cell? ⟨w.heap.size, 1, none⟩ = some (.slice (some ⟨b2, f2, none⟩) m d) ∧ Hid (Below wz.heap.size wz w')) (E := []) (by kernel_rfl) (hSz.out _ ((Below.refl _ _).drew)) (fun hHeld => ?_)
                refine tkV 0 ?_
                try simp only [qq1, qq2, qq3, Act.put, qq4, qq5, qq6]
                refine tkV 1 ?_
                try simp only [qq1, qq2, qq3, Act.put, qq4, qq5, qq6]
                refine tkV 2 ?_
                try simp only [qq1, qq2, qq3, Act.put, qq4, qq5, qq6]
                refine tkV 3 ?_
                try simp only [qq1, qq2, qq3, Act.put, qq4, qq5, qq6]
                refine tkV 4 ?_
                try simp only [qq1, qq2, qq3, Act.put, qq4, qq5, qq6]
                refine tkV 5 ?_
                try simp only [qq1, qq2, qq3, Act.put, qq4, qq5, qq6]
                refine tkV 6 ?_
                try simp only [qq1, qq2, qq3, Act.put, qq4, qq5, qq6]
                refine tkV 7 ?_
                try simp only [qq1, qq2, qq3, Act.put, qq4, qq5, qq6]
                refine tkV 8 ?_
                try simp only [qq1, qq2, qq3, Act.put, qq4, qq5, qq6]
                refine tkV 9 ?_
                try simp only [qq1, qq2, qq3, Act.put, qq4, qq5, qq6]
                refine wpT_take (i := 10) (oi := _) (v := (.agg (arr .u8 hk9))) rfl (by kernel_rfl) (by kernel_rfl) (by kernel_rfl) (by kernel_rfl) (fun _ _ _ h => h) (Or.inl ⟨by rfl, yields_mid 42 _ rfl b2 (f2 + k * 32) rfl (hk9.map (Value.int .u8)) _ (fun _ hq => rangeAt_below HHz.out hq.2.2.out) Tryd.underlying42 rfl (map_size HL2.out)⟩) (by assumption) ?_
                try simp only [qq1, qq2, qq3, Act.put, qq4, qq5, qq6]
                refine wpT_take (i := 11) (oi := _) (v := (.agg (arr .u8 RR))) rfl (by kernel_rfl) (by kernel_rfl) (by kernel_rfl) (by kernel_rfl) (fun _ _ _ h => h) (Or.inl ⟨by rfl, yields_row 42 _ rfl B rfl _ _ _ _ (fun _ hq => HBKz.out.below hq.2.2.out) Tryd.underlying42 rfl (hash_info HRL.out)⟩) (by assumption) ?_
                try simp only [qq1, qq2, qq3, Act.put, qq4, qq5, qq6]
                refine wpT_take (i := 12) (oi := _) (v := (.bool false)) rfl (by kernel_rfl) (by kernel_rfl) (by kernel_rfl) (by kernel_rfl) (fun _ _ _ h => h) (Or.inl ⟨by rfl, yields_neq_hash _ _ _ rfl hk9 RR HL2.out HRL.out rfl rfl _ hbq⟩) (by assumption) ?_
                try simp only [qq1, qq2, qq3, Act.put, qq4, qq5, qq6]
                refine tkV 13 ?_
                try simp only [qq1, qq2, qq3, Act.put, qq4, qq5, qq6]
                refine wpT_done (by kernel_rfl) ?_ _
                have HBd := hHeld.2.2
                have HB9 : Hid (Below B W wz.drew) := Lib.hid (HBzB.out.trans (HBd.out.mono (by have := HBzB.out.size; have := HSB.out.1; omega)))
                have HK9 : Hid (Blk .u8 42 wz.drew B RR) := Lib.hid (HBKz.out.below HBd.out)
                clear hHeld HBd
                go_wp2
                go_roundw
                case rel => exact ⟨k + 1, RR, by omega, by go_num, by rw [HCN.out]; go_num, HS2, HH2, HK9, HB9⟩
                case measure => simp [intOf]; omega
              | false =>
                have HOB := Lib.hid hob
                have dn1 : (o.num != (k : Int)) = false := by simpa using hnum
                have dk1 : (o.key == 0) = false := by simpa using hkey
                obtain ⟨RR, hRR⟩ : ∃ x, lnk h o = x := ⟨_, rfl⟩
                have HRR : Kp (lnk h o = RR) := ⟨hRR⟩
                have HRL : Hid (RR.length = 32) := Lib.hid (by rw [← hRR]; exact lnk_len _ _)
                clear hRR
                have HH2 : Kp (hbL os (k + 1) = RR) := ⟨by rw [hbL, HPP.out, if_neg hkey, HHB.1]; exact HRR.1⟩
                have dm1 : decide ((m : Int) ≤ (k : Int)) = false := by simp; omega
                have hkm2 : k < m := by omega
                obtain ⟨b2, f2, hA2, hl2, hrg2⟩ := (kHs.out _ HBr0).out k (by rw [hm.out]; omega)
                subst hA2
                obtain ⟨hk9, hhk⟩ : ∃ x, hsL hs k = x := ⟨_, rfl⟩
                rw [hhk] at hl2 hrg2
                have HL2 := Lib.hid hl2
                have HRG := Lib.hid hrg2
                have HHK := Lib.hid hhk
                have hhk9 := hhk
                clear hl2 hrg2 hhk
                rw [hhk9, HRR.1] at hrq
                have hbq : (!(hk9 == RR)) = true := by rw [hrq]; rfl
                obtain rfl : r = false := hr.1.symm.trans (trl_hit hn.out hlt (by rw [trR, HPP.out]; simp [hob, hkey, hnum, hm.out, HHK.out, HH2.1, hrq]))
                clear hob hkey hnum hrq hhk9
                have HB_wr_1 : Hid (Below wr.heap.size wr wr) := Lib.hid (Below.refl _ _)
                have kOo := Lib.hid (show ∀ u : World, Hid (Below wr.heap.size wr u) → Hid (OrdOk u o) from fun u h => Lib.hid (HOK.out.below h.out))
                have kBK := Lib.hid (show ∀ u : World, Hid (Below wr.heap.size wr u) → Hid (Blk .u8 42 u B h) from fun u h9 => Lib.hid (HBK.out.below h9.out))
                obtain ⟨zc0, zc1⟩ := kC.out _ HBr0
                have hq := below_box0 wr (orO o)
                have HB_2 := Lib.hid (below_ext HBr0.out hq)
                have HB_wr_2 := Lib.hid (below_ext HB_wr_1.out hq)
                have hc : (wr.alloc (orO o)).cell? ⟨wr.heap.size, 0, none⟩ = some (.int .i64 o.num) ∧ (wr.alloc (orO o)).cell? ⟨wr.heap.size, 1, none⟩ = some (.string o.rs) ∧ (wr.alloc (orO o)).cell? ⟨wr.heap.size, 2, none⟩ = some (.int .i64 o.E1) ∧ (wr.alloc (orO o)).cell? ⟨wr.heap.size, 3, none⟩ = some (.int .i64 o.E2) ∧ (wr.alloc (orO o)).cell? ⟨wr.heap.size, 4, none⟩ = some (.slice o.A o.na o.ca) ∧ (wr.alloc (orO o)).cell? ⟨wr.heap.size, 5, none⟩ = some (.int .i64 o.C) ∧ (wr.alloc (orO o)).cell? ⟨wr.heap.size, 6, none⟩ = some (.slice o.Z o.nz o.cz) ∧ (wr.alloc (orO o)).cell? ⟨wr.heap.size, 7, none⟩ = some (.slice o.L o.np o.cp) ∧ (wr.alloc (orO o)).cell? ⟨wr.heap.size, 8, none⟩ = some (.int .i64 o.key) := ⟨allocs_cell rfl (by rfl), allocs_cell rfl (by rfl), allocs_cell rfl (by rfl), allocs_cell rfl (by rfl), allocs_cell rfl (by rfl), allocs_cell rfl (by rfl), allocs_cell rfl (by rfl), allocs_cell rfl (by rfl), allocs_cell rfl (by rfl)⟩
                have HC2 := Lib.hid hc
                clear hq
                obtain ⟨zc0x, zc1x⟩ := kC.out _ HB_2
                obtain ⟨zq0, zq1, zq2, zq3, zq4, zq5, zq6, zq7, zq8⟩ := hc
                go_wp2_with fail
                obtain ⟨w2, hw⟩ : ∃ x, (wr.alloc (orO o)) = x := ⟨_, rfl⟩
                rw [hw] at HC2 HB_2 HB_wr_2 ⊢
                have HSN2 : Hid (w2.heap.size = wr.heap.size + 1) := Lib.hid (by rw [← hw]; simp)
                clear zc0 zc1 zc0x zc1x zq0 zq1 zq2 zq3 zq4 zq5 zq6 zq7 zq8
                clear hw
                have HB_w2_2 : Hid (Below w2.heap.size w2 w2) := Lib.hid (Below.refl _ _)
                have kS := Lib.hid (show ∀ u : World, Hid (Below w2.heap.size w2 u) → u.cell? ⟨wr.heap.size, 0, none⟩ = some (.int .i64 o.num) ∧ u.cell? ⟨wr.heap.size, 1, none⟩ = some (.string o.rs) ∧ u.cell? ⟨wr.heap.size, 2, none⟩ = some (.int .i64 o.E1) ∧ u.cell? ⟨wr.heap.size, 3, none⟩ = some (.int .i64 o.E2) ∧ u.cell? ⟨wr.heap.size, 4, none⟩ = some (.slice o.A o.na o.ca) ∧ u.cell? ⟨wr.heap.size, 5, none⟩ = some (.int .i64 o.C) ∧ u.cell? ⟨wr.heap.size, 6, none⟩ = some (.slice o.Z o.nz o.cz) ∧ u.cell? ⟨wr.heap.size, 7, none⟩ = some (.slice o.L o.np o.cp) ∧ u.cell? ⟨wr.heap.size, 8, none⟩ = some (.int .i64 o.key) from fun u h => ⟨cell_below HC2.out.1 h.out, cell_below HC2.out.2.1 h.out, cell_below HC2.out.2.2.1 h.out, cell_below HC2.out.2.2.2.1 h.out, cell_below HC2.out.2.2.2.2.1 h.out, cell_below HC2.out.2.2.2.2.2.1 h.out, cell_below HC2.out.2.2.2.2.2.2.1 h.out, cell_below HC2.out.2.2.2.2.2.2.2.1 h.out, cell_below HC2.out.2.2.2.2.2.2.2.2 h.out⟩)
                obtain ⟨zc0, zc1⟩ := kC.out _ HB_2
                obtain ⟨kS_0, kS_1, kS_2, kS_3, kS_4, kS_5, kS_6, kS_7, kS_8⟩ := kS.out _ HB_w2_2
                clear j0 j1 j2 j3 j4 j5 j6 j7 j8
                clear zc0 zc1 kS_0 kS_1 kS_2 kS_3 kS_4 kS_5 kS_6 kS_7 kS_8
                obtain ⟨zc0, zc1⟩ := kC.out _ HB_2
                obtain ⟨kS_0, kS_1, kS_2, kS_3, kS_4, kS_5, kS_6, kS_7, kS_8⟩ := kS.out _ HB_w2_2
                go_wp2_with fail
                refine (order_any o true HOB _ (kOo.out _ HB_wr_2)).mono ?_
                rintro e w3 ⟨rfl, hb0⟩
                have HB_3 := Lib.hid (below_ext HB_2.out hb0)
                have HB_wr_3 := Lib.hid (below_ext HB_wr_2.out hb0)
                have HB_w2_3 := Lib.hid (below_ext HB_w2_2.out hb0)
                clear zc0 zc1 kS_0 kS_1 kS_2 kS_3 kS_4 kS_5 kS_6 kS_7 kS_8
                clear hb0
                obtain ⟨zc0, zc1⟩ := kC.out _ HB_3
                obtain ⟨kS_0, kS_1, kS_2, kS_3, kS_4, kS_5, kS_6, kS_7, kS_8⟩ := kS.out _ HB_w2_3
                have HBk := (kBK.out _ HB_wr_3)
                go_wp2_with ((with_reducible show wpList _ _ _ (⟨some 44, _, _, _, _, _⟩ :: _) _ _); refine wpList_load_row rfl 42 _ rfl B rfl _ _ _ _ HBk.out Tryd.underlying42 rfl (hash_info HL.out) ?_)
                refine (link_any h HL HBY o HOI (ordS_of HOB.out HOK.out) _ (kD.out _ HB_3) (kOo.out _ HB_wr_3)).mono ?_
                rintro e w4 ⟨rfl, hb0⟩
                rw [HRR.1]
                have HB_4 := Lib.hid (below_ext HB_3.out hb0)
                have HB_wr_4 := Lib.hid (below_ext HB_wr_3.out hb0)
                have HB_w2_4 := Lib.hid (below_ext HB_w2_3.out hb0)
                clear zc0 zc1 kS_0 kS_1 kS_2 kS_3 kS_4 kS_5 kS_6 kS_7 kS_8
                clear hb0
                obtain ⟨zc0, zc1⟩ := kC.out _ HB_4
                obtain ⟨kS_0, kS_1, kS_2, kS_3, kS_4, kS_5, kS_6, kS_7, kS_8⟩ := kS.out _ HB_w2_4
                have HBk2 := (kBK.out _ HB_wr_4)
                obtain ⟨wz, hwz⟩ : ∃ x, w4.setRow B (arr .u8 RR) = x := ⟨_, rfl⟩
                have HBzB : Hid (Below B W wz) := Lib.hid (by rw [← hwz]; exact below_setRow' (HBr.out.trans (HB_wr_4.out.mono (by have := HBr.out.size; have := HSB.out.1; omega))) (Nat.le_refl _))
                have HBz0 : Hid (Below w0.heap.size w0 wz) := Lib.hid (HBX.out.trans (HBzB.out.mono HSB.out.2))
                have HBKz : Hid (Blk .u8 42 wz B RR) := Lib.hid (by rw [← hwz]; exact HBk2.out.setRow)
                go_upto_region 12 with ((with_reducible show wpList _ _ _ (⟨none, _, _, _, _, _⟩ :: _) _ _); refine wpList_store_row rfl 42 _ _ rfl B (arr .u8 RR) rfl rfl _ _ HBk2.out (hash_info HRL.out) (arrs_sz HL.out HRL.out) (arr_one _) ?_)
                clear zc0 zc1 kS_0 kS_1 kS_2 kS_3 kS_4 kS_5 kS_6 kS_7 kS_8
                rw [hwz]
                clear hwz
                have hSz := Lib.hid (show ∀ u : World, Below wz.heap.size wz u → (u.cell? ⟨w.heap.size, 0, none⟩ = some (.slice (some ⟨b, f, none⟩) n c) ∧ u.cell? ⟨w.heap.size, 1, none⟩ = some (.slice (some ⟨b2, f2, none⟩) m d) ∧ Hid (Below wz.heap.size wz u)) from fun u h9 => by
                  obtain ⟨y0, y1⟩ := kC.out _ HBz0
                  exact ⟨cell_below y0 h9, cell_below y1 h9, Lib.hid h9⟩)
                have HHz : Hid (wz.rangeAt b2 (f2 + k * 32) (hk9.map (Value.int .u8))) := Lib.hid (by
                  obtain ⟨b3, f3, e3, _, hr3⟩ := ((kHs.out _ HBz0)).out k (by rw [hm.out]; omega)
                  cases e3
                  rwa [HHK.out] at hr3)
                refine wp_region_T (S := fun w' => w'.cell? ⟨w.heap.size, 0, none⟩ = some (.slice (some ⟨b, f, none⟩) n c) ∧ w'.cell? ⟨w.heap.size, 1, none⟩ = some (.slice (some ⟨b2, f2, none⟩) m d) ∧ Hid (Below wz.heap.size wz w')) (E := []) (by kernel_rfl) (hSz.out _ ((Below.refl _ _).drew)) (fun hHeld => ?_)
                refine tkV 0 ?_
                try simp only [qq1, qq2, qq3, Act.put, qq4, qq5, qq6]
                refine tkV 1 ?_
                try simp only [qq1, qq2, qq3, Act.put, qq4, qq5, qq6]
                refine tkV 2 ?_
                try simp only [qq1, qq2, qq3, Act.put, qq4, qq5, qq6]
                refine tkV 3 ?_
                try simp only [qq1, qq2, qq3, Act.put, qq4, qq5, qq6]
                refine tkV 4 ?_
                try simp only [qq1, qq2, qq3, Act.put, qq4, qq5, qq6]
                refine tkV 5 ?_
                try simp only [qq1, qq2, qq3, Act.put, qq4, qq5, qq6]
                refine tkV 6 ?_
                try simp only [qq1, qq2, qq3, Act.put, qq4, qq5, qq6]
                refine tkV 7 ?_
                try simp only [qq1, qq2, qq3, Act.put, qq4, qq5, qq6]
                refine tkV 8 ?_
                try simp only [qq1, qq2, qq3, Act.put, qq4, qq5, qq6]
                refine tkV 9 ?_
                try simp only [qq1, qq2, qq3, Act.put, qq4, qq5, qq6]
                refine wpT_take (i := 10) (oi := _) (v := (.agg (arr .u8 hk9))) rfl (by kernel_rfl) (by kernel_rfl) (by kernel_rfl) (by kernel_rfl) (fun _ _ _ h => h) (Or.inl ⟨by rfl, yields_mid 42 _ rfl b2 (f2 + k * 32) rfl (hk9.map (Value.int .u8)) _ (fun _ hq => rangeAt_below HHz.out hq.2.2.out) Tryd.underlying42 rfl (map_size HL2.out)⟩) (by assumption) ?_
                try simp only [qq1, qq2, qq3, Act.put, qq4, qq5, qq6]
                refine wpT_take (i := 11) (oi := _) (v := (.agg (arr .u8 RR))) rfl (by kernel_rfl) (by kernel_rfl) (by kernel_rfl) (by kernel_rfl) (fun _ _ _ h => h) (Or.inl ⟨by rfl, yields_row 42 _ rfl B rfl _ _ _ _ (fun _ hq => HBKz.out.below hq.2.2.out) Tryd.underlying42 rfl (hash_info HRL.out)⟩) (by assumption) ?_
                try simp only [qq1, qq2, qq3, Act.put, qq4, qq5, qq6]
                refine wpT_take (i := 12) (oi := _) (v := (.bool true)) rfl (by kernel_rfl) (by kernel_rfl) (by kernel_rfl) (by kernel_rfl) (fun _ _ _ h => h) (Or.inl ⟨by rfl, yields_neq_hash _ _ _ rfl hk9 RR HL2.out HRL.out rfl rfl _ hbq⟩) (by assumption) ?_
                try simp only [qq1, qq2, qq3, Act.put, qq4, qq5, qq6]
                refine tkV 13 ?_
                try simp only [qq1, qq2, qq3, Act.put, qq4, qq5, qq6]
                refine wpT_done (by kernel_rfl) ?_ _
                have HBd := hHeld.2.2
                have HB9 : Hid (Below B W wz.drew) := Lib.hid (HBzB.out.trans (HBd.out.mono (by have := HBzB.out.size; have := HSB.out.1; omega)))
                have hbF := below_ext HBw.out (HBX.out.trans (HB9.out.mono HSB.out.2))
                clear hHeld HBd
                go_wp2
                go_ret
                exact ⟨rfl, hbF⟩
        · skip
          have HOB := Lib.hid hob
          have dn1 : (o.num != (k : Int)) = true := by simpa using hnum
          obtain rfl : r = false := hr.1.symm.trans (trl_hit hn.out hlt (by rw [trR, HPP.out]; simp [hob, hnum]))
          clear hob hnum
          have HB_wr_1 : Hid (Below wr.heap.size wr wr) := Lib.hid (Below.refl _ _)
          have kOo := Lib.hid (show ∀ u : World, Hid (Below wr.heap.size wr u) → Hid (OrdOk u o) from fun u h => Lib.hid (HOK.out.below h.out))
          have kBK := Lib.hid (show ∀ u : World, Hid (Below wr.heap.size wr u) → Hid (Blk .u8 42 u B h) from fun u h9 => Lib.hid (HBK.out.below h9.out))
          obtain ⟨zc0, zc1⟩ := kC.out _ HBr0
          have hq := below_box0 wr (orO o)
          have HB_2 := Lib.hid (below_ext HBr0.out hq)
          have HB_wr_2 := Lib.hid (below_ext HB_wr_1.out hq)
          have hc : (wr.alloc (orO o)).cell? ⟨wr.heap.size, 0, none⟩ = some (.int .i64 o.num) ∧ (wr.alloc (orO o)).cell? ⟨wr.heap.size, 1, none⟩ = some (.string o.rs) ∧ (wr.alloc (orO o)).cell? ⟨wr.heap.size, 2, none⟩ = some (.int .i64 o.E1) ∧ (wr.alloc (orO o)).cell? ⟨wr.heap.size, 3, none⟩ = some (.int .i64 o.E2) ∧ (wr.alloc (orO o)).cell? ⟨wr.heap.size, 4, none⟩ = some (.slice o.A o.na o.ca) ∧ (wr.alloc (orO o)).cell? ⟨wr.heap.size, 5, none⟩ = some (.int .i64 o.C) ∧ (wr.alloc (orO o)).cell? ⟨wr.heap.size, 6, none⟩ = some (.slice o.Z o.nz o.cz) ∧ (wr.alloc (orO o)).cell? ⟨wr.heap.size, 7, none⟩ = some (.slice o.L o.np o.cp) ∧ (wr.alloc (orO o)).cell? ⟨wr.heap.size, 8, none⟩ = some (.int .i64 o.key) := ⟨allocs_cell rfl (by rfl), allocs_cell rfl (by rfl), allocs_cell rfl (by rfl), allocs_cell rfl (by rfl), allocs_cell rfl (by rfl), allocs_cell rfl (by rfl), allocs_cell rfl (by rfl), allocs_cell rfl (by rfl), allocs_cell rfl (by rfl)⟩
          have HC2 := Lib.hid hc
          clear hq
          obtain ⟨zc0x, zc1x⟩ := kC.out _ HB_2
          obtain ⟨zq0, zq1, zq2, zq3, zq4, zq5, zq6, zq7, zq8⟩ := hc
          go_wp2_with fail
          obtain ⟨w2, hw⟩ : ∃ x, (wr.alloc (orO o)) = x := ⟨_, rfl⟩
          rw [hw] at HC2 HB_2 HB_wr_2 ⊢
          have HSN2 : Hid (w2.heap.size = wr.heap.size + 1) := Lib.hid (by rw [← hw]; simp)
          clear zc0 zc1 zc0x zc1x zq0 zq1 zq2 zq3 zq4 zq5 zq6 zq7 zq8
          clear hw
          have HB_w2_2 : Hid (Below w2.heap.size w2 w2) := Lib.hid (Below.refl _ _)
          have kS := Lib.hid (show ∀ u : World, Hid (Below w2.heap.size w2 u) → u.cell? ⟨wr.heap.size, 0, none⟩ = some (.int .i64 o.num) ∧ u.cell? ⟨wr.heap.size, 1, none⟩ = some (.string o.rs) ∧ u.cell? ⟨wr.heap.size, 2, none⟩ = some (.int .i64 o.E1) ∧ u.cell? ⟨wr.heap.size, 3, none⟩ = some (.int .i64 o.E2) ∧ u.cell? ⟨wr.heap.size, 4, none⟩ = some (.slice o.A o.na o.ca) ∧ u.cell? ⟨wr.heap.size, 5, none⟩ = some (.int .i64 o.C) ∧ u.cell? ⟨wr.heap.size, 6, none⟩ = some (.slice o.Z o.nz o.cz) ∧ u.cell? ⟨wr.heap.size, 7, none⟩ = some (.slice o.L o.np o.cp) ∧ u.cell? ⟨wr.heap.size, 8, none⟩ = some (.int .i64 o.key) from fun u h => ⟨cell_below HC2.out.1 h.out, cell_below HC2.out.2.1 h.out, cell_below HC2.out.2.2.1 h.out, cell_below HC2.out.2.2.2.1 h.out, cell_below HC2.out.2.2.2.2.1 h.out, cell_below HC2.out.2.2.2.2.2.1 h.out, cell_below HC2.out.2.2.2.2.2.2.1 h.out, cell_below HC2.out.2.2.2.2.2.2.2.1 h.out, cell_below HC2.out.2.2.2.2.2.2.2.2 h.out⟩)
          obtain ⟨zc0, zc1⟩ := kC.out _ HB_2
          obtain ⟨kS_0, kS_1, kS_2, kS_3, kS_4, kS_5, kS_6, kS_7, kS_8⟩ := kS.out _ HB_w2_2
          clear j0 j1 j2 j3 j4 j5 j6 j7 j8
          clear zc0 zc1 kS_0 kS_1 kS_2 kS_3 kS_4 kS_5 kS_6 kS_7 kS_8
          obtain ⟨zc0, zc1⟩ := kC.out _ HB_2
          obtain ⟨kS_0, kS_1, kS_2, kS_3, kS_4, kS_5, kS_6, kS_7, kS_8⟩ := kS.out _ HB_w2_2
          go_wp2_with fail
          refine (order_any o true HOB _ (kOo.out _ HB_wr_2)).mono ?_
          rintro e w3 ⟨rfl, hb0⟩
          have HB_3 := Lib.hid (below_ext HB_2.out hb0)
          have HB_wr_3 := Lib.hid (below_ext HB_wr_2.out hb0)
          have HB_w2_3 := Lib.hid (below_ext HB_w2_2.out hb0)
          clear zc0 zc1 kS_0 kS_1 kS_2 kS_3 kS_4 kS_5 kS_6 kS_7 kS_8
          clear hb0
          obtain ⟨zc0, zc1⟩ := kC.out _ HB_3
          obtain ⟨kS_0, kS_1, kS_2, kS_3, kS_4, kS_5, kS_6, kS_7, kS_8⟩ := kS.out _ HB_w2_3
          have hbF := below_ext HBw.out HB_3.out
          go_wp2
          go_ret
          exact ⟨rfl, hbF⟩
      | false =>
        have HOB := Lib.hid hob
        obtain rfl : r = false := hr.1.symm.trans (trl_hit hn.out hlt (by rw [trR, HPP.out]; simp [hob]))
        clear hob
        have HB_wr_1 : Hid (Below wr.heap.size wr wr) := Lib.hid (Below.refl _ _)
        have kOo := Lib.hid (show ∀ u : World, Hid (Below wr.heap.size wr u) → Hid (OrdOk u o) from fun u h => Lib.hid (HOK.out.below h.out))
        have kBK := Lib.hid (show ∀ u : World, Hid (Below wr.heap.size wr u) → Hid (Blk .u8 42 u B h) from fun u h9 => Lib.hid (HBK.out.below h9.out))
        obtain ⟨zc0, zc1⟩ := kC.out _ HBr0
        have hq := below_box0 wr (orO o)
        have HB_2 := Lib.hid (below_ext HBr0.out hq)
        have HB_wr_2 := Lib.hid (below_ext HB_wr_1.out hq)
        have hc : (wr.alloc (orO o)).cell? ⟨wr.heap.size, 0, none⟩ = some (.int .i64 o.num) ∧ (wr.alloc (orO o)).cell? ⟨wr.heap.size, 1, none⟩ = some (.string o.rs) ∧ (wr.alloc (orO o)).cell? ⟨wr.heap.size, 2, none⟩ = some (.int .i64 o.E1) ∧ (wr.alloc (orO o)).cell? ⟨wr.heap.size, 3, none⟩ = some (.int .i64 o.E2) ∧ (wr.alloc (orO o)).cell? ⟨wr.heap.size, 4, none⟩ = some (.slice o.A o.na o.ca) ∧ (wr.alloc (orO o)).cell? ⟨wr.heap.size, 5, none⟩ = some (.int .i64 o.C) ∧ (wr.alloc (orO o)).cell? ⟨wr.heap.size, 6, none⟩ = some (.slice o.Z o.nz o.cz) ∧ (wr.alloc (orO o)).cell? ⟨wr.heap.size, 7, none⟩ = some (.slice o.L o.np o.cp) ∧ (wr.alloc (orO o)).cell? ⟨wr.heap.size, 8, none⟩ = some (.int .i64 o.key) := ⟨allocs_cell rfl (by rfl), allocs_cell rfl (by rfl), allocs_cell rfl (by rfl), allocs_cell rfl (by rfl), allocs_cell rfl (by rfl), allocs_cell rfl (by rfl), allocs_cell rfl (by rfl), allocs_cell rfl (by rfl), allocs_cell rfl (by rfl)⟩
        have HC2 := Lib.hid hc
        clear hq
        obtain ⟨zc0x, zc1x⟩ := kC.out _ HB_2
        obtain ⟨zq0, zq1, zq2, zq3, zq4, zq5, zq6, zq7, zq8⟩ := hc
        go_wp2_with fail
        obtain ⟨w2, hw⟩ : ∃ x, (wr.alloc (orO o)) = x := ⟨_, rfl⟩
        rw [hw] at HC2 HB_2 HB_wr_2 ⊢
        have HSN2 : Hid (w2.heap.size = wr.heap.size + 1) := Lib.hid (by rw [← hw]; simp)
        clear zc0 zc1 zc0x zc1x zq0 zq1 zq2 zq3 zq4 zq5 zq6 zq7 zq8
        clear hw
        have HB_w2_2 : Hid (Below w2.heap.size w2 w2) := Lib.hid (Below.refl _ _)
        have kS := Lib.hid (show ∀ u : World, Hid (Below w2.heap.size w2 u) → u.cell? ⟨wr.heap.size, 0, none⟩ = some (.int .i64 o.num) ∧ u.cell? ⟨wr.heap.size, 1, none⟩ = some (.string o.rs) ∧ u.cell? ⟨wr.heap.size, 2, none⟩ = some (.int .i64 o.E1) ∧ u.cell? ⟨wr.heap.size, 3, none⟩ = some (.int .i64 o.E2) ∧ u.cell? ⟨wr.heap.size, 4, none⟩ = some (.slice o.A o.na o.ca) ∧ u.cell? ⟨wr.heap.size, 5, none⟩ = some (.int .i64 o.C) ∧ u.cell? ⟨wr.heap.size, 6, none⟩ = some (.slice o.Z o.nz o.cz) ∧ u.cell? ⟨wr.heap.size, 7, none⟩ = some (.slice o.L o.np o.cp) ∧ u.cell? ⟨wr.heap.size, 8, none⟩ = some (.int .i64 o.key) from fun u h => ⟨cell_below HC2.out.1 h.out, cell_below HC2.out.2.1 h.out, cell_below HC2.out.2.2.1 h.out, cell_below HC2.out.2.2.2.1 h.out, cell_below HC2.out.2.2.2.2.1 h.out, cell_below HC2.out.2.2.2.2.2.1 h.out, cell_below HC2.out.2.2.2.2.2.2.1 h.out, cell_below HC2.out.2.2.2.2.2.2.2.1 h.out, cell_below HC2.out.2.2.2.2.2.2.2.2 h.out⟩)
        obtain ⟨zc0, zc1⟩ := kC.out _ HB_2
        obtain ⟨kS_0, kS_1, kS_2, kS_3, kS_4, kS_5, kS_6, kS_7, kS_8⟩ := kS.out _ HB_w2_2
        clear j0 j1 j2 j3 j4 j5 j6 j7 j8
        clear zc0 zc1 kS_0 kS_1 kS_2 kS_3 kS_4 kS_5 kS_6 kS_7 kS_8
        obtain ⟨zc0, zc1⟩ := kC.out _ HB_2
        obtain ⟨kS_0, kS_1, kS_2, kS_3, kS_4, kS_5, kS_6, kS_7, kS_8⟩ := kS.out _ HB_w2_2
        go_wp2_with fail
        refine (order_any o false HOB _ (kOo.out _ HB_wr_2)).mono ?_
        rintro e w3 ⟨rfl, hb0⟩
        have HB_3 := Lib.hid (below_ext HB_2.out hb0)
        have HB_wr_3 := Lib.hid (below_ext HB_wr_2.out hb0)
        have HB_w2_3 := Lib.hid (below_ext HB_w2_2.out hb0)
        clear zc0 zc1 kS_0 kS_1 kS_2 kS_3 kS_4 kS_5 kS_6 kS_7 kS_8
        clear hb0
        obtain ⟨zc0, zc1⟩ := kC.out _ HB_3
        obtain ⟨kS_0, kS_1, kS_2, kS_3, kS_4, kS_5, kS_6, kS_7, kS_8⟩ := kS.out _ HB_w2_3
        have hbF := below_ext HBw.out HB_3.out
        go_wp2
        go_ret
        exact ⟨rfl, hbF⟩
    · skip
      obtain rfl : k = n := by omega
      have hre : ((((clN os k : Nat) : Int)) == ((m : Nat) : Int)) = r := by
        rw [← hr.1, trlB, hn.out, HST.out, hm.out, decide_eq_true h100]; simp only [Bool.true_and]
        rw [Bool.eq_iff_iff]; simp; omega
      have hre2 : ((((m : Nat) : Int)) == ((clN os k : Nat) : Int)) = r := by rw [← hre, BEq.comm]
      obtain ⟨q, hq⟩ : ∃ q, clN os k = q := ⟨_, rfl⟩
      rw [hq] at hre hre2 ⊢
      clear hq
      obtain ⟨zc0, zc1⟩ := kC.out _ HBr0
      have hbF := below_ext HBw.out HBr0.out
      go_wp2
      go_ret
      exact ⟨by first | rfl | rw [hre] | rw [hre2], hbF⟩
theorem tval_any (O : Option Addr) (os : List OrdR) (n c : Nat) (K : Option Addr) (hs : List (List Int)) (m d : Nat) (hn : Hid (os.length = n)) (hm : Hid (hs.length = m)) (hI : ∀ k, k < n → OrdI (orL os k)) (hb1 : n ≤ 1000000) (hb2 : m ≤ 1000000) (r : Bool) (hr : Kp (trlB os hs = r)) (w : World) (hv : Hid (VarsD w)) (hO : Hid (Os w O os)) (hK : Hid (Hs w K hs)) :
    Calls Tryd.prog 12 #[tlV O n c K m d] w fun e' w' => e' = .returned (.bool r) ∧ Below w.heap.size w w' := by
  by_cases h : n ≤ 100
  · exact tval_2 O os n c K hs m d hn hm hI hb1 hb2 h r hr w hv hO hK
  · obtain rfl : r = false := hr.1.symm.trans (by rw [trlB, hn.out, decide_eq_false h]; rfl)
    exact tval_1 O n c K m d h hb1 w
end Go.Proofs.YtofkihlpbfcdkaaDoor
namespace Go.Proofs.YtofkihlpbfcdkaaDoor
open Go.ChangeShapes Go.WideShapes Go.ChangeAt Go.RowKit SpM
set_option linter.unusedVariables false
theorem cellsOrd : Tryd.prog.cellsOf 46 = 9 := by kernel_rfl
theorem cellsTrl : Tryd.prog.cellsOf 25 = 2 := by kernel_rfl
theorem cellsStr : Tryd.prog.cellsOf 9 = 1 := by kernel_rfl
theorem cellsSlP : Tryd.prog.cellsOf 44 = 1 := by kernel_rfl
theorem cellsSlO : Tryd.prog.cellsOf 22 = 1 := by kernel_rfl
theorem cellsSlH : Tryd.prog.cellsOf 23 = 1 := by kernel_rfl
section
variable {H : Type} {enc : TypeId × Value → H} {w : World} {base : Nat} {held : Bool}
theorem i64_wf {x : Int} (h : (Lit.int .i64 x).wf = true) : i64 x := by
  simp [Lit.wf, IntKind.min, IntKind.max, IntKind.signed, IntKind.bits] at h
  unfold i64; omega
theorem open_rowB {n : Nat} {cs : List Value} {x : DataW H × List MemPlace} (h : DataW.trod enc Tryd.prog w base (fun _ => true) held n 26 cs = some x) :
    ∃ R : Row, cs = [R.val] ∧ RowOk w R ∧ ∀ x ∈ R.xs, i64 x := by
  rcases open_ints Tryd.underlying26 Tryd.underlying3 cellsInt h with ⟨rfl, _⟩ | ⟨a, len, cap, zs, rfl, _, hlc, _, hz, _, hcell, hw⟩
  · exact ⟨noRow, rfl, ⟨rfl, fun k hk => absurd hk (by simp)⟩, fun x hx => absurd hx (by simp)⟩
  · simp at hz
    refine ⟨⟨some a, len, cap, zs.take len⟩, rfl, ⟨by show (zs.take len).length = len; rw [List.length_take]; omega, fun k hk => ?_⟩, fun x hx => i64_wf (hw x (List.mem_of_mem_take hx))⟩
    dsimp only at hk ⊢
    rw [List.length_take] at hk
    obtain ⟨b, off, rfl, hc⟩ := ints_at hcell (by omega)
    refine ⟨b, off, rfl, ?_⟩
    rw [hc k (by omega), List.getD_eq_getElem?_getD, List.getD_eq_getElem?_getD, List.getElem?_take_of_lt (by omega)]
set_option maxRecDepth 100000
theorem open_prf_cellsB {n : Nat} {cs : List Value} {x : DataW H × List MemPlace} (h : DataW.trod enc Tryd.prog w base (fun _ => true) held n 28 cs = some x) :
    ∃ (A : Option Addr) (na ca : Nat) (al : List Int) (C : Int) (Z : Option Addr) (nz cz : Nat) (zs : List Int), cs = [.slice A na ca, .int .i64 C, .slice Z nz cz] ∧ al.length = na ∧ zs.length = nz ∧ Sl w A al ∧ Sl w Z zs ∧ (∀ x ∈ al, i64 x) ∧ (∀ x ∈ zs, i64 x) ∧ i64 C := by
  obtain ⟨xs, m, rfl, _, hl, hxl, hf⟩ := DataW.trod_struct Tryd.underlying28 h
  rw [cellsPrf] at hl
  match cs, hl with
  | [c0, c1, c2], _ =>
    have f0 : DataW.trod enc Tryd.prog w base (fun _ => true) held m 26 (([c0, c1, c2].drop 0).take (Tryd.prog.cellsOf 26)) = xs[0]? := hf 0 _ rfl
    have f1 : DataW.trod enc Tryd.prog w base (fun _ => true) held m 3 (([c0, c1, c2].drop 1).take (Tryd.prog.cellsOf 3)) = xs[1]? := hf 1 _ rfl
    have f2 : DataW.trod enc Tryd.prog w base (fun _ => true) held m 26 (([c0, c1, c2].drop 2).take (Tryd.prog.cellsOf 26)) = xs[2]? := hf 2 _ rfl
    rw [cellsSlI] at f0 f2
    rw [cellsInt] at f1
    have hl3 : xs.length = 3 := hxl
    match xs, hl3 with
    | [x0, x1, x2], _ =>
      obtain ⟨RA, hA, oA, bA⟩ := open_rowB f0
      obtain ⟨C, hC, _, wC⟩ := DataW.trod_int Tryd.underlying3 f1
      obtain ⟨RZ, hZ, oZ, bZ⟩ := open_rowB f2
      simp at hA hC hZ
      subst hA; subst hC; subst hZ
      exact ⟨RA.p, RA.n, RA.c, RA.xs, C, RZ.p, RZ.n, RZ.c, RZ.xs, rfl, oA.1, oZ.1, oA.2, oZ.2, bA, bZ, i64_wf wC⟩
theorem open_part_cellsB {n : Nat} {cs : List Value} {x : DataW H × List MemPlace} (h : DataW.trod enc Tryd.prog w base (fun _ => true) held n 56 cs = some x) :
    ∃ p : PartR, cs = [.int .i64 p.ix, .int .i64 p.v, .slice p.A p.na p.ca, .int .i64 p.C, .slice p.Z p.nz p.cz] ∧ PaOk w p ∧ PartI p := by
  obtain ⟨xs, m, rfl, _, hl, hxl, hf⟩ := DataW.trod_struct Tryd.underlying56 h
  rw [cellsPart] at hl
  match cs, hl with
  | [c0, c1, c2, c3, c4], _ =>
    have f0 : DataW.trod enc Tryd.prog w base (fun _ => true) held m 3 (([c0, c1, c2, c3, c4].drop 0).take (Tryd.prog.cellsOf 3)) = xs[0]? := hf 0 _ rfl
    have f1 : DataW.trod enc Tryd.prog w base (fun _ => true) held m 3 (([c0, c1, c2, c3, c4].drop 1).take (Tryd.prog.cellsOf 3)) = xs[1]? := hf 1 _ rfl
    have f2 : DataW.trod enc Tryd.prog w base (fun _ => true) held m 28 (([c0, c1, c2, c3, c4].drop 2).take (Tryd.prog.cellsOf 28)) = xs[2]? := hf 2 _ rfl
    rw [cellsInt] at f0 f1
    rw [cellsPrf] at f2
    have hl3 : xs.length = 3 := hxl
    match xs, hl3 with
    | [x0, x1, x2], _ =>
      obtain ⟨E1, hE1, _, w1⟩ := DataW.trod_int Tryd.underlying3 f0
      obtain ⟨E2, hE2, _, w2⟩ := DataW.trod_int Tryd.underlying3 f1
      obtain ⟨A, na, ca, al, C, Z, nz, cz, zs, hP, h1, h2, h3, h4, h5, h6, h7⟩ := open_prf_cellsB f2
      simp at hE1 hE2 hP
      obtain ⟨rfl, rfl, rfl⟩ := hP
      subst hE1; subst hE2
      exact ⟨⟨E1, E2, A, na, ca, al, C, Z, nz, cz, zs⟩, rfl, ⟨h1, h2, h3, h4⟩, i64_wf w1, i64_wf w2, h7, h5, h6⟩
theorem open_parts_cells {n : Nat} {cs : List Value} {x : DataW H × List MemPlace} (h : DataW.trod enc Tryd.prog w base (fun _ => true) held n 44 cs = some x) :
    ∃ (L : Option Addr) (n c : Nat) (l : List PartR), cs = [.slice L n c] ∧ l.length = n ∧ n ≤ c ∧ Pa w L l ∧ ∀ p ∈ l, PartI p := by
  rcases Go.Deep.open_slice Tryd.underlying44 h with ⟨h0, _⟩ | ⟨a', len, cap, m, n', D, Pl, h0, _, hlc, _, hm, _, hx⟩
  · exact ⟨none, 0, 0, [], h0, rfl, Nat.le_refl _, fun k hk => absurd hk (by simp), fun p hp => absurd hp (by simp)⟩
  · simp at hm
    haveI : Inhabited PartR := ⟨noPart⟩
    obtain ⟨f, hf⟩ := Go.Deep.choose_lt (α := PartR) (n := len) (p := fun i p => (∀ r, r < 5 → w.cell? ((a'.add (i * 5)).add r) = (paC p)[r]?) ∧ PaOk w p ∧ PartI p) (fun i hi => by
      obtain ⟨cs', h1, h2⟩ := hx i (by omega)
      rw [cellsPart] at h1
      obtain ⟨_, hlen, hcell⟩ := World.cells?_some h1
      obtain ⟨p, hp, hok, hr⟩ := open_part_cellsB h2
      exact ⟨p, fun r hr => by rw [hcell r hr, hp]; rfl, hok, hr⟩)
    have e : ∀ k, k < len → ((List.range len).map f).getD k noPart = f k := fun k hk => by
      rw [List.getD_eq_getElem?_getD, List.getElem?_eq_getElem (by simpa using hk)]
      simp
    refine ⟨some a', len, cap, (List.range len).map f, h0, by simp, hlc, fun k hk => ?_, fun p hp => by
      obtain ⟨k, hk, rfl⟩ := List.mem_map.1 hp
      exact (hf k (by simpa using hk)).2.2⟩
    have hk' : k < len := by simpa using hk
    rw [e k hk']
    obtain ⟨h1, h2, h3⟩ := hf k hk'
    obtain ⟨b, off, spot⟩ := a'
    have hspot : spot = none := by
      have := World.cell?_spot ((hf 0 (by omega)).1 0 (by omega))
      rw [Nat.zero_mul] at this
      have h9 : (((⟨b, off, spot⟩ : Addr).add 0).add 0) = ⟨b, off, spot⟩ := by unfold Addr.add; simp
      rw [h9] at this
      exact this
    subst hspot
    have key : ∀ r, r < 5 → w.cell? ⟨b, off + k * 5 + r, none⟩ = (paC (f k))[r]? := fun r hr => by
      have := h1 r hr
      rw [addr_at _ _ _ _ rfl, addr_at _ _ _ _ rfl] at this
      exact this
    exact ⟨b, off, rfl, key 0 (by omega), key 1 (by omega), key 2 (by omega), key 3 (by omega), key 4 (by omega), h2⟩
abbrev orCs (o : OrdR) : List Value := [.int .i64 o.num, .string o.rs, .int .i64 o.E1, .int .i64 o.E2, .slice o.A o.na o.ca, .int .i64 o.C, .slice o.Z o.nz o.cz, .slice o.L o.np o.cp, .int .i64 o.key]
theorem open_order_cells {n : Nat} {cs : List Value} {x : DataW H × List MemPlace} (h : DataW.trod enc Tryd.prog w base (fun _ => true) held n 46 cs = some x) :
    ∃ o : OrdR, cs = orCs o ∧ OrdOk w o ∧ OrdI o := by
  obtain ⟨xs, m, rfl, _, hl, hxl, hf⟩ := DataW.trod_struct Tryd.underlying46 h
  rw [cellsOrd] at hl
  match cs, hl with
  | [c0, c1, c2, c3, c4, c5, c6, c7, c8], _ =>
    have f0 : DataW.trod enc Tryd.prog w base (fun _ => true) held m 3 (([c0, c1, c2, c3, c4, c5, c6, c7, c8].drop 0).take (Tryd.prog.cellsOf 3)) = xs[0]? := hf 0 _ rfl
    have f1 : DataW.trod enc Tryd.prog w base (fun _ => true) held m 9 (([c0, c1, c2, c3, c4, c5, c6, c7, c8].drop 1).take (Tryd.prog.cellsOf 9)) = xs[1]? := hf 1 _ rfl
    have f2 : DataW.trod enc Tryd.prog w base (fun _ => true) held m 30 (([c0, c1, c2, c3, c4, c5, c6, c7, c8].drop 2).take (Tryd.prog.cellsOf 30)) = xs[2]? := hf 2 _ rfl
    have f3 : DataW.trod enc Tryd.prog w base (fun _ => true) held m 44 (([c0, c1, c2, c3, c4, c5, c6, c7, c8].drop 7).take (Tryd.prog.cellsOf 44)) = xs[3]? := hf 3 _ rfl
    have f4 : DataW.trod enc Tryd.prog w base (fun _ => true) held m 3 (([c0, c1, c2, c3, c4, c5, c6, c7, c8].drop 8).take (Tryd.prog.cellsOf 3)) = xs[4]? := hf 4 _ rfl
    rw [cellsInt] at f0 f4
    rw [cellsStr] at f1
    rw [cellsEsc] at f2
    rw [cellsSlP] at f3
    have hl5 : xs.length = 5 := hxl
    match xs, hl5 with
    | [x0, x1, x2, x3, x4], _ =>
      obtain ⟨N, hN, _, wN⟩ := DataW.trod_int Tryd.underlying3 f0
      obtain ⟨s, hs, _, _⟩ := DataW.trod_string Tryd.underlying9 f1
      obtain ⟨ys, m2, _, _, _, hyl, hg⟩ := DataW.trod_struct Tryd.underlying30 f2
      have g0 : DataW.trod enc Tryd.prog w base (fun _ => true) held m2 3 (([c2, c3, c4, c5, c6].drop 0).take (Tryd.prog.cellsOf 3)) = ys[0]? := hg 0 _ rfl
      have g1 : DataW.trod enc Tryd.prog w base (fun _ => true) held m2 3 (([c2, c3, c4, c5, c6].drop 1).take (Tryd.prog.cellsOf 3)) = ys[1]? := hg 1 _ rfl
      have g2 : DataW.trod enc Tryd.prog w base (fun _ => true) held m2 28 (([c2, c3, c4, c5, c6].drop 2).take (Tryd.prog.cellsOf 28)) = ys[2]? := hg 2 _ rfl
      rw [cellsInt] at g0 g1
      rw [cellsPrf] at g2
      have hl3 : ys.length = 3 := hyl
      match ys, hl3 with
      | [y0, y1, y2], _ =>
        obtain ⟨E1, hE1, _, w1⟩ := DataW.trod_int Tryd.underlying3 g0
        obtain ⟨E2, hE2, _, w2⟩ := DataW.trod_int Tryd.underlying3 g1
        obtain ⟨A, na, ca, al, C, Z, nz, cz, zs, hP, h1, h2, h3, h4, h5, h6, h7⟩ := open_prf_cellsB g2
        obtain ⟨L, np, cp, ps, hL, k1, k2, k3, k4⟩ := open_parts_cells f3
        obtain ⟨K, hK, _, wK⟩ := DataW.trod_int Tryd.underlying3 f4
        simp at hN hs hE1 hE2 hP hL hK
        obtain ⟨rfl, rfl, rfl⟩ := hP
        subst hN; subst hs; subst hE1; subst hE2; subst hL; subst hK
        exact ⟨⟨N, s, E1, E2, A, na, ca, al, C, Z, nz, cz, zs, L, np, cp, ps, K⟩, rfl, ⟨h1, h2, ⟨k1, k2⟩, h3, h4, k3⟩, i64_wf wN, i64_wf w1, i64_wf w2, h7, i64_wf wK, h5, h6, k4⟩
theorem open_orders_cells {n : Nat} {cs : List Value} {x : DataW H × List MemPlace} (h : DataW.trod enc Tryd.prog w base (fun _ => true) held n 22 cs = some x) :
    ∃ (O : Option Addr) (n c : Nat) (os : List OrdR), cs = [.slice O n c] ∧ os.length = n ∧ Os w O os ∧ ∀ k, k < n → OrdI (orL os k) := by
  rcases Go.Deep.open_slice Tryd.underlying22 h with ⟨h0, _⟩ | ⟨a', len, cap, m, n', D, Pl, h0, _, hlc, _, hm, _, hx⟩
  · exact ⟨none, 0, 0, [], h0, rfl, fun k hk => absurd hk (by simp), fun k hk => absurd hk (by omega)⟩
  · simp at hm
    haveI : Inhabited OrdR := ⟨noOrd⟩
    obtain ⟨f, hf⟩ := Go.Deep.choose_lt (α := OrdR) (n := len) (p := fun i o => (∀ r, r < 9 → w.cell? ((a'.add (i * 9)).add r) = (orCs o)[r]?) ∧ OrdOk w o ∧ OrdI o) (fun i hi => by
      obtain ⟨cs', h1, h2⟩ := hx i (by omega)
      rw [cellsOrd] at h1
      obtain ⟨_, hlen, hcell⟩ := World.cells?_some h1
      obtain ⟨o, ho, hok, hr⟩ := open_order_cells h2
      exact ⟨o, fun r hr => by rw [hcell r hr, ho], hok, hr⟩)
    have e : ∀ k, k < len → ((List.range len).map f).getD k noOrd = f k := fun k hk => by
      rw [List.getD_eq_getElem?_getD, List.getElem?_eq_getElem (by simpa using hk)]
      simp
    refine ⟨some a', len, cap, (List.range len).map f, h0, by simp, fun k hk => ?_, fun k hk => by rw [orL, e k hk]; exact (hf k hk).2.2⟩
    have hk' : k < len := by simpa using hk
    rw [e k hk']
    obtain ⟨h1, h2, h3⟩ := hf k hk'
    obtain ⟨b, off, spot⟩ := a'
    have hspot : spot = none := by
      have := World.cell?_spot ((hf 0 (by omega)).1 0 (by omega))
      rw [Nat.zero_mul] at this
      have h9 : (((⟨b, off, spot⟩ : Addr).add 0).add 0) = ⟨b, off, spot⟩ := by unfold Addr.add; simp
      rw [h9] at this
      exact this
    subst hspot
    have key : ∀ r, r < 9 → w.cell? ⟨b, off + k * 9 + r, none⟩ = (orCs (f k))[r]? := fun r hr => by
      have := h1 r hr
      rw [addr_at _ _ _ _ rfl, addr_at _ _ _ _ rfl] at this
      exact this
    exact ⟨b, off, rfl, ⟨key 0 (by omega), key 1 (by omega), key 2 (by omega), key 3 (by omega), key 4 (by omega), key 5 (by omega), key 6 (by omega), key 7 (by omega), key 8 (by omega)⟩, h2⟩
theorem open_hash_cells {n : Nat} {cs : List Value} {x : DataW H × List MemPlace} (h : DataW.trod enc Tryd.prog w base (fun _ => true) held n 42 cs = some x) :
    ∃ l : List Int, cs = l.map (Value.int .u8) ∧ l.length = 32 ∧ bytesB l = true := by
  obtain ⟨ys, m', _, _, hcl, hyl, hfy⟩ := DataW.trod_array Tryd.underlying42 h
  rw [cellsHash] at hcl
  obtain ⟨hh, h1, h2, h3⟩ := cells_u8 (cl := cs) 32 (fun i hi => by
    have fi := hfy i hi
    rw [cellsU8, Nat.mul_one, List.getElem?_eq_getElem (by rw [hyl]; exact hi)] at fi
    obtain ⟨z, hz, _, wz⟩ := DataW.trod_int Tryd.underlying5 fi
    refine ⟨z, hz, ?_⟩
    simp [Lit.wf, IntKind.min, IntKind.max, IntKind.signed, IntKind.bits] at wz
    omega)
  exact ⟨hh, by rw [← h2, List.take_of_length_le (by rw [hcl]; exact Nat.le_refl _)], h1, h3⟩
theorem open_hashes_cells {n : Nat} {cs : List Value} {x : DataW H × List MemPlace} (h : DataW.trod enc Tryd.prog w base (fun _ => true) held n 23 cs = some x) :
    ∃ (K : Option Addr) (n c : Nat) (hs : List (List Int)), cs = [.slice K n c] ∧ hs.length = n ∧ Hs w K hs := by
  rcases Go.Deep.open_slice Tryd.underlying23 h with ⟨h0, _⟩ | ⟨a', len, cap, m, n', D, Pl, h0, _, hlc, _, hm, _, hx⟩
  · exact ⟨none, 0, 0, [], h0, rfl, fun k hk => absurd hk (by simp)⟩
  · simp at hm
    obtain ⟨f, hf⟩ := Go.Deep.choose_lt (α := List Int) (n := len) (p := fun i l => (∀ r, r < 32 → w.cell? ((a'.add (i * 32)).add r) = (l.map (Value.int .u8))[r]?) ∧ l.length = 32) (fun i hi => by
      obtain ⟨cs', h1, h2⟩ := hx i (by omega)
      rw [cellsHash] at h1
      obtain ⟨_, hlen, hcell⟩ := World.cells?_some h1
      obtain ⟨o, ho, hok, _⟩ := open_hash_cells h2
      exact ⟨o, fun r hr => by rw [hcell r hr, ho], hok⟩)
    have e : ∀ k, k < len → hsL ((List.range len).map f) k = f k := fun k hk => by
      rw [hsL, List.getD_eq_getElem?_getD, List.getElem?_eq_getElem (by simpa using hk)]
      simp
    refine ⟨some a', len, cap, (List.range len).map f, h0, by simp, fun k hk => ?_⟩
    have hk' : k < len := by simpa using hk
    rw [e k hk']
    obtain ⟨h1, h2⟩ := hf k hk'
    obtain ⟨b, off, spot⟩ := a'
    have hspot : spot = none := by
      have h8 := (hf 0 (by omega)).1 0 (by omega)
      rw [List.getElem?_eq_getElem (by rw [List.length_map, (hf 0 (by omega)).2]; decide)] at h8
      have := World.cell?_spot h8
      rw [Nat.zero_mul] at this
      have h9 : (((⟨b, off, spot⟩ : Addr).add 0).add 0) = ⟨b, off, spot⟩ := by unfold Addr.add; simp
      rw [h9] at this
      exact this
    subst hspot
    refine ⟨b, off, rfl, h2, fun j v hj => ?_⟩
    have hj2 : j < 32 := by have := (List.getElem?_eq_some_iff.1 hj).1; rw [List.length_map, h2] at this; exact this
    have := h1 j hj2
    rw [addr_at _ _ _ _ rfl, addr_at _ _ _ _ rfl] at this
    rw [this]; exact hj
theorem open_trl {r : Reach} {b0 : Nat} {v : Value} {d : DataW H} {ps : List MemPlace} (hval : Value.okWide Tryd.prog w r b0 25 v) (hd : DataW.Trod enc Tryd.prog w base (fun _ => true) held 25 v d ps) :
    ∃ (O : Option Addr) (n c : Nat) (os : List OrdR) (K : Option Addr) (m d : Nat) (hs : List (List Int)), v = .agg #[.slice O n c, .slice K m d] ∧ os.length = n ∧ hs.length = m ∧ Os w O os ∧ Hs w K hs ∧ ∀ k, k < n → OrdI (orL os k) := by
  obtain ⟨cs, rfl, hsz⟩ := okWide_struct Tryd.underlying25 hval
  obtain ⟨n, h⟩ := hd
  obtain ⟨xs, m, rfl, _, hl, hxl, hf⟩ := DataW.trod_struct Tryd.underlying25 h
  rw [cellsTrl] at hl
  obtain ⟨cl⟩ := cs
  simp only [Value.cells] at hl hf
  match cl, hl with
  | [c0, c1], _ =>
    have f0 : DataW.trod enc Tryd.prog w base (fun _ => true) held m 22 (([c0, c1].drop 0).take (Tryd.prog.cellsOf 22)) = xs[0]? := hf 0 _ rfl
    have f1 : DataW.trod enc Tryd.prog w base (fun _ => true) held m 23 (([c0, c1].drop 1).take (Tryd.prog.cellsOf 23)) = xs[1]? := hf 1 _ rfl
    rw [cellsSlO] at f0
    rw [cellsSlH] at f1
    have hl2 : xs.length = 2 := hxl
    match xs, hl2 with
    | [x0, x1], _ =>
      obtain ⟨O, n, c, os, hO, h1, h2, h3⟩ := open_orders_cells f0
      obtain ⟨K, m, d, hs, hK, k1, k2⟩ := open_hashes_cells f1
      simp at hO hK
      subst hO; subst hK
      exact ⟨O, n, c, os, K, m, d, hs, rfl, h1, k1, h2, k2, h3⟩
end
end Go.Proofs.YtofkihlpbfcdkaaDoor
namespace Go.Proofs.YtofkihlpbfcdkaaDoor
open Go.ChangeShapes Go.WideShapes Go.ChangeAt Go.RowKit SpM
set_option linter.unusedVariables false
set_option maxRecDepth 100000
section
variable {H : Type} {enc : TypeId × Value → H} {w : World} {base : Nat} {held : Bool}
theorem open_esc_cellsB {n : Nat} {cs : List Value} {x : DataW H × List MemPlace} (h : DataW.trod enc Tryd.prog w base (fun _ => true) held n 30 cs = some x) :
    ∃ (E1 E2 : Int) (A : Option Addr) (na ca : Nat) (al : List Int) (C : Int) (Z : Option Addr) (nz cz : Nat) (zs : List Int), cs = [.int .i64 E1, .int .i64 E2, .slice A na ca, .int .i64 C, .slice Z nz cz] ∧ al.length = na ∧ zs.length = nz ∧ Sl w A al ∧ Sl w Z zs ∧ (i64 E1 ∧ i64 E2 ∧ i64 C ∧ (∀ x ∈ al, i64 x) ∧ ∀ x ∈ zs, i64 x) := by
  obtain ⟨xs, m, rfl, _, hl, hxl, hf⟩ := DataW.trod_struct Tryd.underlying30 h
  rw [cellsEsc] at hl
  match cs, hl with
  | [c0, c1, c2, c3, c4], _ =>
    have f0 : DataW.trod enc Tryd.prog w base (fun _ => true) held m 3 (([c0, c1, c2, c3, c4].drop 0).take (Tryd.prog.cellsOf 3)) = xs[0]? := hf 0 _ rfl
    have f1 : DataW.trod enc Tryd.prog w base (fun _ => true) held m 3 (([c0, c1, c2, c3, c4].drop 1).take (Tryd.prog.cellsOf 3)) = xs[1]? := hf 1 _ rfl
    have f2 : DataW.trod enc Tryd.prog w base (fun _ => true) held m 28 (([c0, c1, c2, c3, c4].drop 2).take (Tryd.prog.cellsOf 28)) = xs[2]? := hf 2 _ rfl
    rw [cellsInt] at f0 f1
    rw [cellsPrf] at f2
    have hl3 : xs.length = 3 := hxl
    match xs, hl3 with
    | [x0, x1, x2], _ =>
      obtain ⟨E1, hE1, _, w1⟩ := DataW.trod_int Tryd.underlying3 f0
      obtain ⟨E2, hE2, _, w2⟩ := DataW.trod_int Tryd.underlying3 f1
      obtain ⟨A, na, ca, al, C, Z, nz, cz, zs, hP, h1, h2, h3, h4, h5, h6, h7⟩ := open_prf_cellsB f2
      simp at hE1 hE2 hP
      obtain ⟨rfl, rfl, rfl⟩ := hP
      subst hE1; subst hE2
      exact ⟨E1, E2, A, na, ca, al, C, Z, nz, cz, zs, rfl, h1, h2, h3, h4, i64_wf w1, i64_wf w2, h7, h5, h6⟩
theorem open_escB {r : Reach} {b0 : Nat} {v : Value} {d : DataW H} {ps : List MemPlace} (hval : Value.okWide Tryd.prog w r b0 30 v) (hd : DataW.Trod enc Tryd.prog w base (fun _ => true) held 30 v d ps) :
    ∃ (E1 E2 : Int) (A : Option Addr) (na ca : Nat) (al : List Int) (C : Int) (Z : Option Addr) (nz cz : Nat) (zs : List Int), v = .agg #[.int .i64 E1, .int .i64 E2, .slice A na ca, .int .i64 C, .slice Z nz cz] ∧ al.length = na ∧ zs.length = nz ∧ Sl w A al ∧ Sl w Z zs ∧ (i64 E1 ∧ i64 E2 ∧ i64 C ∧ (∀ x ∈ al, i64 x) ∧ ∀ x ∈ zs, i64 x) := by
  obtain ⟨cs, rfl, hsz⟩ := okWide_struct Tryd.underlying30 hval
  obtain ⟨n, h⟩ := hd
  obtain ⟨cl⟩ := cs
  obtain ⟨E1, E2, A, na, ca, al, C, Z, nz, cz, zs, he, h1, h2, h3, h4, h5⟩ := open_esc_cellsB h
  simp only [Value.cells] at he
  subst he
  exact ⟨E1, E2, A, na, ca, al, C, Z, nz, cz, zs, rfl, h1, h2, h3, h4, h5⟩
end
end Go.Proofs.YtofkihlpbfcdkaaDoor
namespace Go.Proofs.YtofkihlpbfcdkaaDoor
open Go.RowKit SpM
set_option linter.unusedVariables false
set_option linter.unusedSimpArgs false
set_option maxRecDepth 100000
set_option maxHeartbeats 1600000 in
theorem light_any (A : Option Addr) (na ca : Nat) (C : Int) (Z : Option Addr) (nz cz : Nat) (w : World) :
    Calls Tryd.prog 6 #[prvL A na ca C Z nz cz] w fun e' w' => ∃ b : Bool, e' = .returned (.bool b) ∧ Below w.heap.size w w' := by
  have HX := below_box0 w (prObjL A na ca C Z nz cz)
  by_cases h0 : na ≤ 30
  · have d0 : decide ((na : Int) ≤ 30) = true := by simp; omega
    by_cases h1 : nz ≤ 30
    · have d1 : decide ((nz : Int) ≤ 30) = true := by simp; omega
      go_enter Tryd.func6, Tryd.ntmps6
      go_wp2
      go_ret
      exact ⟨_, rfl, HX⟩
    · have d1 : decide ((nz : Int) ≤ 30) = false := by simp; omega
      go_enter Tryd.func6, Tryd.ntmps6
      go_wp2
      go_ret
      exact ⟨_, rfl, HX⟩
  · have d0 : decide ((na : Int) ≤ 30) = false := by simp; omega
    go_enter Tryd.func6, Tryd.ntmps6
    go_wp2
    go_ret
    exact ⟨_, rfl, HX⟩
theorem stPt (p : PartR) (w : World) : ∃ w0, Hid ((w.alloc (ptO p)) = w0) ∧ Hid (Below w.heap.size w w0) ∧ Hid (∀ u : World, Hid (Below w0.heap.size w0 u) → u.cell? ⟨w.heap.size, 0, none⟩ = some (.int .i64 p.ix) ∧ u.cell? ⟨w.heap.size, 1, none⟩ = some (.int .i64 p.v) ∧ u.cell? ⟨w.heap.size, 2, none⟩ = some (.slice p.A p.na p.ca) ∧ u.cell? ⟨w.heap.size, 3, none⟩ = some (.int .i64 p.C) ∧ u.cell? ⟨w.heap.size, 4, none⟩ = some (.slice p.Z p.nz p.cz)) := by
  obtain ⟨w0, hW⟩ : ∃ W, (w.alloc (ptO p)) = W := ⟨_, rfl⟩
  have HBw : Hid (Below w.heap.size w w0) := Lib.hid (by rw [← hW]; exact below_box0 _ _)
  have hc : w0.cell? ⟨w.heap.size, 0, none⟩ = some (.int .i64 p.ix) ∧ w0.cell? ⟨w.heap.size, 1, none⟩ = some (.int .i64 p.v) ∧ w0.cell? ⟨w.heap.size, 2, none⟩ = some (.slice p.A p.na p.ca) ∧ w0.cell? ⟨w.heap.size, 3, none⟩ = some (.int .i64 p.C) ∧ w0.cell? ⟨w.heap.size, 4, none⟩ = some (.slice p.Z p.nz p.cz) := by rw [← hW]; exact ⟨allocs_cell (by simp) (by rfl), allocs_cell (by simp) (by rfl), allocs_cell (by simp) (by rfl), allocs_cell (by simp) (by rfl), allocs_cell (by simp) (by rfl)⟩
  have kC := Lib.hid (show ∀ u : World, Hid (Below w0.heap.size w0 u) → u.cell? ⟨w.heap.size, 0, none⟩ = some (.int .i64 p.ix) ∧ u.cell? ⟨w.heap.size, 1, none⟩ = some (.int .i64 p.v) ∧ u.cell? ⟨w.heap.size, 2, none⟩ = some (.slice p.A p.na p.ca) ∧ u.cell? ⟨w.heap.size, 3, none⟩ = some (.int .i64 p.C) ∧ u.cell? ⟨w.heap.size, 4, none⟩ = some (.slice p.Z p.nz p.cz) from fun u h => ⟨cell_below hc.1 h.out, cell_below hc.2.1 h.out, cell_below hc.2.2.1 h.out, cell_below hc.2.2.2.1 h.out, cell_below hc.2.2.2.2 h.out⟩)
  exact ⟨w0, Lib.hid hW, HBw, kC⟩
set_option maxHeartbeats 3200000 in
theorem few11 (p : PartR) (w : World) :
    Calls Tryd.prog 24 #[ptV p] w fun e' w' => ∃ b : Bool, e' = .returned (.bool b) ∧ Below w.heap.size w w' := by
  obtain ⟨w0, HW, HBw, kC⟩ := stPt p w
  have HB_0 : Hid (Below w0.heap.size w0 w0) := Lib.hid (Below.refl _ _)
  go_enter Tryd.func24, Tryd.ntmps24
  go_wp2_with fail
  rw [HW.out]
  obtain ⟨zc0, zc1, zc2, zc3, zc4⟩ := kC.out _ HB_0
  go_wp2_with fail
  refine (light_any p.A p.na p.ca p.C p.Z p.nz p.cz _).mono ?_
  rintro e w1 ⟨b, rfl, hb0⟩
  have HB_1 := Lib.hid (below_ext HB_0.out hb0)
  clear zc0 zc1 zc2 zc3 zc4
  clear hb0
  obtain ⟨zc0, zc1, zc2, zc3, zc4⟩ := kC.out _ HB_1
  have hbF := below_ext HBw.out HB_1.out
  cases b with
  | false => go_wp2; go_ret; exact ⟨_, rfl, hbF⟩
  | true => go_wp2; go_ret; exact ⟨_, rfl, hbF⟩
set_option maxHeartbeats 3200000 in
theorem idx_f11 (A : Option Addr) (xs : List PartR) (n c : Nat) (hn : Hid (xs.length = n)) (hbig : n < 1000000) (w : World) (hs : Hid (Pa w A xs)) :
    Calls Tryd.prog 47 #[.slice A n c, .func (.func 24) #[] #[]] w fun e w' => ∃ i : Int, e = .returned (.int .i64 i) ∧ Below w.heap.size w w' := by
  go_enter Tryd.func47, Tryd.ntmps47
  go_wp2
  go_loopw [8] (fun i wr => ∃ k : Nat, k ≤ n ∧ i = .int .i64 k ∧ Hid (Below w.heap.size w wr)) (fun i _ => n - (intOf i).toNat)
  case atStart => exact ⟨0, by omega, rfl, Lib.hid (Below.refl _ _)⟩
  case round =>
    obtain ⟨k, hk, rfl, HBr⟩ := hrel
    by_cases hlt : k < n
    · have hkl : k < xs.length := by rw [hn.out]; exact hlt
      obtain ⟨b, o, hA, i0, i1, i2, i3, i4, i5⟩ := (hs.out.below HBr.out) k hkl
      subst hA
      clear i5
      obtain ⟨p, hp⟩ : ∃ p, xs.getD k noPart = p := ⟨_, rfl⟩
      rw [hp] at i0 i1 i2 i3 i4
      clear hp hkl
      go_wp2_with fail
      refine (few11 p wr).mono ?_
      rintro e w2 ⟨b9, rfl, hb0⟩
      have HB2 := Lib.hid (below_ext HBr.out hb0)
      clear hb0 HBr i0 i1 i2 i3 i4
      cases b9 with
      | false =>
        go_wp2
        go_roundw
        case rel => exact ⟨k + 1, by omega, by go_num, HB2⟩
        case measure => simp [intOf]; omega
      | true =>
        go_wp2
        go_ret
        exact ⟨_, rfl, HB2.out⟩
    · obtain rfl : k = n := by omega
      go_wp2
      go_ret
      exact ⟨_, rfl, HBr.out⟩
set_option maxHeartbeats 1600000 in
theorem cf_idx_f11 (A : Option Addr) (xs : List PartR) (n c : Nat) (hn : Hid (xs.length = n)) (hbig : n < 1000000) (w : World) (hs : Hid (Pa w A xs)) :
    Calls Tryd.prog 23 #[.slice A n c, .func (.func 24) #[] #[]] w fun e' w' => ∃ b : Bool, e' = .returned (.bool b) ∧ Below w.heap.size w w' := by
  go_enter Tryd.func23, Tryd.ntmps23
  go_wp2_with fail
  refine (idx_f11 A xs n c hn hbig _ hs).mono ?_
  rintro e w1 ⟨i, rfl, hb1⟩
  go_wp2
  go_ret
  exact ⟨_, rfl, hb1⟩
set_option maxHeartbeats 6400000 in
theorem few1_1 (o : OrdR) (h : 300 < o.rs.size) (w : World) :
    Calls Tryd.prog 22 #[orV o] w fun e' w' => ∃ b : Bool, e' = .returned (.bool b) ∧ Below w.heap.size w w' := by
  have d0 : decide ((300 : Int) < (o.rs.size : Int)) = true := by simp; omega
  obtain ⟨w0, HW, HBw, kC⟩ := stOr o w
  have HB_0 : Hid (Below w0.heap.size w0 w0) := Lib.hid (Below.refl _ _)
  go_enter Tryd.func22, Tryd.ntmps22
  go_upto_region 1 with (fail)
  rw [HW.out]
  obtain ⟨zc0, zc1, zc2, zc3, zc4, zc5, zc6, zc7, zc8⟩ := kC.out _ HB_0
  have hbF := below_ext HBw.out HB_0.out
  go_wp2
  go_ret
  exact ⟨_, rfl, hbF⟩
set_option maxHeartbeats 6400000 in
theorem few1_2 (o : OrdR) (h0 : ¬ 300 < o.rs.size) (h : 12 < o.np) (w : World) :
    Calls Tryd.prog 22 #[orV o] w fun e' w' => ∃ b : Bool, e' = .returned (.bool b) ∧ Below w.heap.size w w' := by
  have d0 : decide ((300 : Int) < (o.rs.size : Int)) = false := by simp; omega
  have d1 : decide ((12 : Int) < (o.np : Int)) = true := by simp; omega
  obtain ⟨w0, HW, HBw, kC⟩ := stOr o w
  have HB_0 : Hid (Below w0.heap.size w0 w0) := Lib.hid (Below.refl _ _)
  go_enter Tryd.func22, Tryd.ntmps22
  go_upto_region 1 with (fail)
  rw [HW.out]
  obtain ⟨zc0, zc1, zc2, zc3, zc4, zc5, zc6, zc7, zc8⟩ := kC.out _ HB_0
  have hbF := below_ext HBw.out HB_0.out
  go_wp2
  go_ret
  exact ⟨_, rfl, hbF⟩
set_option maxHeartbeats 6400000 in
theorem few1_3 (o : OrdR) (h0 : ¬ 300 < o.rs.size) (h : ¬ 12 < o.np) (w : World) (ho : Hid (OrdOk w o)) :
    Calls Tryd.prog 22 #[orV o] w fun e' w' => ∃ b : Bool, e' = .returned (.bool b) ∧ Below w.heap.size w w' := by
  have d0 : decide ((300 : Int) < (o.rs.size : Int)) = false := by simp; omega
  have d1 : decide ((12 : Int) < (o.np : Int)) = false := by simp; omega
  obtain ⟨w0, HW, HBw, kC⟩ := stOr o w
  have kO := Lib.hid (show ∀ u : World, Hid (Below w0.heap.size w0 u) → Hid (OrdOk u o) from fun u h => Lib.hid ((ho.out.below) (below_ext HBw.out h.out)))
  have HB_0 : Hid (Below w0.heap.size w0 w0) := Lib.hid (Below.refl _ _)
  clear ho
  go_enter Tryd.func22, Tryd.ntmps22
  go_upto_region 1 with (fail)
  rw [HW.out]
  obtain ⟨zc0, zc1, zc2, zc3, zc4, zc5, zc6, zc7, zc8⟩ := kC.out _ HB_0
  go_wp2_with fail
  refine (light_any o.A o.na o.ca o.C o.Z o.nz o.cz _).mono ?_
  rintro e w1 ⟨b, rfl, hb0⟩
  have HB_1 := Lib.hid (below_ext HB_0.out hb0)
  clear zc0 zc1 zc2 zc3 zc4 zc5 zc6 zc7 zc8
  clear hb0
  obtain ⟨zc0, zc1, zc2, zc3, zc4, zc5, zc6, zc7, zc8⟩ := kC.out _ HB_1
  cases b with
  | false =>
    have hbF := below_ext HBw.out HB_1.out
    go_wp2
    go_ret
    exact ⟨_, rfl, hbF⟩
  | true =>
    go_wp2_with fail
    refine (cf_idx_f11 o.L o.ps o.np o.cp (Lib.hid ((kO.out _ HB_1)).out.2.2.1.1) (by omega) _ (Lib.hid ((kO.out _ HB_1)).out.2.2.2.2.2)).mono ?_
    rintro e w2 ⟨b2, rfl, hb0⟩
    have HB_2 := Lib.hid (below_ext HB_1.out hb0)
    clear zc0 zc1 zc2 zc3 zc4 zc5 zc6 zc7 zc8
    clear hb0
    obtain ⟨zc0, zc1, zc2, zc3, zc4, zc5, zc6, zc7, zc8⟩ := kC.out _ HB_2
    have hbF := below_ext HBw.out HB_2.out
    go_wp2
    go_ret
    exact ⟨_, rfl, hbF⟩
theorem few1_any (o : OrdR) (w : World) (ho : Hid (OrdOk w o)) :
    Calls Tryd.prog 22 #[orV o] w fun e' w' => ∃ b : Bool, e' = .returned (.bool b) ∧ Below w.heap.size w w' := by
  by_cases h0 : 300 < o.rs.size
  · exact few1_1 o h0 w
  · by_cases h1 : 12 < o.np
    · exact few1_2 o h0 h1 w
    · exact few1_3 o h0 h1 w ho
set_option maxHeartbeats 3200000 in
theorem idx_f1 (A : Option Addr) (xs : List OrdR) (n c : Nat) (hn : Hid (xs.length = n)) (hbig : n < 1000000) (w : World) (hs : Hid (Os w A xs)) :
    Calls Tryd.prog 46 #[.slice A n c, .func (.func 22) #[] #[]] w fun e w' => ∃ i : Int, e = .returned (.int .i64 i) ∧ Below w.heap.size w w' := by
  go_enter Tryd.func46, Tryd.ntmps46
  go_wp2
  go_loopw [8] (fun i wr => ∃ k : Nat, k ≤ n ∧ i = .int .i64 k ∧ Hid (Below w.heap.size w wr)) (fun i _ => n - (intOf i).toNat)
  case atStart => exact ⟨0, by omega, rfl, Lib.hid (Below.refl _ _)⟩
  case round =>
    obtain ⟨k, hk, rfl, HBr⟩ := hrel
    by_cases hlt : k < n
    · have hkl : k < xs.length := by rw [hn.out]; exact hlt
      obtain ⟨b, o, hA, i9, iok⟩ := (hs.out.below HBr.out) k hkl
      obtain ⟨i0, i1, i2, i3, i4, i5, i6, i7, i8⟩ := i9
      subst hA
      obtain ⟨p, hp⟩ : ∃ p, xs.getD k noOrd = p := ⟨_, rfl⟩
      rw [hp] at i0 i1 i2 i3 i4 i5 i6 i7 i8 iok
      have HOK := Lib.hid iok
      clear iok hp hkl
      go_wp2_with fail
      refine (few1_any p wr HOK).mono ?_
      rintro e w2 ⟨b9, rfl, hb0⟩
      have HB2 := Lib.hid (below_ext HBr.out hb0)
      clear hb0 HBr i0 i1 i2 i3 i4 i5 i6 i7 i8
      cases b9 with
      | false =>
        go_wp2
        go_roundw
        case rel => exact ⟨k + 1, by omega, by go_num, HB2⟩
        case measure => simp [intOf]; omega
      | true =>
        go_wp2
        go_ret
        exact ⟨_, rfl, HB2.out⟩
    · obtain rfl : k = n := by omega
      go_wp2
      go_ret
      exact ⟨_, rfl, HBr.out⟩
set_option maxHeartbeats 1600000 in
theorem cf_idx_f1 (A : Option Addr) (xs : List OrdR) (n c : Nat) (hn : Hid (xs.length = n)) (hbig : n < 1000000) (w : World) (hs : Hid (Os w A xs)) :
    Calls Tryd.prog 21 #[.slice A n c, .func (.func 22) #[] #[]] w fun e' w' => ∃ b : Bool, e' = .returned (.bool b) ∧ Below w.heap.size w w' := by
  go_enter Tryd.func21, Tryd.ntmps21
  go_wp2_with fail
  refine (idx_f1 A xs n c hn hbig _ hs).mono ?_
  rintro e w1 ⟨i, rfl, hb1⟩
  go_wp2
  go_ret
  exact ⟨_, rfl, hb1⟩
set_option maxHeartbeats 3200000 in
theorem few_1 (O : Option Addr) (n c : Nat) (K : Option Addr) (m d : Nat) (h : 12 < n) (h1 : n ≤ 100) (w : World) :
    Calls Tryd.prog 5 #[tlV O n c K m d] w fun e' w' => ∃ b : Bool, e' = .returned (.bool b) ∧ (b = true → n ≤ 110 ∧ m ≤ 120) ∧ Below w.heap.size w w' := by
  have d0 : decide ((12 : Int) < (n : Int)) = true := by simp; omega
  have d1 : decide ((n : Int) ≤ 100) = true := by simp; omega
  obtain ⟨w0, HW, HBw, kC⟩ := stTl O n c K m d w
  have HB_0 : Hid (Below w0.heap.size w0 w0) := Lib.hid (Below.refl _ _)
  go_enter Tryd.func5, Tryd.ntmps5
  go_upto_region 1 with (fail)
  rw [HW.out]
  obtain ⟨zc0, zc1⟩ := kC.out _ HB_0
  have hbF := below_ext HBw.out HB_0.out
  go_wp2
  go_ret
  exact ⟨false, by first | rfl | simp, fun h9 => Bool.noConfusion h9, hbF⟩
set_option maxHeartbeats 3200000 in
theorem few_2 (O : Option Addr) (n c : Nat) (K : Option Addr) (m d : Nat) (h : 110 < n) (w : World) :
    Calls Tryd.prog 5 #[tlV O n c K m d] w fun e' w' => ∃ b : Bool, e' = .returned (.bool b) ∧ (b = true → n ≤ 110 ∧ m ≤ 120) ∧ Below w.heap.size w w' := by
  have d0 : decide ((12 : Int) < (n : Int)) = true := by simp; omega
  have d1 : decide ((n : Int) ≤ 100) = false := by simp; omega
  have d2 : decide ((110 : Int) < (n : Int)) = true := by simp; omega
  obtain ⟨w0, HW, HBw, kC⟩ := stTl O n c K m d w
  have HB_0 : Hid (Below w0.heap.size w0 w0) := Lib.hid (Below.refl _ _)
  go_enter Tryd.func5, Tryd.ntmps5
  go_upto_region 1 with (fail)
  rw [HW.out]
  obtain ⟨zc0, zc1⟩ := kC.out _ HB_0
  have hbF := below_ext HBw.out HB_0.out
  go_wp2
  go_ret
  exact ⟨false, by first | rfl | simp, fun h9 => Bool.noConfusion h9, hbF⟩
set_option maxHeartbeats 3200000 in
theorem few_3 (O : Option Addr) (n c : Nat) (K : Option Addr) (m d : Nat) (h : ¬ 12 < n) (h1 : 120 < m) (w : World) :
    Calls Tryd.prog 5 #[tlV O n c K m d] w fun e' w' => ∃ b : Bool, e' = .returned (.bool b) ∧ (b = true → n ≤ 110 ∧ m ≤ 120) ∧ Below w.heap.size w w' := by
  have d0 : decide ((12 : Int) < (n : Int)) = false := by simp; omega
  have d2 : decide ((110 : Int) < (n : Int)) = false := by simp; omega
  have d3 : decide ((120 : Int) < (m : Int)) = true := by simp; omega
  obtain ⟨w0, HW, HBw, kC⟩ := stTl O n c K m d w
  have HB_0 : Hid (Below w0.heap.size w0 w0) := Lib.hid (Below.refl _ _)
  go_enter Tryd.func5, Tryd.ntmps5
  go_upto_region 1 with (fail)
  rw [HW.out]
  obtain ⟨zc0, zc1⟩ := kC.out _ HB_0
  have hbF := below_ext HBw.out HB_0.out
  go_wp2
  go_ret
  exact ⟨false, by first | rfl | simp, fun h9 => Bool.noConfusion h9, hbF⟩
set_option maxHeartbeats 3200000 in
theorem few_4 (O : Option Addr) (n c : Nat) (K : Option Addr) (m d : Nat) (h : ¬ n ≤ 100) (h2 : n ≤ 110) (h1 : 120 < m) (w : World) :
    Calls Tryd.prog 5 #[tlV O n c K m d] w fun e' w' => ∃ b : Bool, e' = .returned (.bool b) ∧ (b = true → n ≤ 110 ∧ m ≤ 120) ∧ Below w.heap.size w w' := by
  have d0 : decide ((12 : Int) < (n : Int)) = true := by simp; omega
  have d1 : decide ((n : Int) ≤ 100) = false := by simp; omega
  have d2 : decide ((110 : Int) < (n : Int)) = false := by simp; omega
  have d3 : decide ((120 : Int) < (m : Int)) = true := by simp; omega
  obtain ⟨w0, HW, HBw, kC⟩ := stTl O n c K m d w
  have HB_0 : Hid (Below w0.heap.size w0 w0) := Lib.hid (Below.refl _ _)
  go_enter Tryd.func5, Tryd.ntmps5
  go_upto_region 1 with (fail)
  rw [HW.out]
  obtain ⟨zc0, zc1⟩ := kC.out _ HB_0
  have hbF := below_ext HBw.out HB_0.out
  go_wp2
  go_ret
  exact ⟨false, by first | rfl | simp, fun h9 => Bool.noConfusion h9, hbF⟩
set_option maxHeartbeats 3200000 in
theorem few_5 (O : Option Addr) (os : List OrdR) (n c : Nat) (K : Option Addr) (m d : Nat) (hn : Hid (os.length = n)) (h : ¬ 12 < n) (h1 : ¬ 120 < m) (w : World) (hO : Hid (Os w O os)) :
    Calls Tryd.prog 5 #[tlV O n c K m d] w fun e' w' => ∃ b : Bool, e' = .returned (.bool b) ∧ (b = true → n ≤ 110 ∧ m ≤ 120) ∧ Below w.heap.size w w' := by
  have d0 : decide ((12 : Int) < (n : Int)) = false := by simp; omega
  have d2 : decide ((110 : Int) < (n : Int)) = false := by simp; omega
  have d3 : decide ((120 : Int) < (m : Int)) = false := by simp; omega
  obtain ⟨w0, HW, HBw, kC⟩ := stTl O n c K m d w
  have kOs := Lib.hid (show ∀ u : World, Hid (Below w0.heap.size w0 u) → Hid (Os u O os) from fun u h => Lib.hid ((hO.out.below) (below_ext HBw.out h.out)))
  have HB_0 : Hid (Below w0.heap.size w0 w0) := Lib.hid (Below.refl _ _)
  clear hO
  go_enter Tryd.func5, Tryd.ntmps5
  go_upto_region 1 with (fail)
  rw [HW.out]
  obtain ⟨zc0, zc1⟩ := kC.out _ HB_0
  go_wp2_with fail
  refine (cf_idx_f1 O os n c hn (by omega) _ (kOs.out _ HB_0)).mono ?_
  rintro e w1 ⟨b, rfl, hb0⟩
  have HB_1 := Lib.hid (below_ext HB_0.out hb0)
  clear zc0 zc1
  clear hb0
  obtain ⟨zc0, zc1⟩ := kC.out _ HB_1
  have hbF := below_ext HBw.out HB_1.out
  go_wp2
  go_ret
  exact ⟨_, rfl, fun _ => ⟨by omega, by omega⟩, hbF⟩
set_option maxHeartbeats 3200000 in
theorem few_6 (O : Option Addr) (os : List OrdR) (n c : Nat) (K : Option Addr) (m d : Nat) (hn : Hid (os.length = n)) (h : ¬ n ≤ 100) (h2 : n ≤ 110) (h1 : ¬ 120 < m) (w : World) (hO : Hid (Os w O os)) :
    Calls Tryd.prog 5 #[tlV O n c K m d] w fun e' w' => ∃ b : Bool, e' = .returned (.bool b) ∧ (b = true → n ≤ 110 ∧ m ≤ 120) ∧ Below w.heap.size w w' := by
  have d0 : decide ((12 : Int) < (n : Int)) = true := by simp; omega
  have d1 : decide ((n : Int) ≤ 100) = false := by simp; omega
  have d2 : decide ((110 : Int) < (n : Int)) = false := by simp; omega
  have d3 : decide ((120 : Int) < (m : Int)) = false := by simp; omega
  obtain ⟨w0, HW, HBw, kC⟩ := stTl O n c K m d w
  have kOs := Lib.hid (show ∀ u : World, Hid (Below w0.heap.size w0 u) → Hid (Os u O os) from fun u h => Lib.hid ((hO.out.below) (below_ext HBw.out h.out)))
  have HB_0 : Hid (Below w0.heap.size w0 w0) := Lib.hid (Below.refl _ _)
  clear hO
  go_enter Tryd.func5, Tryd.ntmps5
  go_upto_region 1 with (fail)
  rw [HW.out]
  obtain ⟨zc0, zc1⟩ := kC.out _ HB_0
  go_wp2_with fail
  refine (cf_idx_f1 O os n c hn (by omega) _ (kOs.out _ HB_0)).mono ?_
  rintro e w1 ⟨b, rfl, hb0⟩
  have HB_1 := Lib.hid (below_ext HB_0.out hb0)
  clear zc0 zc1
  clear hb0
  obtain ⟨zc0, zc1⟩ := kC.out _ HB_1
  have hbF := below_ext HBw.out HB_1.out
  go_wp2
  go_ret
  exact ⟨_, rfl, fun _ => ⟨by omega, by omega⟩, hbF⟩
theorem few51_any (O : Option Addr) (os : List OrdR) (n c : Nat) (K : Option Addr) (m d : Nat) (hn : Hid (os.length = n)) (w : World) (hO : Hid (Os w O os)) :
    Calls Tryd.prog 5 #[tlV O n c K m d] w fun e' w' => ∃ b : Bool, e' = .returned (.bool b) ∧ (b = true → n ≤ 110 ∧ m ≤ 120) ∧ Below w.heap.size w w' := by
  by_cases h : 12 < n
  · by_cases h1 : n ≤ 100
    · exact few_1 O n c K m d h h1 w
    · by_cases h2 : 110 < n
      · exact few_2 O n c K m d h2 w
      · by_cases h3 : 120 < m
        · exact few_4 O n c K m d h1 (by omega) h3 w
        · exact few_6 O os n c K m d hn h1 (by omega) h3 w hO
  · by_cases h3 : 120 < m
    · exact few_3 O n c K m d h h3 w
    · exact few_5 O os n c K m d hn h h3 w hO
abbrev ordC (o : OrdR) : List Value := [.int .i64 o.num, .string o.rs, .int .i64 o.E1, .int .i64 o.E2, .slice o.A o.na o.ca, .int .i64 o.C, .slice o.Z o.nz o.cz, .slice o.L o.np o.cp, .int .i64 o.key]
abbrev prtC (p : PartR) : List Value := [.int .i64 p.ix, .int .i64 p.v, .slice p.A p.na p.ca, .int .i64 p.C, .slice p.Z p.nz p.cz]
abbrev hshC (h : List Int) : List Value := h.map (Value.int .u8)
theorem ordInfo : (Tryd.prog.info? 46).map (fun i => (i.zero, i.size, i.bytes)) = some (some (.agg #[.int .i64 0, .string ⟨#[]⟩, .int .i64 0, .int .i64 0, .slice none 0 0, .int .i64 0, .slice none 0 0, .slice none 0 0, .int .i64 0]), 9, 128) := by kernel_rfl
theorem prtInfo : (Tryd.prog.info? 56).map (fun i => (i.zero, i.size, i.bytes)) = some (some (.agg #[.int .i64 0, .int .i64 0, .slice none 0 0, .int .i64 0, .slice none 0 0]), 5, 72) := by kernel_rfl
theorem hshInfo : (Tryd.prog.info? 42).map (fun i => (i.zero, i.size, i.bytes)) = some (some (.agg (arr .u8 (zer 32))), 32, 32) := by kernel_rfl
theorem flat_at {α : Type _} (f : α → List Value) (s : Nat) (d : α) : ∀ (l : List α) (k r : Nat), (∀ x ∈ l, (f x).length = s) → r < s → k < l.length → (l.flatMap f)[k * s + r]? = (f (l.getD k d))[r]?
  | [], k, r, _, _, hk => absurd hk (by simp)
  | c :: cs, 0, r, h, hr, _ => by
    rw [List.flatMap_cons, Nat.zero_mul, Nat.zero_add, List.getElem?_append_left (by rw [h c (List.mem_cons_self ..)]; exact hr)]
    rfl
  | c :: cs, k + 1, r, h, hr, hk => by
    have hc := h c (List.mem_cons_self ..)
    rw [List.flatMap_cons, List.getElem?_append_right (by rw [hc, Nat.succ_mul]; omega)]
    rw [show (k + 1) * s + r - (f c).length = k * s + r by rw [hc, Nat.succ_mul]; omega]
    rw [flat_at f s d cs k r (fun x hx => h x (List.mem_cons_of_mem _ hx)) hr (by simpa using hk)]
    rfl
theorem flat_len {α : Type _} (f : α → List Value) (s : Nat) : ∀ (l : List α), (∀ x ∈ l, (f x).length = s) → (l.flatMap f).length = l.length * s
  | [], _ => by simp
  | c :: cs, h => by
    rw [List.flatMap_cons, List.length_append, h c (List.mem_cons_self ..), flat_len f s cs fun x hx => h x (List.mem_cons_of_mem _ hx), List.length_cons, Nat.succ_mul]; omega
theorem flat_news {α : Type _} (f : α → List Value) (s : Nat) (d : α) (hs : 0 < s) {l : List α} {n : Nat} (hn : l.length = n) (h : ∀ x ∈ l, (f x).length = s) {w : World} {b o : Nat}
    (hc : ∀ k, k < n → ∀ r u, (f (l.getD k d))[r]? = some u → w.cell? ⟨b, o + k * s + r, none⟩ = some u) : ∀ j u, (l.flatMap f)[j]? = some u → w.cell? ((⟨b, o, none⟩ : Addr).add j) = some u := fun j u hj => by
  have hlt : j < n * s := by rw [← hn, ← flat_len f s l h]; exact (List.getElem?_eq_some_iff.1 hj).1
  have hk : j / s < n := (Nat.div_lt_iff_lt_mul hs).2 hlt
  have hr : j % s < s := Nat.mod_lt _ hs
  have e : j = j / s * s + j % s := by rw [Nat.mul_comm]; exact (Nat.div_add_mod j s).symm
  rw [e, flat_at f s d l _ _ h hr (by omega)] at hj
  rw [add_off, e, ← Nat.add_assoc]
  exact hc _ hk _ _ hj
theorem own_cells {α : Type _} (f : α → List Value) (s : Nat) (d : α) {w : World} {base n : Nat} {T : TypeId} {v : Value} {l : List α} (h : w.ownsRow base T s v n (l.flatMap f)) (hn : l.length = n) (hl : ∀ x ∈ l, (f x).length = s) (h0 : 0 < n) :
    ∃ g cap, v = .slice (some ⟨g, 0, none⟩) n cap ∧ base ≤ g ∧ g < w.heap.size ∧ n ≤ cap ∧ (∀ j, w.frozen? ⟨g, j, none⟩ = false) ∧ ∀ k, k < n → ∀ r, r < s → w.cell? ⟨g, k * s + r, none⟩ = (f (l.getD k d))[r]? := by
  rcases h.2 with ⟨_, h3⟩ | ⟨g, cap, cur, rfl, hg, hh, hc, _, hs, ht⟩
  · omega
  · refine ⟨g, cap, rfl, hg, (Array.getElem?_eq_some_iff.1 hh).1, hc, fun j => frozen_blk hh j, fun k hk r hr => ?_⟩
    have h1 : k * s + r < n * s := by
      have : (k + 1) * s ≤ n * s := Nat.mul_le_mul_right s hk
      rw [Nat.succ_mul] at this; omega
    rw [cell_blk hh, ← Array.getElem?_toList, ← flat_at f s d l k r hl hr (by omega), ← ht, List.getElem?_take_of_lt h1]
theorem own_slice {w : World} {base n s : Nat} {T : TypeId} {v : Value} {cs : List Value} (h : w.ownsRow base T s v n cs) : ∃ A c, v = .slice A n c ∧ n ≤ c ∧ (∀ b, v.ownBlock = some b → base ≤ b ∧ b < w.heap.size) := by
  have hlt := fun b e => World.ownsRow.lt h b e
  rcases h.2 with ⟨rfl, rfl⟩ | ⟨g, cap, cur, rfl, _, _, hc, _⟩
  · exact ⟨none, 0, rfl, Nat.le_refl _, hlt⟩
  · exact ⟨some ⟨g, 0, none⟩, cap, rfl, hc, hlt⟩
section
variable {P : Program} {w : World}
theorem run_append_zero (base : Nat) (t ty e : TypeId) (i : TypeInfo) (size : Nat) (ht : P.underlying t = some (.slice e)) (hi : P.info? e = some i)
    (v : Value) (n : Nat) (xs : List Value) (hown : w.ownsRow base e size v n xs) (A : Option Addr) (c : Nat) :
    (Builtin.append_ #[t, t] ty #[v, .slice A 0 c]).run P w = .ok v w := by
  rcases hown.2 with ⟨rfl, rfl⟩ | ⟨g, cap, cur, rfl, _, _, hnc, _⟩
  · cases A <;> simp [Builtin.append_, run_underlying ht, sizeOf, typeInfo, hi, Builtin.lenOf, Builtin.firstCells, loadCells, loadCellsFrom]
  · cases A <;> simp [Builtin.append_, run_underlying ht, sizeOf, typeInfo, hi, Builtin.lenOf, Builtin.firstCells, hnc, storeCells, loadCells, loadCellsFrom]
theorem wpList_append_all {ops : Array Oper} {rest : List Oper} {o : Oper} {a : Act} {Q : Exit → Act → World → Prop} (hgd : o.guard = none) (s x : Operand) (t : TypeId)
    (ho : o.op = .call { callee := .builtin .append, args := #[s, x], argTypes := #[t, t] })
    (base : Nat) (e : TypeId) (i : TypeInfo) (z : Value) (size bytes : Nat) (ht : P.underlying t = some (.slice e)) (hi : P.info? e = some i) (hz : i.zero = some z)
    (hsize : i.size = size) (hby : i.bytes = bytes) (hzs : z.cells.size = size) (hsz : 0 < size)
    (v : Value) (n : Nat) (xs : List Value) (hs : a.eval s = v) (hown : w.ownsRow base e size v n xs)
    (A : Option Addr) (m c : Nat) (news : List Value) (hx : a.eval x = .slice A m c) (hl : news.length = m * size) (hnews : 0 < m → ∃ ad, A = some ad ∧ ∀ j u, news[j]? = some u → w.cell? (ad.add j) = some u) (h1 : ∀ u ∈ news, u.oneCell' = true)
    (h63 : n + m ≤ maxLen) (hbytes : (n + m) * bytes ≤ 140737488355328) (hbase : base ≤ w.heap.size)
    (h : ∀ A' c' w', w'.ownsRow base e size (.slice A' (n + m) c') (n + m) (xs ++ news) → w.grownBy w' v.ownBlock → (∀ b, (Value.slice A' (n + m) c').ownBlock = some b → v.ownBlock = some b ∨ b = w.heap.size) → wpList P ops Q rest (a.put o.dst (.slice A' (n + m) c')) w') : wpList P ops Q (o :: rest) a w := by
  by_cases hm : 0 < m
  · obtain ⟨ad, rfl, hn⟩ := hnews hm
    exact wpList_append_lies hgd s x t ho base e i z size bytes ht hi hz hsize hby hzs hsz v n xs hs hown ad m c news hx hl hn h1 hm h63 hbytes hbase _ rfl fun g cap w' q1 q2 q3 q4 => h _ _ w' q1 q2 (fun b e => by cases e; exact q3)
  · obtain rfl : m = 0 := by omega
    obtain rfl : news = [] := List.eq_nil_of_length_eq_zero (by rw [hl, Nat.zero_mul])
    obtain ⟨A', c', rfl, _⟩ := own_slice hown
    refine wpList_plain hgd fun K hK => ?_
    have hrun := run_append_zero (P := P) (w := w) base t o.type e i size ht hi _ n xs hown A c
    unfold Oper.wp
    simp [execOp, ho, resolve, invoke, builtin, hs, hx, hrun, Result.andThen]
    have h9 := hK _ _ (h A' c' w (by simpa using hown) ⟨rfl, rfl, rfl, Nat.le_refl _, fun _ _ _ => rfl⟩ (fun b e => .inl e))
    have h10 : K (a.put o.dst (.slice A' n c')) w := by simpa using h9
    simpa [Oper.upon] using h10
end
theorem hs_own {w : World} {base n c : Nat} {A : Option Addr} {hs : List (List Int)} (h : w.ownsRow base 42 32 (.slice A n c) n (hs.flatMap hshC)) (hn : hs.length = n) (hl : ∀ x ∈ hs, x.length = 32) : Hs w A hs := fun k hk => by
  obtain ⟨g, cap, e, hg, _, _, _, hcs⟩ := own_cells hshC 32 [] h hn (fun x hx => by rw [hshC, List.length_map]; exact hl x hx) (by omega)
  cases e
  have hl2 : (hsL hs k).length = 32 := by
    rw [hsL, List.getD_eq_getElem?_getD, List.getElem?_eq_getElem hk]; exact hl _ (List.getElem_mem hk)
  refine ⟨g, 0, rfl, hl2, fun j v hj => ?_⟩
  have hjl : j < 32 := by have := (List.getElem?_eq_some_iff.1 hj).1; rw [List.length_map, hl2] at this; exact this
  rw [Nat.zero_add, hcs k (by omega) j hjl]
  exact hj
theorem hs_lens {w : World} {K : Option Addr} {hs : List (List Int)} (h : Hs w K hs) : ∀ x ∈ hs, x.length = 32 := fun x hx => by
  obtain ⟨k, hk, rfl⟩ := List.getElem_of_mem hx
  obtain ⟨b, o, _, hl, _⟩ := h k hk
  rw [hsL, List.getD_eq_getElem?_getD, List.getElem?_eq_getElem hk] at hl
  exact hl
theorem hs_news {w : World} {K : Option Addr} {hs : List (List Int)} {m : Nat} (h : Hs w K hs) (hm : hs.length = m) (h0 : 0 < m) : ∃ ad, K = some ad ∧ ∀ j u, (hs.flatMap hshC)[j]? = some u → w.cell? (ad.add j) = some u := by
  obtain ⟨b, o, rfl, _⟩ := h 0 (by omega)
  refine ⟨_, rfl, flat_news hshC 32 [] (by decide) hm (fun x hx => by rw [hshC, List.length_map]; exact hs_lens h x hx) fun k hk r u hr => ?_⟩
  obtain ⟨b', o', e, _, hrg⟩ := h k (by omega)
  cases e
  exact hrg r u hr
theorem hsh_one (hs : List (List Int)) : ∀ u ∈ hs.flatMap hshC, u.oneCell' = true := fun u hu => by
  obtain ⟨h, _, hh⟩ := List.mem_flatMap.1 hu
  obtain ⟨x, _, rfl⟩ := List.mem_map.1 hh
  rfl
theorem prt_one (ps : List PartR) : ∀ u ∈ ps.flatMap prtC, u.oneCell' = true := fun u hu => by
  obtain ⟨p, _, hp⟩ := List.mem_flatMap.1 hu
  simp at hp
  rcases hp with rfl | rfl | rfl | rfl | rfl <;> rfl
theorem pa_news {w : World} {L : Option Addr} {ps : List PartR} {m : Nat} (h : Pa w L ps) (hm : ps.length = m) (h0 : 0 < m) : ∃ ad, L = some ad ∧ ∀ j u, (ps.flatMap prtC)[j]? = some u → w.cell? (ad.add j) = some u := by
  obtain ⟨b, o, rfl, _⟩ := h 0 (by omega)
  refine ⟨_, rfl, flat_news prtC 5 noPart (by decide) hm (fun _ _ => rfl) fun k hk r u hr => ?_⟩
  obtain ⟨b', o', e, c0, c1, c2, c3, c4, _⟩ := h k (by omega)
  cases e
  match r, hr with
  | 0, hr => cases hr; exact c0
  | 1, hr => cases hr; exact c1
  | 2, hr => cases hr; exact c2
  | 3, hr => cases hr; exact c3
  | 4, hr => cases hr; exact c4
  | r + 5, hr => cases hr
def PB (w : World) (b : Nat) (ps : List PartR) : Prop := (∀ j, w.frozen? ⟨b, j, none⟩ = false) ∧ ∀ k, k < ps.length → ∀ r, r < 5 → w.cell? ⟨b, k * 5 + r, none⟩ = (prtC (ps.getD k noPart))[r]?
theorem PB.agree {w w' : World} {b : Nat} {ps : List PartR} (h : PB w b ps) (e : w'.heap[b]? = w.heap[b]?) : PB w' b ps :=
  ⟨fun j => by have := h.1 j; simp only [World.frozen?, e] at this ⊢; exact this, fun k hk r hr => (cell_agree e).trans (h.2 k hk r hr)⟩
theorem PB.pa {w : World} {b : Nat} {ps : List PartR} (h : PB w b ps) (hok : ∀ k, k < ps.length → PaOk w (ps.getD k noPart)) : Pa w (some ⟨b, 0, none⟩) ps := fun k hk => by
  refine ⟨b, 0, rfl, ?_, ?_, ?_, ?_, ?_, hok k hk⟩
  · rw [Nat.zero_add]; exact h.2 k hk 0 (by decide)
  · rw [Nat.zero_add]; exact h.2 k hk 1 (by decide)
  · rw [Nat.zero_add]; exact h.2 k hk 2 (by decide)
  · rw [Nat.zero_add]; exact h.2 k hk 3 (by decide)
  · rw [Nat.zero_add]; exact h.2 k hk 4 (by decide)
abbrev reL (o : OrdR) (L : Option Addr) (c : Nat) : OrdR := { o with L := L, cp := c }
def CpO (B : Nat) (g : Option Nat) (w : World) (o o' : OrdR) : Prop := ∃ L c, o' = reL o L c ∧ o.np ≤ c ∧ (0 < o.np → ∃ b, L = some ⟨b, 0, none⟩ ∧ B < b ∧ b < w.heap.size ∧ g ≠ some b ∧ PB w b o.ps)
theorem CpO.grown {B : Nat} {g g' : Option Nat} {w w' : World} {o o' : OrdR} (h : CpO B g w o o') (hg : w.grownBy w' g) (hz : w.heap.size ≤ w'.heap.size) (hgg : ∀ b, g' = some b → g = some b ∨ w.heap.size ≤ b) : CpO B g' w' o o' := by
  obtain ⟨L, c, e, hc, hp⟩ := h
  refine ⟨L, c, e, hc, fun h0 => ?_⟩
  obtain ⟨b, rfl, h1, h2, h3, h4⟩ := hp h0
  exact ⟨b, rfl, h1, by omega, fun e => by rcases hgg b e with e2 | e2; exact h3 e2; omega, h4.agree (hg.block b h2 (fun e => h3 e.symm))⟩
theorem CpO.kept {B : Nat} {g : Option Nat} {w w' : World} {o o' : OrdR} (h : CpO B g w o o') (hb : Below w.heap.size w w') : CpO B g w' o o' := by
  obtain ⟨L, c, e, hc, hp⟩ := h
  refine ⟨L, c, e, hc, fun h0 => ?_⟩
  obtain ⟨b, rfl, h1, h2, h3, h4⟩ := hp h0
  exact ⟨b, rfl, h1, by have := hb.size; omega, h3, h4.agree (hb.block b h2)⟩
theorem CpO.setCell {B a j : Nat} {g : Option Nat} {w : World} {o o' : OrdR} {v : Value} (h : CpO B g w o o') (ha : a ≤ B) : CpO B g (w.setCell ⟨a, j, none⟩ v) o o' := by
  obtain ⟨L, c, e, hc, hp⟩ := h
  refine ⟨L, c, e, hc, fun h0 => ?_⟩
  obtain ⟨b, rfl, h1, h2, h3, h4⟩ := hp h0
  exact ⟨b, rfl, h1, by rw [World.size_setCell]; exact h2, h3, h4.agree (Go.Deep.blk_setCell_other _ _ _ _ (show b ≠ a by omega))⟩
theorem own_below {w w' : World} {B base s n : Nat} {T : TypeId} {v : Value} {cs : List Value} (h : w.ownsRow base T s v n cs) (hb : Below B w w') (hlt : ∀ b, v.ownBlock = some b → b < B) : w'.ownsRow base T s v n cs := by
  refine ⟨h.1, h.2.imp id ?_⟩
  rintro ⟨g, cap, cur, rfl, hg, hh, rest⟩
  exact ⟨g, cap, cur, rfl, hg, (hb.block g (hlt g rfl)).trans hh, rest⟩
theorem own_mono {w : World} {B base s n : Nat} {T : TypeId} {v : Value} {cs : List Value} (h : w.ownsRow base T s v n cs) (hb : B ≤ base) : w.ownsRow B T s v n cs := by
  refine ⟨h.1, h.2.imp id ?_⟩
  rintro ⟨g, cap, cur, rfl, hg, rest⟩
  exact ⟨g, cap, cur, rfl, Nat.le_trans hb hg, rest⟩
theorem orL_app_l {os : List OrdR} {o : OrdR} {j : Nat} (h : j < os.length) : orL (os ++ [o]) j = orL os j := by
  rw [orL, orL, List.getD_eq_getElem?_getD, List.getElem?_append_left h, ← List.getD_eq_getElem?_getD]
theorem orL_app_r {os : List OrdR} {o : OrdR} {k : Nat} (h : os.length = k) : orL (os ++ [o]) k = o := by
  rw [orL, List.getD_eq_getElem?_getD, List.getElem?_append_right (by omega), h, Nat.sub_self]; rfl
theorem new_any (w : World) : Calls Tryd.prog 11 #[] w fun e' w' => e' = .returned (tlV none 0 0 none 0 0) ∧ Below w.heap.size w w' := by
  have HR0 : Hid ((w.alloc (.cells #[.slice none 0 0, .slice none 0 0] 25)).heap[w.heap.size]? = some (.cells #[.slice none 0 0, .slice none 0 0] 25 (0, 0))) := Lib.hid (heap_alloc_new _ _)
  go_enter Tryd.func11, Tryd.ntmps11
  go_wp2_with ((with_reducible show wpList _ _ _ (⟨none, _, _, _, _, _⟩ :: _) _ _); refine wpList_store_row rfl 25 _ _ rfl (w.heap.size) #[.slice none 0 0, .slice none 0 0] rfl rfl _ _ HR0.out (by kernel_rfl) rfl (by simp [Value.oneCell']) ?_)
  have hrw := setRow_heap _ _ _ #[.slice none 0 0, .slice none 0 0] _ _ HR0.out
  exact bodyPost_ret (v := tlV none 0 0 none 0 0) (results_cell1 (p := 0) (ty := 25) rfl _ _ ⟨w.heap.size, 0, none⟩ _ rfl (run_loadVar_row _ _ _ _ _ _ _ hrw Tryd.underlying25 rfl (by kernel_rfl))) rfl ⟨rfl, below_setRow' (below_box0 _ _) (Nat.le_refl _)⟩
def opnB (os : List OrdR) (n : Nat) : Bool := decide (0 < n) && ((orL os (n - 1)).key == 0)
set_option maxHeartbeats 3200000 in
theorem open_0 (O : Option Addr) (c : Nat) (K : Option Addr) (m d : Nat) (w : World) :
    Calls Tryd.prog 27 #[tlV O 0 c K m d] w fun e' w' => e' = .returned (.bool false) ∧ Below w.heap.size w w' := by
  obtain ⟨w0, HW, HBw, kC⟩ := stTl O 0 c K m d w
  have HB_0 : Hid (Below w0.heap.size w0 w0) := Lib.hid (Below.refl _ _)
  go_enter Tryd.func27, Tryd.ntmps27
  go_wp2_with fail
  rw [HW.out]
  obtain ⟨zc0, zc1⟩ := kC.out _ HB_0
  have hbF := below_ext HBw.out HB_0.out
  go_wp2
  go_ret
  exact ⟨rfl, hbF⟩
set_option maxHeartbeats 6400000 in
theorem open_1 (O : Option Addr) (os : List OrdR) (n c : Nat) (K : Option Addr) (m d : Nat) (hn : Hid (os.length = n + 1)) (hb : n ≤ 1000000) (r : Bool) (hr : Hid (opnB os (n + 1) = r)) (w : World) (hO : Hid (Os w O os)) :
    Calls Tryd.prog 27 #[tlV O (n + 1) c K m d] w fun e' w' => e' = .returned (.bool r) ∧ Below w.heap.size w w' := by
  obtain ⟨w0, HW, HBw, kC⟩ := stTl O (n + 1) c K m d w
  have kOs := Lib.hid (show ∀ u : World, Hid (Below w0.heap.size w0 u) → Hid (Os u O os) from fun u h => Lib.hid ((hO.out.below) (below_ext HBw.out h.out)))
  have HB_0 : Hid (Below w0.heap.size w0 w0) := Lib.hid (Below.refl _ _)
  clear hO
  obtain ⟨b, f, hA, h9, hok⟩ := (kOs.out _ HB_0).out n (by rw [hn.out]; omega)
  subst hA
  obtain ⟨o, ho⟩ : ∃ o, os.getD n noOrd = o := ⟨_, rfl⟩
  rw [ho] at h9
  have hr1 := hr.out
  rw [opnB, show n + 1 - 1 = n by omega, orL, ho, decide_eq_true (show 0 < n + 1 by omega), Bool.true_and] at hr1
  have HX := Lib.hid h9.2.2.2.2.2.2.2.2
  have dw : IntKind.i64.wrap ((n : Int) + 1 - 1) = (n : Int) := by rw [show (n : Int) + 1 - 1 = n by omega]; exact IntWalk.i64_in _ (by omega)
  have dw2 : wrap64 ((n : Int) + 1 - 1) = (n : Int) := by rw [show (n : Int) + 1 - 1 = n by omega]; exact IntWalk.wrap64_in _ (by omega)
  have dpos : decide ((0 : Int) < (n : Int) + 1) = true := decide_eq_true (by omega)
  have x8 := HX.out
  clear ho h9 hok
  go_enter Tryd.func27, Tryd.ntmps27
  go_upto_region 1 with (fail)
  rw [HW.out]
  obtain ⟨zc0, zc1⟩ := kC.out _ HB_0
  have hbF := below_ext HBw.out HB_0.out
  go_wp2
  go_ret
  exact ⟨by first | rfl | rw [hr1], hbF⟩
theorem before_0 (O : Option Addr) (n c : Nat) (K : Option Addr) (m d : Nat) (w : World) : Calls Tryd.prog 35 #[tlV O n c K m d, .int .i64 0] w fun e' w' => e' = .returned (.agg (arr .u8 (zer 32))) ∧ Below w.heap.size w w' := by
  obtain ⟨W, hW⟩ : ∃ W, (w.alloc (tlO O n c K m d)).alloc (.cells #[.int .u8 0, .int .u8 0, .int .u8 0, .int .u8 0, .int .u8 0, .int .u8 0, .int .u8 0, .int .u8 0, .int .u8 0, .int .u8 0, .int .u8 0, .int .u8 0, .int .u8 0, .int .u8 0, .int .u8 0, .int .u8 0, .int .u8 0, .int .u8 0, .int .u8 0, .int .u8 0, .int .u8 0, .int .u8 0, .int .u8 0, .int .u8 0, .int .u8 0, .int .u8 0, .int .u8 0, .int .u8 0, .int .u8 0, .int .u8 0, .int .u8 0, .int .u8 0] 42) = W := ⟨_, rfl⟩
  have HBX : Hid (Below w.heap.size w W) := Lib.hid (by rw [← hW]; exact below_two (Below.refl _ _))
  have HR0 : Hid (Blk .u8 42 W (w.heap.size + 1) (zer 32)) := Lib.hid (by rw [← hW, zarrh]; exact heap_alloc2_new _ _ _)
  have HW := Lib.hid hW
  clear hW
  go_enter Tryd.func35, Tryd.ntmps35
  go_upto_region 1 with (fail)
  rw [HW.out]
  go_wp2_with ((with_reducible show wpList _ _ _ (⟨none, _, _, _, _, _⟩ :: _) _ _); refine wpList_store_row rfl 42 _ _ rfl (w.heap.size + 1) (arr .u8 (zer 32)) rfl rfl _ _ HR0.out (hash_info (by simp [zer])) rfl (arr_one _) ?_)
  have hrw := HR0.out.setRow (l' := zer 32)
  exact bodyPost_ret (v := .agg (arr .u8 (zer 32))) (results_cell1 (p := 4) (ty := 42) rfl _ _ ⟨w.heap.size + 1, 0, none⟩ _ rfl (run_loadVar_row _ _ _ _ _ _ _ hrw Tryd.underlying42 rfl (hash_info (by simp [zer])))) rfl ⟨rfl, below_setRow' HBX.out (Nat.le_succ _)⟩
set_option maxHeartbeats 6400000 in
theorem digest_0 (O : Option Addr) (os : List OrdR) (n c : Nat) (K : Option Addr) (d : Nat) (hn : Hid (os.length = n)) (hI : ∀ k, k < n → OrdI (orL os k)) (hb1 : n ≤ 1000000) (hr : Kp (trlB os [] = true)) (w : World) (hv : Hid (VarsD w)) (hO : Hid (Os w O os)) (hK : Hid (Hs w K [])) :
    Calls Tryd.prog 14 #[tlV O n c K 0 d] w fun e' w' => e' = .returned (.agg (arr .u8 (zer 32))) ∧ Below w.heap.size w w' := by
  obtain ⟨w0, hW⟩ : ∃ W, ((w.alloc (tlO O n c K 0 d)).alloc (.cells #[.int .u8 0, .int .u8 0, .int .u8 0, .int .u8 0, .int .u8 0, .int .u8 0, .int .u8 0, .int .u8 0, .int .u8 0, .int .u8 0, .int .u8 0, .int .u8 0, .int .u8 0, .int .u8 0, .int .u8 0, .int .u8 0, .int .u8 0, .int .u8 0, .int .u8 0, .int .u8 0, .int .u8 0, .int .u8 0, .int .u8 0, .int .u8 0, .int .u8 0, .int .u8 0, .int .u8 0, .int .u8 0, .int .u8 0, .int .u8 0, .int .u8 0, .int .u8 0] 42)) = W := ⟨_, rfl⟩
  have HBw : Hid (Below w.heap.size w w0) := Lib.hid (by rw [← hW]; exact below_two (Below.refl _ _))
  have hc : w0.cell? ⟨w.heap.size, 0, none⟩ = some (.slice O n c) ∧ w0.cell? ⟨w.heap.size, 1, none⟩ = some (.slice K 0 d) := by rw [← hW]; exact ⟨cell_below (allocs_cell (by simp) (by rfl)) (below_box0 _ _), cell_below (allocs_cell (by simp) (by rfl)) (below_box0 _ _)⟩
  have kC := Lib.hid (show ∀ u : World, Hid (Below w0.heap.size w0 u) → u.cell? ⟨w.heap.size, 0, none⟩ = some (.slice O n c) ∧ u.cell? ⟨w.heap.size, 1, none⟩ = some (.slice K 0 d) from fun u h => ⟨cell_below hc.1 h.out, cell_below hc.2 h.out⟩)
  have kD := Lib.hid (show ∀ u : World, Hid (Below w0.heap.size w0 u) → Hid (VarsD u) from fun u h => Lib.hid ((hv.out.below) (below_ext HBw.out h.out)))
  have kOs := Lib.hid (show ∀ u : World, Hid (Below w0.heap.size w0 u) → Hid (Os u O os) from fun u h => Lib.hid ((hO.out.below) (below_ext HBw.out h.out)))
  have kHs := Lib.hid (show ∀ u : World, Hid (Below w0.heap.size w0 u) → Hid (Hs u K []) from fun u h => Lib.hid ((hK.out.below) (below_ext HBw.out h.out)))
  have HB_0 : Hid (Below w0.heap.size w0 w0) := Lib.hid (Below.refl _ _)
  have HW := Lib.hid hW
  have kRB := Lib.hid (show ∀ u : World, Hid (Below w0.heap.size w0 u) → Hid (Blk .u8 42 u (w.heap.size + 1) (zer 32)) from fun u h9 => Lib.hid (Blk.below (by rw [← hW, zarrh]; exact heap_alloc2_new _ _ _) h9.out))
  clear hW hc hv hO hK
  go_enter Tryd.func14, Tryd.ntmps14
  go_upto_region 1 with (fail)
  rw [HW.out]
  obtain ⟨zc0, zc1⟩ := kC.out _ HB_0
  go_wp2_with fail
  refine (tval_any O os n c K [] 0 d hn (Lib.hid rfl) hI hb1 (by omega) true hr _ (kD.out _ HB_0) (kOs.out _ HB_0) (kHs.out _ HB_0)).mono ?_
  rintro e w1 ⟨rfl, hb0⟩
  have HB_1 := Lib.hid (below_ext HB_0.out hb0)
  clear zc0 zc1
  clear hb0
  obtain ⟨zc0, zc1⟩ := kC.out _ HB_1
  go_wp2_with fail
  refine (before_0 O n c K 0 d _).mono ?_
  rintro e w2 ⟨rfl, hb0⟩
  have HB_2 := Lib.hid (below_ext HB_1.out hb0)
  clear zc0 zc1
  clear hb0
  obtain ⟨zc0, zc1⟩ := kC.out _ HB_2
  have HRF := kRB.out _ HB_2
  have hbF := below_setRow' (below_ext HBw.out HB_2.out) (cs := arr .u8 (zer 32)) (Nat.le_add_right w.heap.size 1)
  go_wp2_with ((with_reducible show wpList _ _ _ (⟨none, _, _, _, _, _⟩ :: _) _ _); refine wpList_store_row rfl 42 _ _ rfl (w.heap.size + 1) (arr .u8 (zer 32)) rfl rfl _ _ HRF.out (hash_info (by simp [zer])) rfl (arr_one _) ?_)
  have hrw := HRF.out.setRow (l' := zer 32)
  exact bodyPost_ret (v := .agg (arr .u8 (zer 32))) (results_cell1 (p := 2) (ty := 42) rfl _ _ ⟨w.heap.size + 1, 0, none⟩ _ rfl (run_loadVar_row _ _ _ _ _ _ _ hrw Tryd.underlying42 rfl (hash_info (by simp [zer])))) rfl ⟨rfl, hbF⟩
theorem cloneh_0 (w : World) : Calls Tryd.prog 49 #[.slice none 0 0] w fun e' w' => e' = .returned (.slice none 0 0) ∧ Below w.heap.size w w' := by
  have hq : ∀ w, (binOp .eql 23 (.slice none 0 0) (.slice none 0 0)).run Tryd.prog w = .ok (.bool true) w := fun w => by kernel_rfl
  go_enter Tryd.func49, Tryd.ntmps49
  go_wp2
  go_ret
  exact ⟨rfl, Below.refl _ _⟩
set_option maxHeartbeats 6400000 in
theorem cloned_0 (w : World) :
    Calls Tryd.prog 29 #[tlV none 0 0 none 0 0] w fun e' w' => e' = .returned (tlV none 0 0 none 0 0) ∧ Below w.heap.size w w' := by
  obtain ⟨w0, hW⟩ : ∃ W, ((w.alloc (tlO none 0 0 none 0 0)).alloc (.cells #[.slice none 0 0, .slice none 0 0] 25)) = W := ⟨_, rfl⟩
  have HBw : Hid (Below w.heap.size w w0) := Lib.hid (by rw [← hW]; exact below_two (Below.refl _ _))
  have hc : w0.cell? ⟨w.heap.size, 0, none⟩ = some (.slice none 0 0) ∧ w0.cell? ⟨w.heap.size, 1, none⟩ = some (.slice none 0 0) := by rw [← hW]; exact ⟨cell_below (allocs_cell (by simp) (by rfl)) (below_box0 _ _), cell_below (allocs_cell (by simp) (by rfl)) (below_box0 _ _)⟩
  have kC := Lib.hid (show ∀ u : World, Hid (Below w0.heap.size w0 u) → u.cell? ⟨w.heap.size, 0, none⟩ = some (.slice none 0 0) ∧ u.cell? ⟨w.heap.size, 1, none⟩ = some (.slice none 0 0) from fun u h => ⟨cell_below hc.1 h.out, cell_below hc.2 h.out⟩)
  have HB_0 : Hid (Below w0.heap.size w0 w0) := Lib.hid (Below.refl _ _)
  have HW := Lib.hid hW
  have kRB := Lib.hid (show ∀ u : World, Hid (Below w0.heap.size w0 u) → Hid (u.heap[w.heap.size + 1]? = some (.cells #[.slice none 0 0, .slice none 0 0] 25)) from fun u h => Lib.hid (blk_below (by rw [← hW]; exact heap_alloc2_new _ _ _) h.out))
  clear hW hc 
  go_enter Tryd.func29, Tryd.ntmps29
  go_upto_region 1 with (fail)
  rw [HW.out]
  obtain ⟨zc0, zc1⟩ := kC.out _ HB_0
  go_wp2_with fail
  refine (cloneh_0 _).mono ?_
  rintro e w1 ⟨rfl, hb0⟩
  have HB_1 := Lib.hid (below_ext HB_0.out hb0)
  clear zc0 zc1
  clear hb0
  obtain ⟨zc0, zc1⟩ := kC.out _ HB_1
  have hq0 := below_box0 w1 (.cells #[.slice none 0 0, .slice none 0 0] 25)
  have HB_2 := Lib.hid (below_ext HB_1.out hq0)
  clear hq0
  obtain ⟨zc0x, zc1x⟩ := kC.out _ HB_2
  have hbk : (w1.alloc (.cells #[.slice none 0 0, .slice none 0 0] 25)).heap[w1.heap.size]? = some (.cells #[.slice none 0 0, .slice none 0 0] 25) := heap_alloc_new _ _
  have y0 := cell_blk hbk 0
  have y1 := cell_blk hbk 1
  clear hbk
  go_wp2
  go_loopw [16] (fun i u => i = .int .i64 0 ∧ u = w1.alloc (.cells #[.slice none 0 0, .slice none 0 0] 25)) (fun _ _ => 0)
  case atStart => exact ⟨rfl, rfl⟩
  case round =>
    obtain ⟨rfl, rfl⟩ := hrel
    have HRF := kRB.out _ HB_2
    have hbF := below_setRow' (below_ext HBw.out HB_2.out) (cs := #[.slice none 0 0, .slice none 0 0]) (Nat.le_add_right w.heap.size 1)
    go_wp2_with ((with_reducible show wpList _ _ _ (⟨none, _, _, _, _, _⟩ :: _) _ _); refine wpList_store_row rfl 25 _ _ rfl (w.heap.size + 1) #[.slice none 0 0, .slice none 0 0] rfl rfl _ _ HRF.out (by kernel_rfl) rfl (by simp [Value.oneCell']) ?_)
    have hrw := setRow_heap _ _ _ #[.slice none 0 0, .slice none 0 0] _ _ HRF.out
    exact bodyPost_ret (v := tlV none 0 0 none 0 0) (results_cell1 (p := 2) (ty := 25) rfl _ _ ⟨w.heap.size + 1, 0, none⟩ _ rfl (run_loadVar_row _ _ _ _ _ _ _ hrw Tryd.underlying25 rfl (by kernel_rfl))) rfl ⟨rfl, hbF⟩
end Go.Proofs.YtofkihlpbfcdkaaDoor
