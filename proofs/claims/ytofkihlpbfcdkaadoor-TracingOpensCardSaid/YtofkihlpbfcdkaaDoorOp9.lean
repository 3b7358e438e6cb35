/- Contracts and lemmas: TlU, TlH. -/
import Derived.Test.YtofkihlpbfcdkaaDoorOp8
namespace Go.Proofs.YtofkihlpbfcdkaaDoor
open Go.RowKit SpM
set_option linter.unusedVariables false
set_option linter.unusedSimpArgs false
set_option maxRecDepth 100000
set_option maxHeartbeats 25600000 in
theorem rlabel51_any (bO fO : Nat) (os : List OrdR) (n c : Nat) (K : Option Addr) (hs : List (List Int)) (m d i : Nat) (hn : Hid (os.length = n)) (hm : Hid (hs.length = m)) (hi : i < n) (him : i ≤ m) (hb1 : n ≤ 1000000) (hb2 : m ≤ 1000000) (h : List Int) (hh : Hid (befL hs i = h)) (hl : Hid (h.length = 32)) (hb : Hid (bytesB h = true)) (o : OrdR) (ho : Hid (orL os i = o)) (hI : Hid (OrdI o)) (hS : OrdS o) (w : World) (hv : Hid (VarsD w)) (hO : Hid (Os w (some ⟨bO, fO, none⟩) os)) (hK : Hid (Hs w K hs)) :
    Calls Tryd.prog 17 #[tlV (some ⟨bO, fO, none⟩) n c K m d, .int .i64 (i : Int)] w fun e' w' => e' = .returned (.string (lbS h o)) ∧ Below w.heap.size w w' := by
  obtain ⟨RR, hRR⟩ : ∃ R, tagged (bys tagLb) (enc (lbIt h o)) = R := ⟨_, rfl⟩
  rw [show lbS h o = (⟨#[116, 114, 97, 99, 101, 58]⟩ : ByteArray) ++ (txt (hexL (tagged (bys tagLb) (enc (lbIt h o))))).extract 0 16 from rfl, hRR]
  have HRR : Kp (tagged (bys tagLb) (enc (lbIt h o)) = RR) := ⟨hRR⟩
  have HRL : Hid (RR.length = 32) := Lib.hid (by rw [← hRR]; exact tagged_len _ _)
  have HRB : Hid (isB RR) := Lib.hid (by rw [← hRR]; exact isB_of (sha_bytes _))
  have HFIT : Hid (fits 8 (lbIt h o)) := Lib.hid (fits_lb hl.out hb.out hI.out hS)
  have HLEN : Hid ((enc (lbIt h o)).length ≤ 16384) := Lib.hid (enc_lb hl.out hS)
  clear hRR
  have hxs : (txt (hexL RR)).size = 64 := by rw [txt_size, hexL_len, HRL.out]
  obtain ⟨E, hE⟩ : ∃ E, enc (lbIt h o) = E := ⟨_, rfl⟩
  have HEB : Hid (bytesB E = true) := Lib.hid (by rw [← hE]; exact enc_bytes HFIT.out)
  have HEL : Hid (0 < E.length ∧ E.length ≤ 16384) := Lib.hid (by rw [← hE]; exact ⟨enc_pos _, HLEN.out⟩)
  have HEE : Kp (enc (lbIt h o) = E) := ⟨hE⟩
  obtain ⟨nE, hnE⟩ : ∃ n, E.length = n := ⟨_, rfl⟩
  have HEN := Lib.hid hnE
  rw [hnE] at HEL
  obtain ⟨he0, he1⟩ := HEL.out
  rw [← hnE] at HEL
  clear hE hnE
  obtain ⟨w0, HW, HBw, kC⟩ := stTl (some ⟨bO, fO, none⟩) n c K m d w
  have kO := Lib.hid (show ∀ u : World, Hid (Below w0.heap.size w0 u) → Hid (Os u (some ⟨bO, fO, none⟩) os) from fun u h => Lib.hid ((hO.out.below) (below_ext HBw.out h.out)))
  have kK := Lib.hid (show ∀ u : World, Hid (Below w0.heap.size w0 u) → Hid (Hs u K hs) from fun u h => Lib.hid ((hK.out.below) (below_ext HBw.out h.out)))
  have kD := Lib.hid (show ∀ u : World, Hid (Below w0.heap.size w0 u) → Hid (VarsD u) from fun u h => Lib.hid ((hv.out.below) (below_ext HBw.out h.out)))
  have HB_0 : Hid (Below w0.heap.size w0 w0) := Lib.hid (Below.refl _ _)
  clear hO hK hv
  obtain ⟨bX, fX, hX, hnine, hok⟩ := ((kO.out _ HB_0)).out i (by rw [hn.out]; exact hi)
  cases hX
  rw [show os.getD i noOrd = o from ho.out] at hnine hok
  obtain ⟨j0, j1, j2, j3, j4, j5, j6, j7, j8⟩ := hnine
  have HOK := Lib.hid hok
  clear hok
  go_enter Tryd.func17, Tryd.ntmps17
  go_upto_region 1 with (fail)
  rw [HW.out]
  obtain ⟨zc0, zc1⟩ := kC.out _ HB_0
  have hq := below_box0 w0 (orO o)
  have HB_1 := Lib.hid (below_ext HB_0.out hq)
  have hc : (w0.alloc (orO o)).cell? ⟨w0.heap.size, 0, none⟩ = some (.int .i64 o.num) ∧ (w0.alloc (orO o)).cell? ⟨w0.heap.size, 1, none⟩ = some (.string o.rs) ∧ (w0.alloc (orO o)).cell? ⟨w0.heap.size, 2, none⟩ = some (.int .i64 o.E1) ∧ (w0.alloc (orO o)).cell? ⟨w0.heap.size, 3, none⟩ = some (.int .i64 o.E2) ∧ (w0.alloc (orO o)).cell? ⟨w0.heap.size, 4, none⟩ = some (.slice o.A o.na o.ca) ∧ (w0.alloc (orO o)).cell? ⟨w0.heap.size, 5, none⟩ = some (.int .i64 o.C) ∧ (w0.alloc (orO o)).cell? ⟨w0.heap.size, 6, none⟩ = some (.slice o.Z o.nz o.cz) ∧ (w0.alloc (orO o)).cell? ⟨w0.heap.size, 7, none⟩ = some (.slice o.L o.np o.cp) ∧ (w0.alloc (orO o)).cell? ⟨w0.heap.size, 8, none⟩ = some (.int .i64 o.key) := ⟨allocs_cell rfl (by rfl), allocs_cell rfl (by rfl), allocs_cell rfl (by rfl), allocs_cell rfl (by rfl), allocs_cell rfl (by rfl), allocs_cell rfl (by rfl), allocs_cell rfl (by rfl), allocs_cell rfl (by rfl), allocs_cell rfl (by rfl)⟩
  have HC1 := Lib.hid hc
  clear hq
  obtain ⟨zc0x, zc1x⟩ := kC.out _ HB_1
  obtain ⟨zq0, zq1, zq2, zq3, zq4, zq5, zq6, zq7, zq8⟩ := hc
  go_upto_region 2 with (fail)
  obtain ⟨w1, hw⟩ : ∃ x, (w0.alloc (orO o)) = x := ⟨_, rfl⟩
  rw [hw] at HC1 HB_1 ⊢
  have HSN1 : Hid (w1.heap.size = w0.heap.size + 1) := Lib.hid (by rw [← hw]; simp)
  clear zc0 zc1 zc0x zc1x zq0 zq1 zq2 zq3 zq4 zq5 zq6 zq7 zq8
  clear hw
  have HB_w1_1 : Hid (Below w1.heap.size w1 w1) := Lib.hid (Below.refl _ _)
  have kE := Lib.hid (show ∀ u : World, Hid (Below w1.heap.size w1 u) → u.cell? ⟨w0.heap.size, 0, none⟩ = some (.int .i64 o.num) ∧ u.cell? ⟨w0.heap.size, 1, none⟩ = some (.string o.rs) ∧ u.cell? ⟨w0.heap.size, 2, none⟩ = some (.int .i64 o.E1) ∧ u.cell? ⟨w0.heap.size, 3, none⟩ = some (.int .i64 o.E2) ∧ u.cell? ⟨w0.heap.size, 4, none⟩ = some (.slice o.A o.na o.ca) ∧ u.cell? ⟨w0.heap.size, 5, none⟩ = some (.int .i64 o.C) ∧ u.cell? ⟨w0.heap.size, 6, none⟩ = some (.slice o.Z o.nz o.cz) ∧ u.cell? ⟨w0.heap.size, 7, none⟩ = some (.slice o.L o.np o.cp) ∧ u.cell? ⟨w0.heap.size, 8, none⟩ = some (.int .i64 o.key) from fun u h => ⟨cell_below HC1.out.1 h.out, cell_below HC1.out.2.1 h.out, cell_below HC1.out.2.2.1 h.out, cell_below HC1.out.2.2.2.1 h.out, cell_below HC1.out.2.2.2.2.1 h.out, cell_below HC1.out.2.2.2.2.2.1 h.out, cell_below HC1.out.2.2.2.2.2.2.1 h.out, cell_below HC1.out.2.2.2.2.2.2.2.1 h.out, cell_below HC1.out.2.2.2.2.2.2.2.2 h.out⟩)
  obtain ⟨zc0, zc1⟩ := kC.out _ HB_1
  obtain ⟨kE_0, kE_1, kE_2, kE_3, kE_4, kE_5, kE_6, kE_7, kE_8⟩ := kE.out _ HB_w1_1
  clear j0 j1 j2 j3 j4 j5 j6 j7 j8
  obtain ⟨zc0, zc1⟩ := kC.out _ HB_1
  obtain ⟨kE_0, kE_1, kE_2, kE_3, kE_4, kE_5, kE_6, kE_7, kE_8⟩ := kE.out _ HB_w1_1
  obtain ⟨q1, q2⟩ : Hid (o.al.length = o.na) ∧ Hid (o.zs.length = o.nz) := ⟨Lib.hid HOK.out.1, Lib.hid HOK.out.2.1⟩
  have bna : o.na ≤ 20 := by rw [← q1.out]; exact hS.a
  have bnz : o.nz ≤ 20 := by rw [← q2.out]; exact hS.z
  have kA := Lib.hid (show ∀ u : World, Hid (Below w0.heap.size w0 u) → Hid (Sl u o.A o.al) from fun u h => Lib.hid (HOK.out.2.2.2.1.below h.out))
  have kZ := Lib.hid (show ∀ u : World, Hid (Below w0.heap.size w0 u) → Hid (Sl u o.Z o.zs) from fun u h => Lib.hid (HOK.out.2.2.2.2.1.below h.out))
  have hrs0 : 1 ≤ o.rs.size := hS.r0
  have hrs1 : o.rs.size ≤ 1000 := by have := hS.r1; omega
  obtain ⟨zc0, zc1⟩ := kC.out _ HB_1
  obtain ⟨kE_0, kE_1, kE_2, kE_3, kE_4, kE_5, kE_6, kE_7, kE_8⟩ := kE.out _ HB_w1_1
  try simp only [Act.put]
  clear zc0 zc1 kE_0 kE_1 kE_2 kE_3 kE_4 kE_5 kE_6 kE_7 kE_8
  have hBx := Lib.hid (show ∀ u u2 : World, Hid (Below w0.heap.size w0 u ∧ Below w1.heap.size w1 u) → Below u.heap.size u u2 → Hid (Below w0.heap.size w0 u2 ∧ Below w1.heap.size w1 u2) from fun u u2 h1 h2 => Lib.hid ⟨(below_ext h1.out.1 h2), (below_ext h1.out.2 h2)⟩)
  have hS := Lib.hid (show ∀ u : World, Hid (Below w0.heap.size w0 u ∧ Below w1.heap.size w1 u) → (u.cell? ⟨w.heap.size, 0, none⟩ = some (.slice (some ⟨bO, fO, none⟩) n c) ∧ u.cell? ⟨w.heap.size, 1, none⟩ = some (.slice K m d) ∧ u.cell? ⟨w0.heap.size, 0, none⟩ = some (.int .i64 o.num) ∧ u.cell? ⟨w0.heap.size, 1, none⟩ = some (.string o.rs) ∧ u.cell? ⟨w0.heap.size, 2, none⟩ = some (.int .i64 o.E1) ∧ u.cell? ⟨w0.heap.size, 3, none⟩ = some (.int .i64 o.E2) ∧ u.cell? ⟨w0.heap.size, 4, none⟩ = some (.slice o.A o.na o.ca) ∧ u.cell? ⟨w0.heap.size, 5, none⟩ = some (.int .i64 o.C) ∧ u.cell? ⟨w0.heap.size, 6, none⟩ = some (.slice o.Z o.nz o.cz) ∧ u.cell? ⟨w0.heap.size, 7, none⟩ = some (.slice o.L o.np o.cp) ∧ u.cell? ⟨w0.heap.size, 8, none⟩ = some (.int .i64 o.key)) from fun u h1 => by
    obtain ⟨y0, y1⟩ := kC.out _ (Lib.hid h1.out.1)
    obtain ⟨kE_0, kE_1, kE_2, kE_3, kE_4, kE_5, kE_6, kE_7, kE_8⟩ := kE.out _ (Lib.hid h1.out.2)
    exact ⟨y0, y1, kE_0, kE_1, kE_2, kE_3, kE_4, kE_5, kE_6, kE_7, kE_8⟩)
  have HBA : Hid (Below w0.heap.size w0 w1 ∧ Below w1.heap.size w1 w1) := Lib.hid ⟨HB_1.out, HB_w1_1.out⟩
  have HBD := hBx.out _ _ HBA (Below.refl _ _).drew
  refine wp_region_T (S := fun w' => w'.cell? ⟨w.heap.size, 0, none⟩ = some (.slice (some ⟨bO, fO, none⟩) n c) ∧ w'.cell? ⟨w.heap.size, 1, none⟩ = some (.slice K m d) ∧ w'.cell? ⟨w0.heap.size, 0, none⟩ = some (.int .i64 o.num) ∧ w'.cell? ⟨w0.heap.size, 1, none⟩ = some (.string o.rs) ∧ w'.cell? ⟨w0.heap.size, 2, none⟩ = some (.int .i64 o.E1) ∧ w'.cell? ⟨w0.heap.size, 3, none⟩ = some (.int .i64 o.E2) ∧ w'.cell? ⟨w0.heap.size, 4, none⟩ = some (.slice o.A o.na o.ca) ∧ w'.cell? ⟨w0.heap.size, 5, none⟩ = some (.int .i64 o.C) ∧ w'.cell? ⟨w0.heap.size, 6, none⟩ = some (.slice o.Z o.nz o.cz) ∧ w'.cell? ⟨w0.heap.size, 7, none⟩ = some (.slice o.L o.np o.cp) ∧ w'.cell? ⟨w0.heap.size, 8, none⟩ = some (.int .i64 o.key)) (E := [18]) (by kernel_rfl) (hS.out _ HBD) (fun hHeld => ?_)
  obtain ⟨wD, hwD⟩ : ∃ u, w1.drew = u := ⟨_, rfl⟩
  rw [hwD] at HBD hHeld ⊢
  have HSZD : Hid (w1.heap.size ≤ wD.heap.size) := Lib.hid (by rw [← hwD]; exact Nat.le_refl _)
  clear hwD
  refine tkV 0 ?_
  try simp only [qq1, qq2, qq3, Act.put, qq4, qq5, qq6]
  refine tkV 1 ?_
  try simp only [qq1, qq2, qq3, Act.put, qq4, qq5, qq6]
  refine tkV 4 ?_
  try simp only [qq1, qq2, qq3, Act.put, qq4, qq5, qq6]
  refine tkV 5 ?_
  try simp only [qq1, qq2, qq3, Act.put, qq4, qq5, qq6]
  refine tkV 7 ?_
  try simp only [qq1, qq2, qq3, Act.put, qq4, qq5, qq6]
  refine tkV 8 ?_
  try simp only [qq1, qq2, qq3, Act.put, qq4, qq5, qq6]
  refine tkV 10 ?_
  try simp only [qq1, qq2, qq3, Act.put, qq4, qq5, qq6]
  refine tkV 11 ?_
  try simp only [qq1, qq2, qq3, Act.put, qq4, qq5, qq6]
  refine wpT_frame (fun T a0 hT ha0 => ?_)
  clear hHeld
  have G2_3_6_9_12_13_14_15_16_17 : ∀ (cB_ : Ic) (cR : Ic) (cE : Ic) (gL : Nat) (gE : Nat) (eE : Nat) (gT : Nat) (u : World), (Hid (Below w0.heap.size w0 u ∧ Below w1.heap.size w1 u)) → (Hid (ItS w0.heap.size u (.byt h) cB_)) → (Hid (ItS w0.heap.size u (.byt (bys o.rs)) cR)) → (Hid (ItS w0.heap.size u (eIt o.E1 o.E2 o.al o.C o.zs) cE)) → (Hid (u.heap[gL]? = some (.cells #[.int .i64 cB_.kind, .int .i64 cB_.n, .slice cB_.B cB_.nb cB_.cb, .slice cB_.L cB_.nl cB_.cl, .int .i64 1, .int .i64 o.num, .slice none 0 0, .slice none 0 0, .int .i64 cR.kind, .int .i64 cR.n, .slice cR.B cR.nb cR.cb, .slice cR.L cR.nl cR.cl, .int .i64 cE.kind, .int .i64 cE.n, .slice cE.B cE.nb cE.cb, .slice cE.L cE.nl cE.cl] 67))) → (Hid (w0.heap.size ≤ gL)) → (Hid (Sk .u8 u (some ⟨gE, 0, none⟩) E)) → (Hid (Blk .u8 42 u gT (zer 32))) → (Hid (w0.heap.size ≤ gT)) → T 1 #[true, true, true, true, true, true, true, true, true, true, true, true, true, true, true, true, true, true, false] ((((((((((a0.put (some 14) (.agg (arr .u8 h))).put (some 15) (.agg #[.int .i64 cB_.kind, .int .i64 cB_.n, .slice cB_.B cB_.nb cB_.cb, .slice cB_.L cB_.nl cB_.cl])).put (some 18) (.agg #[.int .i64 1, .int .i64 (o.num), .slice none 0 0, .slice none 0 0])).put (some 21) (.agg #[.int .i64 cR.kind, .int .i64 cR.n, .slice cR.B cR.nb cR.cb, .slice cR.L cR.nl cR.cl])).put (some 24) (.agg #[.int .i64 cE.kind, .int .i64 cE.n, .slice cE.B cE.nb cE.cb, .slice cE.L cE.nl cE.cl])).put (some 25) (.slice (some ⟨gL, 0, none⟩) 4 4)).put (some 26) (.agg #[.int .i64 3, .int .i64 (0), .slice none 0 0, .slice (some ⟨gL, 0, none⟩) 4 4])).put (some 27) (.slice (some ⟨gE, 0, none⟩) nE eE)).put (some 28) (.agg (arr .u8 RR))).put (some 6) (.pointer (some ⟨gT, 0, none⟩))) u := by
    intro cB_ cR cE gL gE eE gT u FB HB HR HE FL FLl FE FT FTl
    have hHeld := hS.out _ FB
    rw [hT, ha0]
    try simp only [qq1, qq2, qq3, Act.put, qq4, qq5, qq6]
    have HE_w0 := Lib.hid FB.out.1
    have HE_w1 := Lib.hid FB.out.2
    refine wpT_pass (i := 18) (by kernel_rfl) (by simp) rfl (fun K hK => ?_)
    rw [show (if Region.wanted _ _ = true then _ else _ : Prop) = _ from if_pos rfl]
    refine wp_store_row 42 _ _ rfl gT (arr .u8 RR) rfl rfl 42 _ FT.out (hash_info HRL.out) (arrs_sz (l := zer 32) rfl HRL.out) (arr_one _) ?_
    refine hK.out _ _ ?_
    clear hK K
    try simp only [qq1, qq2, qq3, Act.put, qq4, qq5, qq6]
    refine wpT_done (by kernel_rfl) ?_ _
    clear hHeld hT ha0
    obtain ⟨wq, hwq⟩ : ∃ x, u.setRow gT (arr .u8 RR) = x := ⟨_, rfl⟩
    have HTq : Hid (Blk .u8 42 wq gT RR) := Lib.hid (by rw [← hwq]; exact FT.out.setRow)
    have HBq : Hid (Below w0.heap.size w0 wq) := Lib.hid (by rw [← hwq]; exact below_setRow' FB.out.1 FTl.out)
    rw [hwq]
    clear hwq
    go_wp2_with ((with_reducible show wpList _ _ _ (⟨some 29, _, _, _, _, _⟩ :: _) _ _); refine wpList_load_row rfl 42 _ rfl gT rfl _ _ _ _ HTq.out Tryd.underlying42 rfl (hash_info HRL.out) ?_)
    refine (rhex_any RR HRL HRB _).mono ?_
    rintro e w9 ⟨rfl, hb9⟩
    have hbF := below_ext HBw.out (below_ext HBq.out hb9)
    go_wp2
    go_ret
    exact ⟨rfl, hbF⟩
  have G2_3_6_9_12_13_14_15_16 : ∀ (cB_ : Ic) (cR : Ic) (cE : Ic) (gL : Nat) (gE : Nat) (eE : Nat) (u : World), (Hid (Below w0.heap.size w0 u ∧ Below w1.heap.size w1 u)) → (Hid (ItS w0.heap.size u (.byt h) cB_)) → (Hid (ItS w0.heap.size u (.byt (bys o.rs)) cR)) → (Hid (ItS w0.heap.size u (eIt o.E1 o.E2 o.al o.C o.zs) cE)) → (Hid (u.heap[gL]? = some (.cells #[.int .i64 cB_.kind, .int .i64 cB_.n, .slice cB_.B cB_.nb cB_.cb, .slice cB_.L cB_.nl cB_.cl, .int .i64 1, .int .i64 o.num, .slice none 0 0, .slice none 0 0, .int .i64 cR.kind, .int .i64 cR.n, .slice cR.B cR.nb cR.cb, .slice cR.L cR.nl cR.cl, .int .i64 cE.kind, .int .i64 cE.n, .slice cE.B cE.nb cE.cb, .slice cE.L cE.nl cE.cl] 67))) → (Hid (w0.heap.size ≤ gL)) → (Hid (Sk .u8 u (some ⟨gE, 0, none⟩) E)) → T 2 #[true, true, true, true, true, true, true, true, true, true, true, true, true, true, true, true, true, false, false] (((((((((a0.put (some 14) (.agg (arr .u8 h))).put (some 15) (.agg #[.int .i64 cB_.kind, .int .i64 cB_.n, .slice cB_.B cB_.nb cB_.cb, .slice cB_.L cB_.nl cB_.cl])).put (some 18) (.agg #[.int .i64 1, .int .i64 (o.num), .slice none 0 0, .slice none 0 0])).put (some 21) (.agg #[.int .i64 cR.kind, .int .i64 cR.n, .slice cR.B cR.nb cR.cb, .slice cR.L cR.nl cR.cl])).put (some 24) (.agg #[.int .i64 cE.kind, .int .i64 cE.n, .slice cE.B cE.nb cE.cb, .slice cE.L cE.nl cE.cl])).put (some 25) (.slice (some ⟨gL, 0, none⟩) 4 4)).put (some 26) (.agg #[.int .i64 3, .int .i64 (0), .slice none 0 0, .slice (some ⟨gL, 0, none⟩) 4 4])).put (some 27) (.slice (some ⟨gE, 0, none⟩) nE eE)).put (some 28) (.agg (arr .u8 RR))) u := by
    intro cB_ cR cE gL gE eE u FB HB HR HE FL FLl FE
    have hHeld := hS.out _ FB
    rw [hT, ha0]
    try simp only [qq1, qq2, qq3, Act.put, qq4, qq5, qq6]
    refine wpT_one (i := 17) (by kernel_rfl) rfl (fun K hK => ?_)
    go_simp
    have FB2 := hBx.out _ _ FB (below_box0 u (.cells #[.int .u8 0, .int .u8 0, .int .u8 0, .int .u8 0, .int .u8 0, .int .u8 0, .int .u8 0, .int .u8 0, .int .u8 0, .int .u8 0, .int .u8 0, .int .u8 0, .int .u8 0, .int .u8 0, .int .u8 0, .int .u8 0, .int .u8 0, .int .u8 0, .int .u8 0, .int .u8 0, .int .u8 0, .int .u8 0, .int .u8 0, .int .u8 0, .int .u8 0, .int .u8 0, .int .u8 0, .int .u8 0, .int .u8 0, .int .u8 0, .int .u8 0, .int .u8 0] 42))
    refine hK.out _ _ ?_ (fun hHeld => ?_)
    · exact hS.out _ FB2
    clear hK K hHeld
    try simp only [qq1, qq2, qq3, Act.put, qq4, qq5, qq6]
    have hG := G2_3_6_9_12_13_14_15_16_17 cB_ cR cE gL gE eE u.heap.size (u.alloc (.cells #[.int .u8 0, .int .u8 0, .int .u8 0, .int .u8 0, .int .u8 0, .int .u8 0, .int .u8 0, .int .u8 0, .int .u8 0, .int .u8 0, .int .u8 0, .int .u8 0, .int .u8 0, .int .u8 0, .int .u8 0, .int .u8 0, .int .u8 0, .int .u8 0, .int .u8 0, .int .u8 0, .int .u8 0, .int .u8 0, .int .u8 0, .int .u8 0, .int .u8 0, .int .u8 0, .int .u8 0, .int .u8 0, .int .u8 0, .int .u8 0, .int .u8 0, .int .u8 0] 42)) FB2 (Lib.hid (HB.out.kept (below_box0 u (.cells #[.int .u8 0, .int .u8 0, .int .u8 0, .int .u8 0, .int .u8 0, .int .u8 0, .int .u8 0, .int .u8 0, .int .u8 0, .int .u8 0, .int .u8 0, .int .u8 0, .int .u8 0, .int .u8 0, .int .u8 0, .int .u8 0, .int .u8 0, .int .u8 0, .int .u8 0, .int .u8 0, .int .u8 0, .int .u8 0, .int .u8 0, .int .u8 0, .int .u8 0, .int .u8 0, .int .u8 0, .int .u8 0, .int .u8 0, .int .u8 0, .int .u8 0, .int .u8 0] 42)))) (Lib.hid (HR.out.kept (below_box0 u (.cells #[.int .u8 0, .int .u8 0, .int .u8 0, .int .u8 0, .int .u8 0, .int .u8 0, .int .u8 0, .int .u8 0, .int .u8 0, .int .u8 0, .int .u8 0, .int .u8 0, .int .u8 0, .int .u8 0, .int .u8 0, .int .u8 0, .int .u8 0, .int .u8 0, .int .u8 0, .int .u8 0, .int .u8 0, .int .u8 0, .int .u8 0, .int .u8 0, .int .u8 0, .int .u8 0, .int .u8 0, .int .u8 0, .int .u8 0, .int .u8 0, .int .u8 0, .int .u8 0] 42)))) (Lib.hid (HE.out.kept (below_box0 u (.cells #[.int .u8 0, .int .u8 0, .int .u8 0, .int .u8 0, .int .u8 0, .int .u8 0, .int .u8 0, .int .u8 0, .int .u8 0, .int .u8 0, .int .u8 0, .int .u8 0, .int .u8 0, .int .u8 0, .int .u8 0, .int .u8 0, .int .u8 0, .int .u8 0, .int .u8 0, .int .u8 0, .int .u8 0, .int .u8 0, .int .u8 0, .int .u8 0, .int .u8 0, .int .u8 0, .int .u8 0, .int .u8 0, .int .u8 0, .int .u8 0, .int .u8 0, .int .u8 0] 42)))) (Lib.hid (blk_below FL.out (below_box0 u (.cells #[.int .u8 0, .int .u8 0, .int .u8 0, .int .u8 0, .int .u8 0, .int .u8 0, .int .u8 0, .int .u8 0, .int .u8 0, .int .u8 0, .int .u8 0, .int .u8 0, .int .u8 0, .int .u8 0, .int .u8 0, .int .u8 0, .int .u8 0, .int .u8 0, .int .u8 0, .int .u8 0, .int .u8 0, .int .u8 0, .int .u8 0, .int .u8 0, .int .u8 0, .int .u8 0, .int .u8 0, .int .u8 0, .int .u8 0, .int .u8 0, .int .u8 0, .int .u8 0] 42)))) (FLl) (Lib.hid (FE.out.below (below_box0 u (.cells #[.int .u8 0, .int .u8 0, .int .u8 0, .int .u8 0, .int .u8 0, .int .u8 0, .int .u8 0, .int .u8 0, .int .u8 0, .int .u8 0, .int .u8 0, .int .u8 0, .int .u8 0, .int .u8 0, .int .u8 0, .int .u8 0, .int .u8 0, .int .u8 0, .int .u8 0, .int .u8 0, .int .u8 0, .int .u8 0, .int .u8 0, .int .u8 0, .int .u8 0, .int .u8 0, .int .u8 0, .int .u8 0, .int .u8 0, .int .u8 0, .int .u8 0, .int .u8 0] 42)))) (Lib.hid (by rw [zarrh]; exact Blk.new _ _)) (Lib.hid FB.out.1.size)
    rw [hT, ha0] at hG
    (try simp only [qq1, qq2, qq3, Act.put, qq4, qq5, qq6] at hG)
    exact hG
  have G2_3_6_9_12_13_14_15_17 : ∀ (cB_ : Ic) (cR : Ic) (cE : Ic) (gL : Nat) (gE : Nat) (eE : Nat) (gT : Nat) (u : World), (Hid (Below w0.heap.size w0 u ∧ Below w1.heap.size w1 u)) → (Hid (ItS w0.heap.size u (.byt h) cB_)) → (Hid (ItS w0.heap.size u (.byt (bys o.rs)) cR)) → (Hid (ItS w0.heap.size u (eIt o.E1 o.E2 o.al o.C o.zs) cE)) → (Hid (u.heap[gL]? = some (.cells #[.int .i64 cB_.kind, .int .i64 cB_.n, .slice cB_.B cB_.nb cB_.cb, .slice cB_.L cB_.nl cB_.cl, .int .i64 1, .int .i64 o.num, .slice none 0 0, .slice none 0 0, .int .i64 cR.kind, .int .i64 cR.n, .slice cR.B cR.nb cR.cb, .slice cR.L cR.nl cR.cl, .int .i64 cE.kind, .int .i64 cE.n, .slice cE.B cE.nb cE.cb, .slice cE.L cE.nl cE.cl] 67))) → (Hid (w0.heap.size ≤ gL)) → (Hid (Sk .u8 u (some ⟨gE, 0, none⟩) E)) → (Hid (Blk .u8 42 u gT (zer 32))) → (Hid (w0.heap.size ≤ gT)) → T 2 #[true, true, true, true, true, true, true, true, true, true, true, true, true, true, true, true, false, true, false] (((((((((a0.put (some 14) (.agg (arr .u8 h))).put (some 15) (.agg #[.int .i64 cB_.kind, .int .i64 cB_.n, .slice cB_.B cB_.nb cB_.cb, .slice cB_.L cB_.nl cB_.cl])).put (some 18) (.agg #[.int .i64 1, .int .i64 (o.num), .slice none 0 0, .slice none 0 0])).put (some 21) (.agg #[.int .i64 cR.kind, .int .i64 cR.n, .slice cR.B cR.nb cR.cb, .slice cR.L cR.nl cR.cl])).put (some 24) (.agg #[.int .i64 cE.kind, .int .i64 cE.n, .slice cE.B cE.nb cE.cb, .slice cE.L cE.nl cE.cl])).put (some 25) (.slice (some ⟨gL, 0, none⟩) 4 4)).put (some 26) (.agg #[.int .i64 3, .int .i64 (0), .slice none 0 0, .slice (some ⟨gL, 0, none⟩) 4 4])).put (some 27) (.slice (some ⟨gE, 0, none⟩) nE eE)).put (some 6) (.pointer (some ⟨gT, 0, none⟩))) u := by
    intro cB_ cR cE gL gE eE gT u FB HB HR HE FL FLl FE FT FTl
    have hHeld := hS.out _ FB
    rw [hT, ha0]
    try simp only [qq1, qq2, qq3, Act.put, qq4, qq5, qq6]
    refine wpT_one (i := 16) (by kernel_rfl) rfl (fun K hK => ?_)
    go_simp
    refine (rtagged_any tagLb (by decide) (by decide) gE 0 eE E nE HEN he0 (by omega) HEB _ FE).mono ?_
    rintro e wB ⟨rfl, hq⟩
    rw [← HEE.1, HRR.1]
    have FB2 := hBx.out _ _ FB hq
    refine hK.out _ _ ?_ (fun hHeld => ?_)
    · exact hS.out _ FB2
    clear hK K hHeld
    try simp only [qq1, qq2, qq3, Act.put, qq4, qq5, qq6]
    have hG := G2_3_6_9_12_13_14_15_16_17 cB_ cR cE gL gE eE gT wB FB2 (Lib.hid (HB.out.kept hq)) (Lib.hid (HR.out.kept hq)) (Lib.hid (HE.out.kept hq)) (Lib.hid (blk_below FL.out hq)) (FLl) (Lib.hid (FE.out.below hq)) (Lib.hid (FT.out.below hq)) (FTl)
    rw [hT, ha0] at hG
    (try simp only [qq1, qq2, qq3, Act.put, qq4, qq5, qq6] at hG)
    exact hG
  have G2_3_6_9_12_13_14_15 : ∀ (cB_ : Ic) (cR : Ic) (cE : Ic) (gL : Nat) (gE : Nat) (eE : Nat) (u : World), (Hid (Below w0.heap.size w0 u ∧ Below w1.heap.size w1 u)) → (Hid (ItS w0.heap.size u (.byt h) cB_)) → (Hid (ItS w0.heap.size u (.byt (bys o.rs)) cR)) → (Hid (ItS w0.heap.size u (eIt o.E1 o.E2 o.al o.C o.zs) cE)) → (Hid (u.heap[gL]? = some (.cells #[.int .i64 cB_.kind, .int .i64 cB_.n, .slice cB_.B cB_.nb cB_.cb, .slice cB_.L cB_.nl cB_.cl, .int .i64 1, .int .i64 o.num, .slice none 0 0, .slice none 0 0, .int .i64 cR.kind, .int .i64 cR.n, .slice cR.B cR.nb cR.cb, .slice cR.L cR.nl cR.cl, .int .i64 cE.kind, .int .i64 cE.n, .slice cE.B cE.nb cE.cb, .slice cE.L cE.nl cE.cl] 67))) → (Hid (w0.heap.size ≤ gL)) → (Hid (Sk .u8 u (some ⟨gE, 0, none⟩) E)) → T 3 #[true, true, true, true, true, true, true, true, true, true, true, true, true, true, true, true, false, false, false] ((((((((a0.put (some 14) (.agg (arr .u8 h))).put (some 15) (.agg #[.int .i64 cB_.kind, .int .i64 cB_.n, .slice cB_.B cB_.nb cB_.cb, .slice cB_.L cB_.nl cB_.cl])).put (some 18) (.agg #[.int .i64 1, .int .i64 (o.num), .slice none 0 0, .slice none 0 0])).put (some 21) (.agg #[.int .i64 cR.kind, .int .i64 cR.n, .slice cR.B cR.nb cR.cb, .slice cR.L cR.nl cR.cl])).put (some 24) (.agg #[.int .i64 cE.kind, .int .i64 cE.n, .slice cE.B cE.nb cE.cb, .slice cE.L cE.nl cE.cl])).put (some 25) (.slice (some ⟨gL, 0, none⟩) 4 4)).put (some 26) (.agg #[.int .i64 3, .int .i64 (0), .slice none 0 0, .slice (some ⟨gL, 0, none⟩) 4 4])).put (some 27) (.slice (some ⟨gE, 0, none⟩) nE eE)) u := by
    intro cB_ cR cE gL gE eE u FB HB HR HE FL FLl FE
    have hHeld := hS.out _ FB
    rw [hT, ha0]
    try simp only [qq1, qq2, qq3, Act.put, qq4, qq5, qq6]
    refine wpT_two (i1 := 16) (i2 := 17) (by kernel_rfl) rfl rfl (fun K hK => ?_) (fun K hK => ?_)
    · skip
      go_simp
      refine (rtagged_any tagLb (by decide) (by decide) gE 0 eE E nE HEN he0 (by omega) HEB _ FE).mono ?_
      rintro e wB ⟨rfl, hq⟩
      rw [← HEE.1, HRR.1]
      have FB2 := hBx.out _ _ FB hq
      refine hK.out _ _ ?_ (fun hHeld => ?_)
      · exact hS.out _ FB2
      clear hK K hHeld
      try simp only [qq1, qq2, qq3, Act.put, qq4, qq5, qq6]
      have hG := G2_3_6_9_12_13_14_15_16 cB_ cR cE gL gE eE wB FB2 (Lib.hid (HB.out.kept hq)) (Lib.hid (HR.out.kept hq)) (Lib.hid (HE.out.kept hq)) (Lib.hid (blk_below FL.out hq)) (FLl) (Lib.hid (FE.out.below hq))
      rw [hT, ha0] at hG
      (try simp only [qq1, qq2, qq3, Act.put, qq4, qq5, qq6] at hG)
      exact hG
    · skip
      go_simp
      have FB2 := hBx.out _ _ FB (below_box0 u (.cells #[.int .u8 0, .int .u8 0, .int .u8 0, .int .u8 0, .int .u8 0, .int .u8 0, .int .u8 0, .int .u8 0, .int .u8 0, .int .u8 0, .int .u8 0, .int .u8 0, .int .u8 0, .int .u8 0, .int .u8 0, .int .u8 0, .int .u8 0, .int .u8 0, .int .u8 0, .int .u8 0, .int .u8 0, .int .u8 0, .int .u8 0, .int .u8 0, .int .u8 0, .int .u8 0, .int .u8 0, .int .u8 0, .int .u8 0, .int .u8 0, .int .u8 0, .int .u8 0] 42))
      refine hK.out _ _ ?_ (fun hHeld => ?_)
      · exact hS.out _ FB2
      clear hK K hHeld
      try simp only [qq1, qq2, qq3, Act.put, qq4, qq5, qq6]
      have hG := G2_3_6_9_12_13_14_15_17 cB_ cR cE gL gE eE u.heap.size (u.alloc (.cells #[.int .u8 0, .int .u8 0, .int .u8 0, .int .u8 0, .int .u8 0, .int .u8 0, .int .u8 0, .int .u8 0, .int .u8 0, .int .u8 0, .int .u8 0, .int .u8 0, .int .u8 0, .int .u8 0, .int .u8 0, .int .u8 0, .int .u8 0, .int .u8 0, .int .u8 0, .int .u8 0, .int .u8 0, .int .u8 0, .int .u8 0, .int .u8 0, .int .u8 0, .int .u8 0, .int .u8 0, .int .u8 0, .int .u8 0, .int .u8 0, .int .u8 0, .int .u8 0] 42)) FB2 (Lib.hid (HB.out.kept (below_box0 u (.cells #[.int .u8 0, .int .u8 0, .int .u8 0, .int .u8 0, .int .u8 0, .int .u8 0, .int .u8 0, .int .u8 0, .int .u8 0, .int .u8 0, .int .u8 0, .int .u8 0, .int .u8 0, .int .u8 0, .int .u8 0, .int .u8 0, .int .u8 0, .int .u8 0, .int .u8 0, .int .u8 0, .int .u8 0, .int .u8 0, .int .u8 0, .int .u8 0, .int .u8 0, .int .u8 0, .int .u8 0, .int .u8 0, .int .u8 0, .int .u8 0, .int .u8 0, .int .u8 0] 42)))) (Lib.hid (HR.out.kept (below_box0 u (.cells #[.int .u8 0, .int .u8 0, .int .u8 0, .int .u8 0, .int .u8 0, .int .u8 0, .int .u8 0, .int .u8 0, .int .u8 0, .int .u8 0, .int .u8 0, .int .u8 0, .int .u8 0, .int .u8 0, .int .u8 0, .int .u8 0, .int .u8 0, .int .u8 0, .int .u8 0, .int .u8 0, .int .u8 0, .int .u8 0, .int .u8 0, .int .u8 0, .int .u8 0, .int .u8 0, .int .u8 0, .int .u8 0, .int .u8 0, .int .u8 0, .int .u8 0, .int .u8 0] 42)))) (Lib.hid (HE.out.kept (below_box0 u (.cells #[.int .u8 0, .int .u8 0, .int .u8 0, .int .u8 0, .int .u8 0, .int .u8 0, .int .u8 0, .int .u8 0, .int .u8 0, .int .u8 0, .int .u8 0, .int .u8 0, .int .u8 0, .int .u8 0, .int .u8 0, .int .u8 0, .int .u8 0, .int .u8 0, .int .u8 0, .int .u8 0, .int .u8 0, .int .u8 0, .int .u8 0, .int .u8 0, .int .u8 0, .int .u8 0, .int .u8 0, .int .u8 0, .int .u8 0, .int .u8 0, .int .u8 0, .int .u8 0] 42)))) (Lib.hid (blk_below FL.out (below_box0 u (.cells #[.int .u8 0, .int .u8 0, .int .u8 0, .int .u8 0, .int .u8 0, .int .u8 0, .int .u8 0, .int .u8 0, .int .u8 0, .int .u8 0, .int .u8 0, .int .u8 0, .int .u8 0, .int .u8 0, .int .u8 0, .int .u8 0, .int .u8 0, .int .u8 0, .int .u8 0, .int .u8 0, .int .u8 0, .int .u8 0, .int .u8 0, .int .u8 0, .int .u8 0, .int .u8 0, .int .u8 0, .int .u8 0, .int .u8 0, .int .u8 0, .int .u8 0, .int .u8 0] 42)))) (FLl) (Lib.hid (FE.out.below (below_box0 u (.cells #[.int .u8 0, .int .u8 0, .int .u8 0, .int .u8 0, .int .u8 0, .int .u8 0, .int .u8 0, .int .u8 0, .int .u8 0, .int .u8 0, .int .u8 0, .int .u8 0, .int .u8 0, .int .u8 0, .int .u8 0, .int .u8 0, .int .u8 0, .int .u8 0, .int .u8 0, .int .u8 0, .int .u8 0, .int .u8 0, .int .u8 0, .int .u8 0, .int .u8 0, .int .u8 0, .int .u8 0, .int .u8 0, .int .u8 0, .int .u8 0, .int .u8 0, .int .u8 0] 42)))) (Lib.hid (by rw [zarrh]; exact Blk.new _ _)) (Lib.hid FB.out.1.size)
      rw [hT, ha0] at hG
      (try simp only [qq1, qq2, qq3, Act.put, qq4, qq5, qq6] at hG)
      exact hG
  have G2_3_6_9_12_13_14_17 : ∀ (cB_ : Ic) (cR : Ic) (cE : Ic) (gL : Nat) (gT : Nat) (u : World), (Hid (Below w0.heap.size w0 u ∧ Below w1.heap.size w1 u)) → (Hid (ItS w0.heap.size u (.byt h) cB_)) → (Hid (ItS w0.heap.size u (.byt (bys o.rs)) cR)) → (Hid (ItS w0.heap.size u (eIt o.E1 o.E2 o.al o.C o.zs) cE)) → (Hid (u.heap[gL]? = some (.cells #[.int .i64 cB_.kind, .int .i64 cB_.n, .slice cB_.B cB_.nb cB_.cb, .slice cB_.L cB_.nl cB_.cl, .int .i64 1, .int .i64 o.num, .slice none 0 0, .slice none 0 0, .int .i64 cR.kind, .int .i64 cR.n, .slice cR.B cR.nb cR.cb, .slice cR.L cR.nl cR.cl, .int .i64 cE.kind, .int .i64 cE.n, .slice cE.B cE.nb cE.cb, .slice cE.L cE.nl cE.cl] 67))) → (Hid (w0.heap.size ≤ gL)) → (Hid (Blk .u8 42 u gT (zer 32))) → (Hid (w0.heap.size ≤ gT)) → T 3 #[true, true, true, true, true, true, true, true, true, true, true, true, true, true, true, false, false, true, false] ((((((((a0.put (some 14) (.agg (arr .u8 h))).put (some 15) (.agg #[.int .i64 cB_.kind, .int .i64 cB_.n, .slice cB_.B cB_.nb cB_.cb, .slice cB_.L cB_.nl cB_.cl])).put (some 18) (.agg #[.int .i64 1, .int .i64 (o.num), .slice none 0 0, .slice none 0 0])).put (some 21) (.agg #[.int .i64 cR.kind, .int .i64 cR.n, .slice cR.B cR.nb cR.cb, .slice cR.L cR.nl cR.cl])).put (some 24) (.agg #[.int .i64 cE.kind, .int .i64 cE.n, .slice cE.B cE.nb cE.cb, .slice cE.L cE.nl cE.cl])).put (some 25) (.slice (some ⟨gL, 0, none⟩) 4 4)).put (some 26) (.agg #[.int .i64 3, .int .i64 (0), .slice none 0 0, .slice (some ⟨gL, 0, none⟩) 4 4])).put (some 6) (.pointer (some ⟨gT, 0, none⟩))) u := by
    intro cB_ cR cE gL gT u FB HB HR HE FL FLl FT FTl
    have hHeld := hS.out _ FB
    rw [hT, ha0]
    try simp only [qq1, qq2, qq3, Act.put, qq4, qq5, qq6]
    refine wpT_one (i := 15) (by kernel_rfl) rfl (fun K hK => ?_)
    go_simp
    have hit : ItR u (lbIt h o) (Ic.mk 3 0 none 0 0 (some ⟨gL, 0, none⟩) 4 4) := itr_blk (fun k => match k with | 0 => cB_ | 1 => icInt o.num | 2 => cR | _ => cE) FL.out rfl (fun k hk => by
        rcases (show k = 0 ∨ k = 1 ∨ k = 2 ∨ k = 3 by omega) with rfl | rfl | rfl | rfl <;> exact ⟨rfl, rfl, rfl, rfl⟩) (fun k hk => by
        rcases (show k = 0 ∨ k = 1 ∨ k = 2 ∨ k = 3 by omega) with rfl | rfl | rfl | rfl
        · exact HB.out.it
        · exact .int _ _ rfl rfl rfl rfl
        · exact HR.out.it
        · exact HE.out.it)
    refine (renc_any 8 (lbIt h o) (Ic.mk 3 0 none 0 0 (some ⟨gL, 0, none⟩) 4 4) _ HFIT.out hit HLEN.out).mono ?_
    rintro e wB ⟨v4, rfl, ho4, hq⟩
    rw [HEE.1] at ho4
    obtain ⟨g4, cap4, e4, hg4, -, -, hsk4⟩ := ho4.cells HEL.out.1
    rw [HEN.out] at e4
    subst e4
    clear hit ho4
    have FB2 := hBx.out _ _ FB hq
    refine hK.out _ _ ?_ (fun hHeld => ?_)
    · exact hS.out _ FB2
    clear hK K hHeld
    try simp only [qq1, qq2, qq3, Act.put, qq4, qq5, qq6]
    have hG := G2_3_6_9_12_13_14_15_17 cB_ cR cE gL g4 cap4 gT wB FB2 (Lib.hid (HB.out.kept hq)) (Lib.hid (HR.out.kept hq)) (Lib.hid (HE.out.kept hq)) (Lib.hid (blk_below FL.out hq)) (FLl) (Lib.hid hsk4) (Lib.hid (FT.out.below hq)) (FTl)
    rw [hT, ha0] at hG
    (try simp only [qq1, qq2, qq3, Act.put, qq4, qq5, qq6] at hG)
    exact hG
  have G2_3_6_9_12_13_14 : ∀ (cB_ : Ic) (cR : Ic) (cE : Ic) (gL : Nat) (u : World), (Hid (Below w0.heap.size w0 u ∧ Below w1.heap.size w1 u)) → (Hid (ItS w0.heap.size u (.byt h) cB_)) → (Hid (ItS w0.heap.size u (.byt (bys o.rs)) cR)) → (Hid (ItS w0.heap.size u (eIt o.E1 o.E2 o.al o.C o.zs) cE)) → (Hid (u.heap[gL]? = some (.cells #[.int .i64 cB_.kind, .int .i64 cB_.n, .slice cB_.B cB_.nb cB_.cb, .slice cB_.L cB_.nl cB_.cl, .int .i64 1, .int .i64 o.num, .slice none 0 0, .slice none 0 0, .int .i64 cR.kind, .int .i64 cR.n, .slice cR.B cR.nb cR.cb, .slice cR.L cR.nl cR.cl, .int .i64 cE.kind, .int .i64 cE.n, .slice cE.B cE.nb cE.cb, .slice cE.L cE.nl cE.cl] 67))) → (Hid (w0.heap.size ≤ gL)) → T 4 #[true, true, true, true, true, true, true, true, true, true, true, true, true, true, true, false, false, false, false] (((((((a0.put (some 14) (.agg (arr .u8 h))).put (some 15) (.agg #[.int .i64 cB_.kind, .int .i64 cB_.n, .slice cB_.B cB_.nb cB_.cb, .slice cB_.L cB_.nl cB_.cl])).put (some 18) (.agg #[.int .i64 1, .int .i64 (o.num), .slice none 0 0, .slice none 0 0])).put (some 21) (.agg #[.int .i64 cR.kind, .int .i64 cR.n, .slice cR.B cR.nb cR.cb, .slice cR.L cR.nl cR.cl])).put (some 24) (.agg #[.int .i64 cE.kind, .int .i64 cE.n, .slice cE.B cE.nb cE.cb, .slice cE.L cE.nl cE.cl])).put (some 25) (.slice (some ⟨gL, 0, none⟩) 4 4)).put (some 26) (.agg #[.int .i64 3, .int .i64 (0), .slice none 0 0, .slice (some ⟨gL, 0, none⟩) 4 4])) u := by
    intro cB_ cR cE gL u FB HB HR HE FL FLl
    have hHeld := hS.out _ FB
    rw [hT, ha0]
    try simp only [qq1, qq2, qq3, Act.put, qq4, qq5, qq6]
    refine wpT_two (i1 := 15) (i2 := 17) (by kernel_rfl) rfl rfl (fun K hK => ?_) (fun K hK => ?_)
    · skip
      go_simp
      have hit : ItR u (lbIt h o) (Ic.mk 3 0 none 0 0 (some ⟨gL, 0, none⟩) 4 4) := itr_blk (fun k => match k with | 0 => cB_ | 1 => icInt o.num | 2 => cR | _ => cE) FL.out rfl (fun k hk => by
          rcases (show k = 0 ∨ k = 1 ∨ k = 2 ∨ k = 3 by omega) with rfl | rfl | rfl | rfl <;> exact ⟨rfl, rfl, rfl, rfl⟩) (fun k hk => by
          rcases (show k = 0 ∨ k = 1 ∨ k = 2 ∨ k = 3 by omega) with rfl | rfl | rfl | rfl
          · exact HB.out.it
          · exact .int _ _ rfl rfl rfl rfl
          · exact HR.out.it
          · exact HE.out.it)
      refine (renc_any 8 (lbIt h o) (Ic.mk 3 0 none 0 0 (some ⟨gL, 0, none⟩) 4 4) _ HFIT.out hit HLEN.out).mono ?_
      rintro e wB ⟨v4, rfl, ho4, hq⟩
      rw [HEE.1] at ho4
      obtain ⟨g4, cap4, e4, hg4, -, -, hsk4⟩ := ho4.cells HEL.out.1
      rw [HEN.out] at e4
      subst e4
      clear hit ho4
      have FB2 := hBx.out _ _ FB hq
      refine hK.out _ _ ?_ (fun hHeld => ?_)
      · exact hS.out _ FB2
      clear hK K hHeld
      try simp only [qq1, qq2, qq3, Act.put, qq4, qq5, qq6]
      have hG := G2_3_6_9_12_13_14_15 cB_ cR cE gL g4 cap4 wB FB2 (Lib.hid (HB.out.kept hq)) (Lib.hid (HR.out.kept hq)) (Lib.hid (HE.out.kept hq)) (Lib.hid (blk_below FL.out hq)) (FLl) (Lib.hid hsk4)
      rw [hT, ha0] at hG
      (try simp only [qq1, qq2, qq3, Act.put, qq4, qq5, qq6] at hG)
      exact hG
    · skip
      go_simp
      have FB2 := hBx.out _ _ FB (below_box0 u (.cells #[.int .u8 0, .int .u8 0, .int .u8 0, .int .u8 0, .int .u8 0, .int .u8 0, .int .u8 0, .int .u8 0, .int .u8 0, .int .u8 0, .int .u8 0, .int .u8 0, .int .u8 0, .int .u8 0, .int .u8 0, .int .u8 0, .int .u8 0, .int .u8 0, .int .u8 0, .int .u8 0, .int .u8 0, .int .u8 0, .int .u8 0, .int .u8 0, .int .u8 0, .int .u8 0, .int .u8 0, .int .u8 0, .int .u8 0, .int .u8 0, .int .u8 0, .int .u8 0] 42))
      refine hK.out _ _ ?_ (fun hHeld => ?_)
      · exact hS.out _ FB2
      clear hK K hHeld
      try simp only [qq1, qq2, qq3, Act.put, qq4, qq5, qq6]
      have hG := G2_3_6_9_12_13_14_17 cB_ cR cE gL u.heap.size (u.alloc (.cells #[.int .u8 0, .int .u8 0, .int .u8 0, .int .u8 0, .int .u8 0, .int .u8 0, .int .u8 0, .int .u8 0, .int .u8 0, .int .u8 0, .int .u8 0, .int .u8 0, .int .u8 0, .int .u8 0, .int .u8 0, .int .u8 0, .int .u8 0, .int .u8 0, .int .u8 0, .int .u8 0, .int .u8 0, .int .u8 0, .int .u8 0, .int .u8 0, .int .u8 0, .int .u8 0, .int .u8 0, .int .u8 0, .int .u8 0, .int .u8 0, .int .u8 0, .int .u8 0] 42)) FB2 (Lib.hid (HB.out.kept (below_box0 u (.cells #[.int .u8 0, .int .u8 0, .int .u8 0, .int .u8 0, .int .u8 0, .int .u8 0, .int .u8 0, .int .u8 0, .int .u8 0, .int .u8 0, .int .u8 0, .int .u8 0, .int .u8 0, .int .u8 0, .int .u8 0, .int .u8 0, .int .u8 0, .int .u8 0, .int .u8 0, .int .u8 0, .int .u8 0, .int .u8 0, .int .u8 0, .int .u8 0, .int .u8 0, .int .u8 0, .int .u8 0, .int .u8 0, .int .u8 0, .int .u8 0, .int .u8 0, .int .u8 0] 42)))) (Lib.hid (HR.out.kept (below_box0 u (.cells #[.int .u8 0, .int .u8 0, .int .u8 0, .int .u8 0, .int .u8 0, .int .u8 0, .int .u8 0, .int .u8 0, .int .u8 0, .int .u8 0, .int .u8 0, .int .u8 0, .int .u8 0, .int .u8 0, .int .u8 0, .int .u8 0, .int .u8 0, .int .u8 0, .int .u8 0, .int .u8 0, .int .u8 0, .int .u8 0, .int .u8 0, .int .u8 0, .int .u8 0, .int .u8 0, .int .u8 0, .int .u8 0, .int .u8 0, .int .u8 0, .int .u8 0, .int .u8 0] 42)))) (Lib.hid (HE.out.kept (below_box0 u (.cells #[.int .u8 0, .int .u8 0, .int .u8 0, .int .u8 0, .int .u8 0, .int .u8 0, .int .u8 0, .int .u8 0, .int .u8 0, .int .u8 0, .int .u8 0, .int .u8 0, .int .u8 0, .int .u8 0, .int .u8 0, .int .u8 0, .int .u8 0, .int .u8 0, .int .u8 0, .int .u8 0, .int .u8 0, .int .u8 0, .int .u8 0, .int .u8 0, .int .u8 0, .int .u8 0, .int .u8 0, .int .u8 0, .int .u8 0, .int .u8 0, .int .u8 0, .int .u8 0] 42)))) (Lib.hid (blk_below FL.out (below_box0 u (.cells #[.int .u8 0, .int .u8 0, .int .u8 0, .int .u8 0, .int .u8 0, .int .u8 0, .int .u8 0, .int .u8 0, .int .u8 0, .int .u8 0, .int .u8 0, .int .u8 0, .int .u8 0, .int .u8 0, .int .u8 0, .int .u8 0, .int .u8 0, .int .u8 0, .int .u8 0, .int .u8 0, .int .u8 0, .int .u8 0, .int .u8 0, .int .u8 0, .int .u8 0, .int .u8 0, .int .u8 0, .int .u8 0, .int .u8 0, .int .u8 0, .int .u8 0, .int .u8 0] 42)))) (FLl) (Lib.hid (by rw [zarrh]; exact Blk.new _ _)) (Lib.hid FB.out.1.size)
      rw [hT, ha0] at hG
      (try simp only [qq1, qq2, qq3, Act.put, qq4, qq5, qq6] at hG)
      exact hG
  have G2_3_6_9_12_13_17 : ∀ (cB_ : Ic) (cR : Ic) (cE : Ic) (gL : Nat) (gT : Nat) (u : World), (Hid (Below w0.heap.size w0 u ∧ Below w1.heap.size w1 u)) → (Hid (ItS w0.heap.size u (.byt h) cB_)) → (Hid (ItS w0.heap.size u (.byt (bys o.rs)) cR)) → (Hid (ItS w0.heap.size u (eIt o.E1 o.E2 o.al o.C o.zs) cE)) → (Hid (u.heap[gL]? = some (.cells #[.int .i64 cB_.kind, .int .i64 cB_.n, .slice cB_.B cB_.nb cB_.cb, .slice cB_.L cB_.nl cB_.cl, .int .i64 1, .int .i64 o.num, .slice none 0 0, .slice none 0 0, .int .i64 cR.kind, .int .i64 cR.n, .slice cR.B cR.nb cR.cb, .slice cR.L cR.nl cR.cl, .int .i64 cE.kind, .int .i64 cE.n, .slice cE.B cE.nb cE.cb, .slice cE.L cE.nl cE.cl] 67))) → (Hid (w0.heap.size ≤ gL)) → (Hid (Blk .u8 42 u gT (zer 32))) → (Hid (w0.heap.size ≤ gT)) → T 4 #[true, true, true, true, true, true, true, true, true, true, true, true, true, true, false, false, false, true, false] (((((((a0.put (some 14) (.agg (arr .u8 h))).put (some 15) (.agg #[.int .i64 cB_.kind, .int .i64 cB_.n, .slice cB_.B cB_.nb cB_.cb, .slice cB_.L cB_.nl cB_.cl])).put (some 18) (.agg #[.int .i64 1, .int .i64 (o.num), .slice none 0 0, .slice none 0 0])).put (some 21) (.agg #[.int .i64 cR.kind, .int .i64 cR.n, .slice cR.B cR.nb cR.cb, .slice cR.L cR.nl cR.cl])).put (some 24) (.agg #[.int .i64 cE.kind, .int .i64 cE.n, .slice cE.B cE.nb cE.cb, .slice cE.L cE.nl cE.cl])).put (some 25) (.slice (some ⟨gL, 0, none⟩) 4 4)).put (some 6) (.pointer (some ⟨gT, 0, none⟩))) u := by
    intro cB_ cR cE gL gT u FB HB HR HE FL FLl FT FTl
    have hHeld := hS.out _ FB
    rw [hT, ha0]
    try simp only [qq1, qq2, qq3, Act.put, qq4, qq5, qq6]
    refine wpT_one (i := 14) (by kernel_rfl) rfl (fun K hK => ?_)
    go_simp
    refine (rlist_it (some ⟨gL, 0, none⟩) 4 4 _).mono ?_
    rintro e wB ⟨rfl, hq⟩
    have FB2 := hBx.out _ _ FB hq
    refine hK.out _ _ ?_ (fun hHeld => ?_)
    · exact hS.out _ FB2
    clear hK K hHeld
    try simp only [qq1, qq2, qq3, Act.put, qq4, qq5, qq6]
    have hG := G2_3_6_9_12_13_14_17 cB_ cR cE gL gT wB FB2 (Lib.hid (HB.out.kept hq)) (Lib.hid (HR.out.kept hq)) (Lib.hid (HE.out.kept hq)) (Lib.hid (blk_below FL.out hq)) (FLl) (Lib.hid (FT.out.below hq)) (FTl)
    rw [hT, ha0] at hG
    (try simp only [qq1, qq2, qq3, Act.put, qq4, qq5, qq6] at hG)
    exact hG
  have G2_3_6_9_12_13 : ∀ (cB_ : Ic) (cR : Ic) (cE : Ic) (gL : Nat) (u : World), (Hid (Below w0.heap.size w0 u ∧ Below w1.heap.size w1 u)) → (Hid (ItS w0.heap.size u (.byt h) cB_)) → (Hid (ItS w0.heap.size u (.byt (bys o.rs)) cR)) → (Hid (ItS w0.heap.size u (eIt o.E1 o.E2 o.al o.C o.zs) cE)) → (Hid (u.heap[gL]? = some (.cells #[.int .i64 cB_.kind, .int .i64 cB_.n, .slice cB_.B cB_.nb cB_.cb, .slice cB_.L cB_.nl cB_.cl, .int .i64 1, .int .i64 o.num, .slice none 0 0, .slice none 0 0, .int .i64 cR.kind, .int .i64 cR.n, .slice cR.B cR.nb cR.cb, .slice cR.L cR.nl cR.cl, .int .i64 cE.kind, .int .i64 cE.n, .slice cE.B cE.nb cE.cb, .slice cE.L cE.nl cE.cl] 67))) → (Hid (w0.heap.size ≤ gL)) → T 5 #[true, true, true, true, true, true, true, true, true, true, true, true, true, true, false, false, false, false, false] ((((((a0.put (some 14) (.agg (arr .u8 h))).put (some 15) (.agg #[.int .i64 cB_.kind, .int .i64 cB_.n, .slice cB_.B cB_.nb cB_.cb, .slice cB_.L cB_.nl cB_.cl])).put (some 18) (.agg #[.int .i64 1, .int .i64 (o.num), .slice none 0 0, .slice none 0 0])).put (some 21) (.agg #[.int .i64 cR.kind, .int .i64 cR.n, .slice cR.B cR.nb cR.cb, .slice cR.L cR.nl cR.cl])).put (some 24) (.agg #[.int .i64 cE.kind, .int .i64 cE.n, .slice cE.B cE.nb cE.cb, .slice cE.L cE.nl cE.cl])).put (some 25) (.slice (some ⟨gL, 0, none⟩) 4 4)) u := by
    intro cB_ cR cE gL u FB HB HR HE FL FLl
    have hHeld := hS.out _ FB
    rw [hT, ha0]
    try simp only [qq1, qq2, qq3, Act.put, qq4, qq5, qq6]
    refine wpT_two (i1 := 14) (i2 := 17) (by kernel_rfl) rfl rfl (fun K hK => ?_) (fun K hK => ?_)
    · skip
      go_simp
      refine (rlist_it (some ⟨gL, 0, none⟩) 4 4 _).mono ?_
      rintro e wB ⟨rfl, hq⟩
      have FB2 := hBx.out _ _ FB hq
      refine hK.out _ _ ?_ (fun hHeld => ?_)
      · exact hS.out _ FB2
      clear hK K hHeld
      try simp only [qq1, qq2, qq3, Act.put, qq4, qq5, qq6]
      have hG := G2_3_6_9_12_13_14 cB_ cR cE gL wB FB2 (Lib.hid (HB.out.kept hq)) (Lib.hid (HR.out.kept hq)) (Lib.hid (HE.out.kept hq)) (Lib.hid (blk_below FL.out hq)) (FLl)
      rw [hT, ha0] at hG
      (try simp only [qq1, qq2, qq3, Act.put, qq4, qq5, qq6] at hG)
      exact hG
    · skip
      go_simp
      have FB2 := hBx.out _ _ FB (below_box0 u (.cells #[.int .u8 0, .int .u8 0, .int .u8 0, .int .u8 0, .int .u8 0, .int .u8 0, .int .u8 0, .int .u8 0, .int .u8 0, .int .u8 0, .int .u8 0, .int .u8 0, .int .u8 0, .int .u8 0, .int .u8 0, .int .u8 0, .int .u8 0, .int .u8 0, .int .u8 0, .int .u8 0, .int .u8 0, .int .u8 0, .int .u8 0, .int .u8 0, .int .u8 0, .int .u8 0, .int .u8 0, .int .u8 0, .int .u8 0, .int .u8 0, .int .u8 0, .int .u8 0] 42))
      refine hK.out _ _ ?_ (fun hHeld => ?_)
      · exact hS.out _ FB2
      clear hK K hHeld
      try simp only [qq1, qq2, qq3, Act.put, qq4, qq5, qq6]
      have hG := G2_3_6_9_12_13_17 cB_ cR cE gL u.heap.size (u.alloc (.cells #[.int .u8 0, .int .u8 0, .int .u8 0, .int .u8 0, .int .u8 0, .int .u8 0, .int .u8 0, .int .u8 0, .int .u8 0, .int .u8 0, .int .u8 0, .int .u8 0, .int .u8 0, .int .u8 0, .int .u8 0, .int .u8 0, .int .u8 0, .int .u8 0, .int .u8 0, .int .u8 0, .int .u8 0, .int .u8 0, .int .u8 0, .int .u8 0, .int .u8 0, .int .u8 0, .int .u8 0, .int .u8 0, .int .u8 0, .int .u8 0, .int .u8 0, .int .u8 0] 42)) FB2 (Lib.hid (HB.out.kept (below_box0 u (.cells #[.int .u8 0, .int .u8 0, .int .u8 0, .int .u8 0, .int .u8 0, .int .u8 0, .int .u8 0, .int .u8 0, .int .u8 0, .int .u8 0, .int .u8 0, .int .u8 0, .int .u8 0, .int .u8 0, .int .u8 0, .int .u8 0, .int .u8 0, .int .u8 0, .int .u8 0, .int .u8 0, .int .u8 0, .int .u8 0, .int .u8 0, .int .u8 0, .int .u8 0, .int .u8 0, .int .u8 0, .int .u8 0, .int .u8 0, .int .u8 0, .int .u8 0, .int .u8 0] 42)))) (Lib.hid (HR.out.kept (below_box0 u (.cells #[.int .u8 0, .int .u8 0, .int .u8 0, .int .u8 0, .int .u8 0, .int .u8 0, .int .u8 0, .int .u8 0, .int .u8 0, .int .u8 0, .int .u8 0, .int .u8 0, .int .u8 0, .int .u8 0, .int .u8 0, .int .u8 0, .int .u8 0, .int .u8 0, .int .u8 0, .int .u8 0, .int .u8 0, .int .u8 0, .int .u8 0, .int .u8 0, .int .u8 0, .int .u8 0, .int .u8 0, .int .u8 0, .int .u8 0, .int .u8 0, .int .u8 0, .int .u8 0] 42)))) (Lib.hid (HE.out.kept (below_box0 u (.cells #[.int .u8 0, .int .u8 0, .int .u8 0, .int .u8 0, .int .u8 0, .int .u8 0, .int .u8 0, .int .u8 0, .int .u8 0, .int .u8 0, .int .u8 0, .int .u8 0, .int .u8 0, .int .u8 0, .int .u8 0, .int .u8 0, .int .u8 0, .int .u8 0, .int .u8 0, .int .u8 0, .int .u8 0, .int .u8 0, .int .u8 0, .int .u8 0, .int .u8 0, .int .u8 0, .int .u8 0, .int .u8 0, .int .u8 0, .int .u8 0, .int .u8 0, .int .u8 0] 42)))) (Lib.hid (blk_below FL.out (below_box0 u (.cells #[.int .u8 0, .int .u8 0, .int .u8 0, .int .u8 0, .int .u8 0, .int .u8 0, .int .u8 0, .int .u8 0, .int .u8 0, .int .u8 0, .int .u8 0, .int .u8 0, .int .u8 0, .int .u8 0, .int .u8 0, .int .u8 0, .int .u8 0, .int .u8 0, .int .u8 0, .int .u8 0, .int .u8 0, .int .u8 0, .int .u8 0, .int .u8 0, .int .u8 0, .int .u8 0, .int .u8 0, .int .u8 0, .int .u8 0, .int .u8 0, .int .u8 0, .int .u8 0] 42)))) (FLl) (Lib.hid (by rw [zarrh]; exact Blk.new _ _)) (Lib.hid FB.out.1.size)
      rw [hT, ha0] at hG
      (try simp only [qq1, qq2, qq3, Act.put, qq4, qq5, qq6] at hG)
      exact hG
  have G2_3_6_9_12_17 : ∀ (cB_ : Ic) (cR : Ic) (cE : Ic) (gT : Nat) (u : World), (Hid (Below w0.heap.size w0 u ∧ Below w1.heap.size w1 u)) → (Hid (ItS w0.heap.size u (.byt h) cB_)) → (Hid (ItS w0.heap.size u (.byt (bys o.rs)) cR)) → (Hid (ItS w0.heap.size u (eIt o.E1 o.E2 o.al o.C o.zs) cE)) → (Hid (Blk .u8 42 u gT (zer 32))) → (Hid (w0.heap.size ≤ gT)) → T 5 #[true, true, true, true, true, true, true, true, true, true, true, true, true, false, false, false, false, true, false] ((((((a0.put (some 14) (.agg (arr .u8 h))).put (some 15) (.agg #[.int .i64 cB_.kind, .int .i64 cB_.n, .slice cB_.B cB_.nb cB_.cb, .slice cB_.L cB_.nl cB_.cl])).put (some 18) (.agg #[.int .i64 1, .int .i64 (o.num), .slice none 0 0, .slice none 0 0])).put (some 21) (.agg #[.int .i64 cR.kind, .int .i64 cR.n, .slice cR.B cR.nb cR.cb, .slice cR.L cR.nl cR.cl])).put (some 24) (.agg #[.int .i64 cE.kind, .int .i64 cE.n, .slice cE.B cE.nb cE.cb, .slice cE.L cE.nl cE.cl])).put (some 6) (.pointer (some ⟨gT, 0, none⟩))) u := by
    intro cB_ cR cE gT u FB HB HR HE FT FTl
    have hHeld := hS.out _ FB
    rw [hT, ha0]
    try simp only [qq1, qq2, qq3, Act.put, qq4, qq5, qq6]
    refine wpT_one (i := 13) (by kernel_rfl) rfl (fun K hK => ?_)
    go_simp
    have FB2 := hBx.out _ _ FB (below_box0 u (.cells #[.int .i64 cB_.kind, .int .i64 cB_.n, .slice cB_.B cB_.nb cB_.cb, .slice cB_.L cB_.nl cB_.cl, .int .i64 1, .int .i64 o.num, .slice none 0 0, .slice none 0 0, .int .i64 cR.kind, .int .i64 cR.n, .slice cR.B cR.nb cR.cb, .slice cR.L cR.nl cR.cl, .int .i64 cE.kind, .int .i64 cE.n, .slice cE.B cE.nb cE.cb, .slice cE.L cE.nl cE.cl] 67))
    refine hK.out _ _ ?_ (fun hHeld => ?_)
    · exact hS.out _ FB2
    clear hK K hHeld
    try simp only [qq1, qq2, qq3, Act.put, qq4, qq5, qq6]
    have hG := G2_3_6_9_12_13_17 cB_ cR cE u.heap.size gT (u.alloc (.cells #[.int .i64 cB_.kind, .int .i64 cB_.n, .slice cB_.B cB_.nb cB_.cb, .slice cB_.L cB_.nl cB_.cl, .int .i64 1, .int .i64 o.num, .slice none 0 0, .slice none 0 0, .int .i64 cR.kind, .int .i64 cR.n, .slice cR.B cR.nb cR.cb, .slice cR.L cR.nl cR.cl, .int .i64 cE.kind, .int .i64 cE.n, .slice cE.B cE.nb cE.cb, .slice cE.L cE.nl cE.cl] 67)) FB2 (Lib.hid (HB.out.kept (below_box0 u (.cells #[.int .i64 cB_.kind, .int .i64 cB_.n, .slice cB_.B cB_.nb cB_.cb, .slice cB_.L cB_.nl cB_.cl, .int .i64 1, .int .i64 o.num, .slice none 0 0, .slice none 0 0, .int .i64 cR.kind, .int .i64 cR.n, .slice cR.B cR.nb cR.cb, .slice cR.L cR.nl cR.cl, .int .i64 cE.kind, .int .i64 cE.n, .slice cE.B cE.nb cE.cb, .slice cE.L cE.nl cE.cl] 67)))) (Lib.hid (HR.out.kept (below_box0 u (.cells #[.int .i64 cB_.kind, .int .i64 cB_.n, .slice cB_.B cB_.nb cB_.cb, .slice cB_.L cB_.nl cB_.cl, .int .i64 1, .int .i64 o.num, .slice none 0 0, .slice none 0 0, .int .i64 cR.kind, .int .i64 cR.n, .slice cR.B cR.nb cR.cb, .slice cR.L cR.nl cR.cl, .int .i64 cE.kind, .int .i64 cE.n, .slice cE.B cE.nb cE.cb, .slice cE.L cE.nl cE.cl] 67)))) (Lib.hid (HE.out.kept (below_box0 u (.cells #[.int .i64 cB_.kind, .int .i64 cB_.n, .slice cB_.B cB_.nb cB_.cb, .slice cB_.L cB_.nl cB_.cl, .int .i64 1, .int .i64 o.num, .slice none 0 0, .slice none 0 0, .int .i64 cR.kind, .int .i64 cR.n, .slice cR.B cR.nb cR.cb, .slice cR.L cR.nl cR.cl, .int .i64 cE.kind, .int .i64 cE.n, .slice cE.B cE.nb cE.cb, .slice cE.L cE.nl cE.cl] 67)))) (Lib.hid (heap_alloc_new u _)) (Lib.hid (by have := FB.out.1.size; omega)) (Lib.hid (FT.out.below (below_box0 u (.cells #[.int .i64 cB_.kind, .int .i64 cB_.n, .slice cB_.B cB_.nb cB_.cb, .slice cB_.L cB_.nl cB_.cl, .int .i64 1, .int .i64 o.num, .slice none 0 0, .slice none 0 0, .int .i64 cR.kind, .int .i64 cR.n, .slice cR.B cR.nb cR.cb, .slice cR.L cR.nl cR.cl, .int .i64 cE.kind, .int .i64 cE.n, .slice cE.B cE.nb cE.cb, .slice cE.L cE.nl cE.cl] 67)))) (FTl)
    rw [hT, ha0] at hG
    (try simp only [qq1, qq2, qq3, Act.put, qq4, qq5, qq6] at hG)
    exact hG
  have G2_3_6_9_12 : ∀ (cB_ : Ic) (cR : Ic) (cE : Ic) (u : World), (Hid (Below w0.heap.size w0 u ∧ Below w1.heap.size w1 u)) → (Hid (ItS w0.heap.size u (.byt h) cB_)) → (Hid (ItS w0.heap.size u (.byt (bys o.rs)) cR)) → (Hid (ItS w0.heap.size u (eIt o.E1 o.E2 o.al o.C o.zs) cE)) → T 6 #[true, true, true, true, true, true, true, true, true, true, true, true, true, false, false, false, false, false, false] (((((a0.put (some 14) (.agg (arr .u8 h))).put (some 15) (.agg #[.int .i64 cB_.kind, .int .i64 cB_.n, .slice cB_.B cB_.nb cB_.cb, .slice cB_.L cB_.nl cB_.cl])).put (some 18) (.agg #[.int .i64 1, .int .i64 (o.num), .slice none 0 0, .slice none 0 0])).put (some 21) (.agg #[.int .i64 cR.kind, .int .i64 cR.n, .slice cR.B cR.nb cR.cb, .slice cR.L cR.nl cR.cl])).put (some 24) (.agg #[.int .i64 cE.kind, .int .i64 cE.n, .slice cE.B cE.nb cE.cb, .slice cE.L cE.nl cE.cl])) u := by
    intro cB_ cR cE u FB HB HR HE
    have hHeld := hS.out _ FB
    rw [hT, ha0]
    try simp only [qq1, qq2, qq3, Act.put, qq4, qq5, qq6]
    refine wpT_two (i1 := 13) (i2 := 17) (by kernel_rfl) rfl rfl (fun K hK => ?_) (fun K hK => ?_)
    · skip
      go_simp
      have FB2 := hBx.out _ _ FB (below_box0 u (.cells #[.int .i64 cB_.kind, .int .i64 cB_.n, .slice cB_.B cB_.nb cB_.cb, .slice cB_.L cB_.nl cB_.cl, .int .i64 1, .int .i64 o.num, .slice none 0 0, .slice none 0 0, .int .i64 cR.kind, .int .i64 cR.n, .slice cR.B cR.nb cR.cb, .slice cR.L cR.nl cR.cl, .int .i64 cE.kind, .int .i64 cE.n, .slice cE.B cE.nb cE.cb, .slice cE.L cE.nl cE.cl] 67))
      refine hK.out _ _ ?_ (fun hHeld => ?_)
      · exact hS.out _ FB2
      clear hK K hHeld
      try simp only [qq1, qq2, qq3, Act.put, qq4, qq5, qq6]
      have hG := G2_3_6_9_12_13 cB_ cR cE u.heap.size (u.alloc (.cells #[.int .i64 cB_.kind, .int .i64 cB_.n, .slice cB_.B cB_.nb cB_.cb, .slice cB_.L cB_.nl cB_.cl, .int .i64 1, .int .i64 o.num, .slice none 0 0, .slice none 0 0, .int .i64 cR.kind, .int .i64 cR.n, .slice cR.B cR.nb cR.cb, .slice cR.L cR.nl cR.cl, .int .i64 cE.kind, .int .i64 cE.n, .slice cE.B cE.nb cE.cb, .slice cE.L cE.nl cE.cl] 67)) FB2 (Lib.hid (HB.out.kept (below_box0 u (.cells #[.int .i64 cB_.kind, .int .i64 cB_.n, .slice cB_.B cB_.nb cB_.cb, .slice cB_.L cB_.nl cB_.cl, .int .i64 1, .int .i64 o.num, .slice none 0 0, .slice none 0 0, .int .i64 cR.kind, .int .i64 cR.n, .slice cR.B cR.nb cR.cb, .slice cR.L cR.nl cR.cl, .int .i64 cE.kind, .int .i64 cE.n, .slice cE.B cE.nb cE.cb, .slice cE.L cE.nl cE.cl] 67)))) (Lib.hid (HR.out.kept (below_box0 u (.cells #[.int .i64 cB_.kind, .int .i64 cB_.n, .slice cB_.B cB_.nb cB_.cb, .slice cB_.L cB_.nl cB_.cl, .int .i64 1, .int .i64 o.num, .slice none 0 0, .slice none 0 0, .int .i64 cR.kind, .int .i64 cR.n, .slice cR.B cR.nb cR.cb, .slice cR.L cR.nl cR.cl, .int .i64 cE.kind, .int .i64 cE.n, .slice cE.B cE.nb cE.cb, .slice cE.L cE.nl cE.cl] 67)))) (Lib.hid (HE.out.kept (below_box0 u (.cells #[.int .i64 cB_.kind, .int .i64 cB_.n, .slice cB_.B cB_.nb cB_.cb, .slice cB_.L cB_.nl cB_.cl, .int .i64 1, .int .i64 o.num, .slice none 0 0, .slice none 0 0, .int .i64 cR.kind, .int .i64 cR.n, .slice cR.B cR.nb cR.cb, .slice cR.L cR.nl cR.cl, .int .i64 cE.kind, .int .i64 cE.n, .slice cE.B cE.nb cE.cb, .slice cE.L cE.nl cE.cl] 67)))) (Lib.hid (heap_alloc_new u _)) (Lib.hid (by have := FB.out.1.size; omega))
      rw [hT, ha0] at hG
      (try simp only [qq1, qq2, qq3, Act.put, qq4, qq5, qq6] at hG)
      exact hG
    · skip
      go_simp
      have FB2 := hBx.out _ _ FB (below_box0 u (.cells #[.int .u8 0, .int .u8 0, .int .u8 0, .int .u8 0, .int .u8 0, .int .u8 0, .int .u8 0, .int .u8 0, .int .u8 0, .int .u8 0, .int .u8 0, .int .u8 0, .int .u8 0, .int .u8 0, .int .u8 0, .int .u8 0, .int .u8 0, .int .u8 0, .int .u8 0, .int .u8 0, .int .u8 0, .int .u8 0, .int .u8 0, .int .u8 0, .int .u8 0, .int .u8 0, .int .u8 0, .int .u8 0, .int .u8 0, .int .u8 0, .int .u8 0, .int .u8 0] 42))
      refine hK.out _ _ ?_ (fun hHeld => ?_)
      · exact hS.out _ FB2
      clear hK K hHeld
      try simp only [qq1, qq2, qq3, Act.put, qq4, qq5, qq6]
      have hG := G2_3_6_9_12_17 cB_ cR cE u.heap.size (u.alloc (.cells #[.int .u8 0, .int .u8 0, .int .u8 0, .int .u8 0, .int .u8 0, .int .u8 0, .int .u8 0, .int .u8 0, .int .u8 0, .int .u8 0, .int .u8 0, .int .u8 0, .int .u8 0, .int .u8 0, .int .u8 0, .int .u8 0, .int .u8 0, .int .u8 0, .int .u8 0, .int .u8 0, .int .u8 0, .int .u8 0, .int .u8 0, .int .u8 0, .int .u8 0, .int .u8 0, .int .u8 0, .int .u8 0, .int .u8 0, .int .u8 0, .int .u8 0, .int .u8 0] 42)) FB2 (Lib.hid (HB.out.kept (below_box0 u (.cells #[.int .u8 0, .int .u8 0, .int .u8 0, .int .u8 0, .int .u8 0, .int .u8 0, .int .u8 0, .int .u8 0, .int .u8 0, .int .u8 0, .int .u8 0, .int .u8 0, .int .u8 0, .int .u8 0, .int .u8 0, .int .u8 0, .int .u8 0, .int .u8 0, .int .u8 0, .int .u8 0, .int .u8 0, .int .u8 0, .int .u8 0, .int .u8 0, .int .u8 0, .int .u8 0, .int .u8 0, .int .u8 0, .int .u8 0, .int .u8 0, .int .u8 0, .int .u8 0] 42)))) (Lib.hid (HR.out.kept (below_box0 u (.cells #[.int .u8 0, .int .u8 0, .int .u8 0, .int .u8 0, .int .u8 0, .int .u8 0, .int .u8 0, .int .u8 0, .int .u8 0, .int .u8 0, .int .u8 0, .int .u8 0, .int .u8 0, .int .u8 0, .int .u8 0, .int .u8 0, .int .u8 0, .int .u8 0, .int .u8 0, .int .u8 0, .int .u8 0, .int .u8 0, .int .u8 0, .int .u8 0, .int .u8 0, .int .u8 0, .int .u8 0, .int .u8 0, .int .u8 0, .int .u8 0, .int .u8 0, .int .u8 0] 42)))) (Lib.hid (HE.out.kept (below_box0 u (.cells #[.int .u8 0, .int .u8 0, .int .u8 0, .int .u8 0, .int .u8 0, .int .u8 0, .int .u8 0, .int .u8 0, .int .u8 0, .int .u8 0, .int .u8 0, .int .u8 0, .int .u8 0, .int .u8 0, .int .u8 0, .int .u8 0, .int .u8 0, .int .u8 0, .int .u8 0, .int .u8 0, .int .u8 0, .int .u8 0, .int .u8 0, .int .u8 0, .int .u8 0, .int .u8 0, .int .u8 0, .int .u8 0, .int .u8 0, .int .u8 0, .int .u8 0, .int .u8 0] 42)))) (Lib.hid (by rw [zarrh]; exact Blk.new _ _)) (Lib.hid FB.out.1.size)
      rw [hT, ha0] at hG
      (try simp only [qq1, qq2, qq3, Act.put, qq4, qq5, qq6] at hG)
      exact hG
  have G2_3_6_9_17 : ∀ (cB_ : Ic) (cR : Ic) (gT : Nat) (u : World), (Hid (Below w0.heap.size w0 u ∧ Below w1.heap.size w1 u)) → (Hid (ItS w0.heap.size u (.byt h) cB_)) → (Hid (ItS w0.heap.size u (.byt (bys o.rs)) cR)) → (Hid (Blk .u8 42 u gT (zer 32))) → (Hid (w0.heap.size ≤ gT)) → T 6 #[true, true, true, true, true, true, true, true, true, true, true, true, false, false, false, false, false, true, false] (((((a0.put (some 14) (.agg (arr .u8 h))).put (some 15) (.agg #[.int .i64 cB_.kind, .int .i64 cB_.n, .slice cB_.B cB_.nb cB_.cb, .slice cB_.L cB_.nl cB_.cl])).put (some 18) (.agg #[.int .i64 1, .int .i64 (o.num), .slice none 0 0, .slice none 0 0])).put (some 21) (.agg #[.int .i64 cR.kind, .int .i64 cR.n, .slice cR.B cR.nb cR.cb, .slice cR.L cR.nl cR.cl])).put (some 6) (.pointer (some ⟨gT, 0, none⟩))) u := by
    intro cB_ cR gT u FB HB HR FT FTl
    have hHeld := hS.out _ FB
    rw [hT, ha0]
    try simp only [qq1, qq2, qq3, Act.put, qq4, qq5, qq6]
    refine wpT_one (i := 12) (by kernel_rfl) rfl (fun K hK => ?_)
    go_simp
    refine (reitem_any o.E1 o.E2 o.A o.na o.ca o.al o.C o.Z o.nz o.cz o.zs q1 q2 (by omega) (by omega) _ (kA.out _ (Lib.hid FB.out.1)) (kZ.out _ (Lib.hid FB.out.1))).mono ?_
    rintro e wB ⟨cB, rfl, hit, hq⟩
    have FB2 := hBx.out _ _ FB hq
    refine hK.out _ _ ?_ (fun hHeld => ?_)
    · exact hS.out _ FB2
    clear hK K hHeld
    try simp only [qq1, qq2, qq3, Act.put, qq4, qq5, qq6]
    have hG := G2_3_6_9_12_17 cB_ cR cB gT wB FB2 (Lib.hid (HB.out.kept hq)) (Lib.hid (HR.out.kept hq)) (Lib.hid (hit.mono (by have := FB.out.1.size; omega))) (Lib.hid (FT.out.below hq)) (FTl)
    rw [hT, ha0] at hG
    (try simp only [qq1, qq2, qq3, Act.put, qq4, qq5, qq6] at hG)
    exact hG
  have G2_3_6_9 : ∀ (cB_ : Ic) (cR : Ic) (u : World), (Hid (Below w0.heap.size w0 u ∧ Below w1.heap.size w1 u)) → (Hid (ItS w0.heap.size u (.byt h) cB_)) → (Hid (ItS w0.heap.size u (.byt (bys o.rs)) cR)) → T 7 #[true, true, true, true, true, true, true, true, true, true, true, true, false, false, false, false, false, false, false] ((((a0.put (some 14) (.agg (arr .u8 h))).put (some 15) (.agg #[.int .i64 cB_.kind, .int .i64 cB_.n, .slice cB_.B cB_.nb cB_.cb, .slice cB_.L cB_.nl cB_.cl])).put (some 18) (.agg #[.int .i64 1, .int .i64 (o.num), .slice none 0 0, .slice none 0 0])).put (some 21) (.agg #[.int .i64 cR.kind, .int .i64 cR.n, .slice cR.B cR.nb cR.cb, .slice cR.L cR.nl cR.cl])) u := by
    intro cB_ cR u FB HB HR
    have hHeld := hS.out _ FB
    rw [hT, ha0]
    try simp only [qq1, qq2, qq3, Act.put, qq4, qq5, qq6]
    refine wpT_two (i1 := 12) (i2 := 17) (by kernel_rfl) rfl rfl (fun K hK => ?_) (fun K hK => ?_)
    · skip
      go_simp
      refine (reitem_any o.E1 o.E2 o.A o.na o.ca o.al o.C o.Z o.nz o.cz o.zs q1 q2 (by omega) (by omega) _ (kA.out _ (Lib.hid FB.out.1)) (kZ.out _ (Lib.hid FB.out.1))).mono ?_
      rintro e wB ⟨cB, rfl, hit, hq⟩
      have FB2 := hBx.out _ _ FB hq
      refine hK.out _ _ ?_ (fun hHeld => ?_)
      · exact hS.out _ FB2
      clear hK K hHeld
      try simp only [qq1, qq2, qq3, Act.put, qq4, qq5, qq6]
      have hG := G2_3_6_9_12 cB_ cR cB wB FB2 (Lib.hid (HB.out.kept hq)) (Lib.hid (HR.out.kept hq)) (Lib.hid (hit.mono (by have := FB.out.1.size; omega)))
      rw [hT, ha0] at hG
      (try simp only [qq1, qq2, qq3, Act.put, qq4, qq5, qq6] at hG)
      exact hG
    · skip
      go_simp
      have FB2 := hBx.out _ _ FB (below_box0 u (.cells #[.int .u8 0, .int .u8 0, .int .u8 0, .int .u8 0, .int .u8 0, .int .u8 0, .int .u8 0, .int .u8 0, .int .u8 0, .int .u8 0, .int .u8 0, .int .u8 0, .int .u8 0, .int .u8 0, .int .u8 0, .int .u8 0, .int .u8 0, .int .u8 0, .int .u8 0, .int .u8 0, .int .u8 0, .int .u8 0, .int .u8 0, .int .u8 0, .int .u8 0, .int .u8 0, .int .u8 0, .int .u8 0, .int .u8 0, .int .u8 0, .int .u8 0, .int .u8 0] 42))
      refine hK.out _ _ ?_ (fun hHeld => ?_)
      · exact hS.out _ FB2
      clear hK K hHeld
      try simp only [qq1, qq2, qq3, Act.put, qq4, qq5, qq6]
      have hG := G2_3_6_9_17 cB_ cR u.heap.size (u.alloc (.cells #[.int .u8 0, .int .u8 0, .int .u8 0, .int .u8 0, .int .u8 0, .int .u8 0, .int .u8 0, .int .u8 0, .int .u8 0, .int .u8 0, .int .u8 0, .int .u8 0, .int .u8 0, .int .u8 0, .int .u8 0, .int .u8 0, .int .u8 0, .int .u8 0, .int .u8 0, .int .u8 0, .int .u8 0, .int .u8 0, .int .u8 0, .int .u8 0, .int .u8 0, .int .u8 0, .int .u8 0, .int .u8 0, .int .u8 0, .int .u8 0, .int .u8 0, .int .u8 0] 42)) FB2 (Lib.hid (HB.out.kept (below_box0 u (.cells #[.int .u8 0, .int .u8 0, .int .u8 0, .int .u8 0, .int .u8 0, .int .u8 0, .int .u8 0, .int .u8 0, .int .u8 0, .int .u8 0, .int .u8 0, .int .u8 0, .int .u8 0, .int .u8 0, .int .u8 0, .int .u8 0, .int .u8 0, .int .u8 0, .int .u8 0, .int .u8 0, .int .u8 0, .int .u8 0, .int .u8 0, .int .u8 0, .int .u8 0, .int .u8 0, .int .u8 0, .int .u8 0, .int .u8 0, .int .u8 0, .int .u8 0, .int .u8 0] 42)))) (Lib.hid (HR.out.kept (below_box0 u (.cells #[.int .u8 0, .int .u8 0, .int .u8 0, .int .u8 0, .int .u8 0, .int .u8 0, .int .u8 0, .int .u8 0, .int .u8 0, .int .u8 0, .int .u8 0, .int .u8 0, .int .u8 0, .int .u8 0, .int .u8 0, .int .u8 0, .int .u8 0, .int .u8 0, .int .u8 0, .int .u8 0, .int .u8 0, .int .u8 0, .int .u8 0, .int .u8 0, .int .u8 0, .int .u8 0, .int .u8 0, .int .u8 0, .int .u8 0, .int .u8 0, .int .u8 0, .int .u8 0] 42)))) (Lib.hid (by rw [zarrh]; exact Blk.new _ _)) (Lib.hid FB.out.1.size)
      rw [hT, ha0] at hG
      (try simp only [qq1, qq2, qq3, Act.put, qq4, qq5, qq6] at hG)
      exact hG
  have G2_3_6_17 : ∀ (cB_ : Ic) (gT : Nat) (u : World), (Hid (Below w0.heap.size w0 u ∧ Below w1.heap.size w1 u)) → (Hid (ItS w0.heap.size u (.byt h) cB_)) → (Hid (Blk .u8 42 u gT (zer 32))) → (Hid (w0.heap.size ≤ gT)) → T 7 #[true, true, true, true, true, true, true, true, true, false, true, true, false, false, false, false, false, true, false] ((((a0.put (some 14) (.agg (arr .u8 h))).put (some 15) (.agg #[.int .i64 cB_.kind, .int .i64 cB_.n, .slice cB_.B cB_.nb cB_.cb, .slice cB_.L cB_.nl cB_.cl])).put (some 18) (.agg #[.int .i64 1, .int .i64 (o.num), .slice none 0 0, .slice none 0 0])).put (some 6) (.pointer (some ⟨gT, 0, none⟩))) u := by
    intro cB_ gT u FB HB FT FTl
    have hHeld := hS.out _ FB
    rw [hT, ha0]
    try simp only [qq1, qq2, qq3, Act.put, qq4, qq5, qq6]
    refine wpT_one (i := 9) (by kernel_rfl) rfl (fun K hK => ?_)
    go_simp
    refine (rtext_it o.rs hrs0 hrs1 _).mono ?_
    rintro e wB ⟨cB, rfl, hit, hq⟩
    have FB2 := hBx.out _ _ FB hq
    refine hK.out _ _ ?_ (fun hHeld => ?_)
    · exact hS.out _ FB2
    clear hK K hHeld
    try simp only [qq1, qq2, qq3, Act.put, qq4, qq5, qq6]
    have hG := G2_3_6_9_17 cB_ cB gT wB FB2 (Lib.hid (HB.out.kept hq)) (Lib.hid (hit.mono (by have := FB.out.1.size; omega))) (Lib.hid (FT.out.below hq)) (FTl)
    rw [hT, ha0] at hG
    (try simp only [qq1, qq2, qq3, Act.put, qq4, qq5, qq6] at hG)
    exact hG
  have G2_3_6 : ∀ (cB_ : Ic) (u : World), (Hid (Below w0.heap.size w0 u ∧ Below w1.heap.size w1 u)) → (Hid (ItS w0.heap.size u (.byt h) cB_)) → T 8 #[true, true, true, true, true, true, true, true, true, false, true, true, false, false, false, false, false, false, false] (((a0.put (some 14) (.agg (arr .u8 h))).put (some 15) (.agg #[.int .i64 cB_.kind, .int .i64 cB_.n, .slice cB_.B cB_.nb cB_.cb, .slice cB_.L cB_.nl cB_.cl])).put (some 18) (.agg #[.int .i64 1, .int .i64 (o.num), .slice none 0 0, .slice none 0 0])) u := by
    intro cB_ u FB HB
    have hHeld := hS.out _ FB
    rw [hT, ha0]
    try simp only [qq1, qq2, qq3, Act.put, qq4, qq5, qq6]
    refine wpT_two (i1 := 9) (i2 := 17) (by kernel_rfl) rfl rfl (fun K hK => ?_) (fun K hK => ?_)
    · skip
      go_simp
      refine (rtext_it o.rs hrs0 hrs1 _).mono ?_
      rintro e wB ⟨cB, rfl, hit, hq⟩
      have FB2 := hBx.out _ _ FB hq
      refine hK.out _ _ ?_ (fun hHeld => ?_)
      · exact hS.out _ FB2
      clear hK K hHeld
      try simp only [qq1, qq2, qq3, Act.put, qq4, qq5, qq6]
      have hG := G2_3_6_9 cB_ cB wB FB2 (Lib.hid (HB.out.kept hq)) (Lib.hid (hit.mono (by have := FB.out.1.size; omega)))
      rw [hT, ha0] at hG
      (try simp only [qq1, qq2, qq3, Act.put, qq4, qq5, qq6] at hG)
      exact hG
    · skip
      go_simp
      have FB2 := hBx.out _ _ FB (below_box0 u (.cells #[.int .u8 0, .int .u8 0, .int .u8 0, .int .u8 0, .int .u8 0, .int .u8 0, .int .u8 0, .int .u8 0, .int .u8 0, .int .u8 0, .int .u8 0, .int .u8 0, .int .u8 0, .int .u8 0, .int .u8 0, .int .u8 0, .int .u8 0, .int .u8 0, .int .u8 0, .int .u8 0, .int .u8 0, .int .u8 0, .int .u8 0, .int .u8 0, .int .u8 0, .int .u8 0, .int .u8 0, .int .u8 0, .int .u8 0, .int .u8 0, .int .u8 0, .int .u8 0] 42))
      refine hK.out _ _ ?_ (fun hHeld => ?_)
      · exact hS.out _ FB2
      clear hK K hHeld
      try simp only [qq1, qq2, qq3, Act.put, qq4, qq5, qq6]
      have hG := G2_3_6_17 cB_ u.heap.size (u.alloc (.cells #[.int .u8 0, .int .u8 0, .int .u8 0, .int .u8 0, .int .u8 0, .int .u8 0, .int .u8 0, .int .u8 0, .int .u8 0, .int .u8 0, .int .u8 0, .int .u8 0, .int .u8 0, .int .u8 0, .int .u8 0, .int .u8 0, .int .u8 0, .int .u8 0, .int .u8 0, .int .u8 0, .int .u8 0, .int .u8 0, .int .u8 0, .int .u8 0, .int .u8 0, .int .u8 0, .int .u8 0, .int .u8 0, .int .u8 0, .int .u8 0, .int .u8 0, .int .u8 0] 42)) FB2 (Lib.hid (HB.out.kept (below_box0 u (.cells #[.int .u8 0, .int .u8 0, .int .u8 0, .int .u8 0, .int .u8 0, .int .u8 0, .int .u8 0, .int .u8 0, .int .u8 0, .int .u8 0, .int .u8 0, .int .u8 0, .int .u8 0, .int .u8 0, .int .u8 0, .int .u8 0, .int .u8 0, .int .u8 0, .int .u8 0, .int .u8 0, .int .u8 0, .int .u8 0, .int .u8 0, .int .u8 0, .int .u8 0, .int .u8 0, .int .u8 0, .int .u8 0, .int .u8 0, .int .u8 0, .int .u8 0, .int .u8 0] 42)))) (Lib.hid (by rw [zarrh]; exact Blk.new _ _)) (Lib.hid FB.out.1.size)
      rw [hT, ha0] at hG
      (try simp only [qq1, qq2, qq3, Act.put, qq4, qq5, qq6] at hG)
      exact hG
  have G2_3_17 : ∀ (cB_ : Ic) (gT : Nat) (u : World), (Hid (Below w0.heap.size w0 u ∧ Below w1.heap.size w1 u)) → (Hid (ItS w0.heap.size u (.byt h) cB_)) → (Hid (Blk .u8 42 u gT (zer 32))) → (Hid (w0.heap.size ≤ gT)) → T 8 #[true, true, true, true, true, true, false, true, true, false, true, true, false, false, false, false, false, true, false] (((a0.put (some 14) (.agg (arr .u8 h))).put (some 15) (.agg #[.int .i64 cB_.kind, .int .i64 cB_.n, .slice cB_.B cB_.nb cB_.cb, .slice cB_.L cB_.nl cB_.cl])).put (some 6) (.pointer (some ⟨gT, 0, none⟩))) u := by
    intro cB_ gT u FB HB FT FTl
    have hHeld := hS.out _ FB
    rw [hT, ha0]
    try simp only [qq1, qq2, qq3, Act.put, qq4, qq5, qq6]
    refine wpT_one (i := 6) (by kernel_rfl) rfl (fun K hK => ?_)
    go_simp
    refine (rinteger_it o.num _).mono ?_
    rintro e wB ⟨rfl, hq⟩
    have FB2 := hBx.out _ _ FB hq
    refine hK.out _ _ ?_ (fun hHeld => ?_)
    · exact hS.out _ FB2
    clear hK K hHeld
    try simp only [qq1, qq2, qq3, Act.put, qq4, qq5, qq6]
    have hG := G2_3_6_17 cB_ gT wB FB2 (Lib.hid (HB.out.kept hq)) (Lib.hid (FT.out.below hq)) (FTl)
    rw [hT, ha0] at hG
    (try simp only [qq1, qq2, qq3, Act.put, qq4, qq5, qq6] at hG)
    exact hG
  have G2_3 : ∀ (cB_ : Ic) (u : World), (Hid (Below w0.heap.size w0 u ∧ Below w1.heap.size w1 u)) → (Hid (ItS w0.heap.size u (.byt h) cB_)) → T 9 #[true, true, true, true, true, true, false, true, true, false, true, true, false, false, false, false, false, false, false] ((a0.put (some 14) (.agg (arr .u8 h))).put (some 15) (.agg #[.int .i64 cB_.kind, .int .i64 cB_.n, .slice cB_.B cB_.nb cB_.cb, .slice cB_.L cB_.nl cB_.cl])) u := by
    intro cB_ u FB HB
    have hHeld := hS.out _ FB
    rw [hT, ha0]
    try simp only [qq1, qq2, qq3, Act.put, qq4, qq5, qq6]
    refine wpT_two (i1 := 6) (i2 := 17) (by kernel_rfl) rfl rfl (fun K hK => ?_) (fun K hK => ?_)
    · skip
      go_simp
      refine (rinteger_it o.num _).mono ?_
      rintro e wB ⟨rfl, hq⟩
      have FB2 := hBx.out _ _ FB hq
      refine hK.out _ _ ?_ (fun hHeld => ?_)
      · exact hS.out _ FB2
      clear hK K hHeld
      try simp only [qq1, qq2, qq3, Act.put, qq4, qq5, qq6]
      have hG := G2_3_6 cB_ wB FB2 (Lib.hid (HB.out.kept hq))
      rw [hT, ha0] at hG
      (try simp only [qq1, qq2, qq3, Act.put, qq4, qq5, qq6] at hG)
      exact hG
    · skip
      go_simp
      have FB2 := hBx.out _ _ FB (below_box0 u (.cells #[.int .u8 0, .int .u8 0, .int .u8 0, .int .u8 0, .int .u8 0, .int .u8 0, .int .u8 0, .int .u8 0, .int .u8 0, .int .u8 0, .int .u8 0, .int .u8 0, .int .u8 0, .int .u8 0, .int .u8 0, .int .u8 0, .int .u8 0, .int .u8 0, .int .u8 0, .int .u8 0, .int .u8 0, .int .u8 0, .int .u8 0, .int .u8 0, .int .u8 0, .int .u8 0, .int .u8 0, .int .u8 0, .int .u8 0, .int .u8 0, .int .u8 0, .int .u8 0] 42))
      refine hK.out _ _ ?_ (fun hHeld => ?_)
      · exact hS.out _ FB2
      clear hK K hHeld
      try simp only [qq1, qq2, qq3, Act.put, qq4, qq5, qq6]
      have hG := G2_3_17 cB_ u.heap.size (u.alloc (.cells #[.int .u8 0, .int .u8 0, .int .u8 0, .int .u8 0, .int .u8 0, .int .u8 0, .int .u8 0, .int .u8 0, .int .u8 0, .int .u8 0, .int .u8 0, .int .u8 0, .int .u8 0, .int .u8 0, .int .u8 0, .int .u8 0, .int .u8 0, .int .u8 0, .int .u8 0, .int .u8 0, .int .u8 0, .int .u8 0, .int .u8 0, .int .u8 0, .int .u8 0, .int .u8 0, .int .u8 0, .int .u8 0, .int .u8 0, .int .u8 0, .int .u8 0, .int .u8 0] 42)) FB2 (Lib.hid (HB.out.kept (below_box0 u (.cells #[.int .u8 0, .int .u8 0, .int .u8 0, .int .u8 0, .int .u8 0, .int .u8 0, .int .u8 0, .int .u8 0, .int .u8 0, .int .u8 0, .int .u8 0, .int .u8 0, .int .u8 0, .int .u8 0, .int .u8 0, .int .u8 0, .int .u8 0, .int .u8 0, .int .u8 0, .int .u8 0, .int .u8 0, .int .u8 0, .int .u8 0, .int .u8 0, .int .u8 0, .int .u8 0, .int .u8 0, .int .u8 0, .int .u8 0, .int .u8 0, .int .u8 0, .int .u8 0] 42)))) (Lib.hid (by rw [zarrh]; exact Blk.new _ _)) (Lib.hid FB.out.1.size)
      rw [hT, ha0] at hG
      (try simp only [qq1, qq2, qq3, Act.put, qq4, qq5, qq6] at hG)
      exact hG
  have G2_17 : ∀ (gT : Nat) (u : World), (Hid (Below w0.heap.size w0 u ∧ Below w1.heap.size w1 u)) → (Hid (Blk .u8 42 u gT (zer 32))) → (Hid (w0.heap.size ≤ gT)) → T 9 #[true, true, true, false, true, true, false, true, true, false, true, true, false, false, false, false, false, true, false] ((a0.put (some 14) (.agg (arr .u8 h))).put (some 6) (.pointer (some ⟨gT, 0, none⟩))) u := by
    intro gT u FB FT FTl
    have hHeld := hS.out _ FB
    rw [hT, ha0]
    try simp only [qq1, qq2, qq3, Act.put, qq4, qq5, qq6]
    refine wpT_one (i := 3) (by kernel_rfl) rfl (fun K hK => ?_)
    go_simp
    refine (r31bytes_any h hl _).mono ?_
    rintro e wB ⟨cB, rfl, hit, hq⟩
    have FB2 := hBx.out _ _ FB hq
    refine hK.out _ _ ?_ (fun hHeld => ?_)
    · exact hS.out _ FB2
    clear hK K hHeld
    try simp only [qq1, qq2, qq3, Act.put, qq4, qq5, qq6]
    have hG := G2_3_17 cB gT wB FB2 (Lib.hid (hit.mono (by have := FB.out.1.size; omega))) (Lib.hid (FT.out.below hq)) (FTl)
    rw [hT, ha0] at hG
    (try simp only [qq1, qq2, qq3, Act.put, qq4, qq5, qq6] at hG)
    exact hG
  have G2 : ∀  (u : World), (Hid (Below w0.heap.size w0 u ∧ Below w1.heap.size w1 u)) → T 10 #[true, true, true, false, true, true, false, true, true, false, true, true, false, false, false, false, false, false, false] (a0.put (some 14) (.agg (arr .u8 h))) u := by
    intro  u FB
    have hHeld := hS.out _ FB
    rw [hT, ha0]
    try simp only [qq1, qq2, qq3, Act.put, qq4, qq5, qq6]
    refine wpT_two (i1 := 3) (i2 := 17) (by kernel_rfl) rfl rfl (fun K hK => ?_) (fun K hK => ?_)
    · skip
      go_simp
      refine (r31bytes_any h hl _).mono ?_
      rintro e wB ⟨cB, rfl, hit, hq⟩
      have FB2 := hBx.out _ _ FB hq
      refine hK.out _ _ ?_ (fun hHeld => ?_)
      · exact hS.out _ FB2
      clear hK K hHeld
      try simp only [qq1, qq2, qq3, Act.put, qq4, qq5, qq6]
      have hG := G2_3 cB wB FB2 (Lib.hid (hit.mono (by have := FB.out.1.size; omega)))
      rw [hT, ha0] at hG
      (try simp only [qq1, qq2, qq3, Act.put, qq4, qq5, qq6] at hG)
      exact hG
    · skip
      go_simp
      have FB2 := hBx.out _ _ FB (below_box0 u (.cells #[.int .u8 0, .int .u8 0, .int .u8 0, .int .u8 0, .int .u8 0, .int .u8 0, .int .u8 0, .int .u8 0, .int .u8 0, .int .u8 0, .int .u8 0, .int .u8 0, .int .u8 0, .int .u8 0, .int .u8 0, .int .u8 0, .int .u8 0, .int .u8 0, .int .u8 0, .int .u8 0, .int .u8 0, .int .u8 0, .int .u8 0, .int .u8 0, .int .u8 0, .int .u8 0, .int .u8 0, .int .u8 0, .int .u8 0, .int .u8 0, .int .u8 0, .int .u8 0] 42))
      refine hK.out _ _ ?_ (fun hHeld => ?_)
      · exact hS.out _ FB2
      clear hK K hHeld
      try simp only [qq1, qq2, qq3, Act.put, qq4, qq5, qq6]
      have hG := G2_17 u.heap.size (u.alloc (.cells #[.int .u8 0, .int .u8 0, .int .u8 0, .int .u8 0, .int .u8 0, .int .u8 0, .int .u8 0, .int .u8 0, .int .u8 0, .int .u8 0, .int .u8 0, .int .u8 0, .int .u8 0, .int .u8 0, .int .u8 0, .int .u8 0, .int .u8 0, .int .u8 0, .int .u8 0, .int .u8 0, .int .u8 0, .int .u8 0, .int .u8 0, .int .u8 0, .int .u8 0, .int .u8 0, .int .u8 0, .int .u8 0, .int .u8 0, .int .u8 0, .int .u8 0, .int .u8 0] 42)) FB2 (Lib.hid (by rw [zarrh]; exact Blk.new _ _)) (Lib.hid FB.out.1.size)
      rw [hT, ha0] at hG
      (try simp only [qq1, qq2, qq3, Act.put, qq4, qq5, qq6] at hG)
      exact hG
  have G17 : ∀ (gT : Nat) (u : World), (Hid (Below w0.heap.size w0 u ∧ Below w1.heap.size w1 u)) → (Hid (Blk .u8 42 u gT (zer 32))) → (Hid (w0.heap.size ≤ gT)) → T 10 #[true, true, false, false, true, true, false, true, true, false, true, true, false, false, false, false, false, true, false] (a0.put (some 6) (.pointer (some ⟨gT, 0, none⟩))) u := by
    intro gT u FB FT FTl
    have hHeld := hS.out _ FB
    rw [hT, ha0]
    try simp only [qq1, qq2, qq3, Act.put, qq4, qq5, qq6]
    refine wpT_one (i := 2) (by kernel_rfl) rfl (fun K hK => ?_)
    go_simp
    refine (rbefore_any (some ⟨bO, fO, none⟩) n c _ hs m d i hm him hb2 _ (kK.out _ (Lib.hid FB.out.1))).mono ?_
    rintro e wB ⟨rfl, hq⟩
    rw [hh.out]
    have FB2 := hBx.out _ _ FB hq
    refine hK.out _ _ ?_ (fun hHeld => ?_)
    · exact hS.out _ FB2
    clear hK K hHeld
    try simp only [qq1, qq2, qq3, Act.put, qq4, qq5, qq6]
    have hG := G2_17 gT wB FB2 (Lib.hid (FT.out.below hq)) (FTl)
    rw [hT, ha0] at hG
    (try simp only [qq1, qq2, qq3, Act.put, qq4, qq5, qq6] at hG)
    exact hG
  have G0 : ∀  (u : World), (Hid (Below w0.heap.size w0 u ∧ Below w1.heap.size w1 u)) → T 11 #[true, true, false, false, true, true, false, true, true, false, true, true, false, false, false, false, false, false, false] a0 u := by
    intro  u FB
    have hHeld := hS.out _ FB
    rw [hT, ha0]
    try simp only [qq1, qq2, qq3, Act.put, qq4, qq5, qq6]
    refine wpT_two (i1 := 2) (i2 := 17) (by kernel_rfl) rfl rfl (fun K hK => ?_) (fun K hK => ?_)
    · skip
      go_simp
      refine (rbefore_any (some ⟨bO, fO, none⟩) n c _ hs m d i hm him hb2 _ (kK.out _ (Lib.hid FB.out.1))).mono ?_
      rintro e wB ⟨rfl, hq⟩
      rw [hh.out]
      have FB2 := hBx.out _ _ FB hq
      refine hK.out _ _ ?_ (fun hHeld => ?_)
      · exact hS.out _ FB2
      clear hK K hHeld
      try simp only [qq1, qq2, qq3, Act.put, qq4, qq5, qq6]
      have hG := G2  wB FB2
      rw [hT, ha0] at hG
      (try simp only [qq1, qq2, qq3, Act.put, qq4, qq5, qq6] at hG)
      exact hG
    · skip
      go_simp
      have FB2 := hBx.out _ _ FB (below_box0 u (.cells #[.int .u8 0, .int .u8 0, .int .u8 0, .int .u8 0, .int .u8 0, .int .u8 0, .int .u8 0, .int .u8 0, .int .u8 0, .int .u8 0, .int .u8 0, .int .u8 0, .int .u8 0, .int .u8 0, .int .u8 0, .int .u8 0, .int .u8 0, .int .u8 0, .int .u8 0, .int .u8 0, .int .u8 0, .int .u8 0, .int .u8 0, .int .u8 0, .int .u8 0, .int .u8 0, .int .u8 0, .int .u8 0, .int .u8 0, .int .u8 0, .int .u8 0, .int .u8 0] 42))
      refine hK.out _ _ ?_ (fun hHeld => ?_)
      · exact hS.out _ FB2
      clear hK K hHeld
      try simp only [qq1, qq2, qq3, Act.put, qq4, qq5, qq6]
      have hG := G17 u.heap.size (u.alloc (.cells #[.int .u8 0, .int .u8 0, .int .u8 0, .int .u8 0, .int .u8 0, .int .u8 0, .int .u8 0, .int .u8 0, .int .u8 0, .int .u8 0, .int .u8 0, .int .u8 0, .int .u8 0, .int .u8 0, .int .u8 0, .int .u8 0, .int .u8 0, .int .u8 0, .int .u8 0, .int .u8 0, .int .u8 0, .int .u8 0, .int .u8 0, .int .u8 0, .int .u8 0, .int .u8 0, .int .u8 0, .int .u8 0, .int .u8 0, .int .u8 0, .int .u8 0, .int .u8 0] 42)) FB2 (Lib.hid (by rw [zarrh]; exact Blk.new _ _)) (Lib.hid FB.out.1.size)
      rw [hT, ha0] at hG
      (try simp only [qq1, qq2, qq3, Act.put, qq4, qq5, qq6] at hG)
      exact hG
  exact G0 _ HBD
set_option maxHeartbeats 3200000 in
theorem rtval_1 (O : Option Addr) (n c : Nat) (K : Option Addr) (m d : Nat) (h : ¬ n ≤ 100) (hb1 : n ≤ 1000000) (w : World) :
    Calls Tryd.prog 13 #[tlV O n c K m d] w fun e' w' => e' = .returned (.bool false) ∧ Below w.heap.size w w' := by
  have dn : decide ((100 : Int) < (n : Int)) = true := by simp; omega
  obtain ⟨w0, HW, HBw, kC⟩ := stTl O n c K m d w
  have HB_0 : Hid (Below w0.heap.size w0 w0) := Lib.hid (Below.refl _ _)
  go_enter Tryd.func13, Tryd.ntmps13
  go_upto_region 1 with (fail)
  rw [HW.out]
  obtain ⟨zc0, zc1⟩ := kC.out _ HB_0
  have hbF := below_ext HBw.out HB_0.out
  go_wp2
  go_ret
  exact ⟨rfl, hbF⟩
set_option maxHeartbeats 25600000 in
theorem rtval_2 (O : Option Addr) (os : List OrdR) (n c : Nat) (K : Option Addr) (hs : List (List Int)) (m d : Nat) (hn : Hid (os.length = n)) (hm : Hid (hs.length = m)) (hI : ∀ k, k < n → OrdI (orL os k)) (hb1 : n ≤ 1000000) (hb2 : m ≤ 1000000) (h100 : n ≤ 100) (r : Bool) (hr : Kp (trlB os hs = r)) (w : World) (hv : Hid (VarsD w)) (hO : Hid (Os w O os)) (hK : Hid (Hs w K hs)) :
    Calls Tryd.prog 13 #[tlV O n c K m d] w fun e' w' => e' = .returned (.bool r) ∧ Below w.heap.size w w' := by
  have dn : decide ((100 : Int) < (n : Int)) = false := by simp; omega
  obtain ⟨w0, HW, HBw, kC⟩ := stTl O n c K m d w
  have kD := Lib.hid (show ∀ u : World, Hid (Below w0.heap.size w0 u) → Hid (VarsD u) from fun u h => Lib.hid ((hv.out.below) (below_ext HBw.out h.out)))
  have kOs := Lib.hid (show ∀ u : World, Hid (Below w0.heap.size w0 u) → Hid (Os u O os) from fun u h => Lib.hid ((hO.out.below) (below_ext HBw.out h.out)))
  have kHs := Lib.hid (show ∀ u : World, Hid (Below w0.heap.size w0 u) → Hid (Hs u K hs) from fun u h => Lib.hid ((hK.out.below) (below_ext HBw.out h.out)))
  have HB_0 : Hid (Below w0.heap.size w0 w0) := Lib.hid (Below.refl _ _)
  clear hv hO hK
  go_enter Tryd.func13, Tryd.ntmps13
  go_upto_region 1 with (fail)
  rw [HW.out]
  obtain ⟨zc0, zc1⟩ := kC.out _ HB_0
  have HBl := HB_0
  have hq0 := below_box0 w0 (.cells #[.int .u8 0, .int .u8 0, .int .u8 0, .int .u8 0, .int .u8 0, .int .u8 0, .int .u8 0, .int .u8 0, .int .u8 0, .int .u8 0, .int .u8 0, .int .u8 0, .int .u8 0, .int .u8 0, .int .u8 0, .int .u8 0, .int .u8 0, .int .u8 0, .int .u8 0, .int .u8 0, .int .u8 0, .int .u8 0, .int .u8 0, .int .u8 0, .int .u8 0, .int .u8 0, .int .u8 0, .int .u8 0, .int .u8 0, .int .u8 0, .int .u8 0, .int .u8 0] 42)
  have HB_1 := Lib.hid (below_ext HB_0.out hq0)
  clear hq0
  obtain ⟨zc0x, zc1x⟩ := kC.out _ HB_1
  go_wp2
  clear zc0 zc1 zc0x zc1x
  obtain ⟨W, hW⟩ : ∃ x, w0.alloc (.cells #[.int .u8 0, .int .u8 0, .int .u8 0, .int .u8 0, .int .u8 0, .int .u8 0, .int .u8 0, .int .u8 0, .int .u8 0, .int .u8 0, .int .u8 0, .int .u8 0, .int .u8 0, .int .u8 0, .int .u8 0, .int .u8 0, .int .u8 0, .int .u8 0, .int .u8 0, .int .u8 0, .int .u8 0, .int .u8 0, .int .u8 0, .int .u8 0, .int .u8 0, .int .u8 0, .int .u8 0, .int .u8 0, .int .u8 0, .int .u8 0, .int .u8 0, .int .u8 0] 42) = x := ⟨_, rfl⟩
  rw [hW] at HB_1
  have HBX := HB_1
  obtain ⟨B, hB⟩ : ∃ x, w0.heap.size = x := ⟨_, rfl⟩
  have HSB : Hid (W.heap.size = B + 1 ∧ w0.heap.size ≤ B) := Lib.hid ⟨by rw [← hW, ← hB]; simp, by rw [← hB]; exact Nat.le_refl _⟩
  have HK0 : Hid (Blk .u8 42 W B (zer 32)) := Lib.hid (by rw [← hW, ← hB, zarrh]; exact Blk.new _ _)
  rw [hW, hB]
  have HSW := Lib.hid hW
  have HSB2 := Lib.hid hB
  clear hW hB HBl
  go_loopw [5, 6] (fun ce i u => ∃ (k : Nat) (h : List Int), k ≤ n ∧ i = .int .i64 k ∧ ce = .int .i64 (clN os k) ∧ Hid (trS os hs n k = true) ∧ Kp (hbL os k = h) ∧ Hid (Blk .u8 42 u B h) ∧ Hid (Below B W u)) (fun _ i _ => n - (intOf i).toNat)
  case atStart => exact ⟨0, zer 32, by omega, rfl, rfl, Lib.hid rfl, ⟨rfl⟩, HK0, Lib.hid (Below.refl _ _)⟩
  case round =>
    obtain ⟨k, h, hk, rfl, rfl, HST, HHB, HBK, HBr⟩ := hrel
    have HBr0 : Hid (Below w0.heap.size w0 wr) := Lib.hid (HBX.out.trans (HBr.out.mono HSB.out.2))
    have HL : Hid (h.length = 32) := Lib.hid (by rw [← HHB.1]; exact hbL_len _ _)
    have HBY : Hid (bytesB h = true) := Lib.hid (by rw [← HHB.1]; exact hbL_b _ _)
    by_cases hlt : k < n
    · skip
      have hkl : k < os.length := by rw [hn.out]; exact hlt
      obtain ⟨b, f, hA, h9, hok⟩ := (kOs.out _ HBr0).out k hkl
      subst hA
      have hoi := hI k hlt
      have hcl : clN os k = k := cl_eq HST.out hlt
      rw [hcl]
      obtain ⟨o, ho⟩ : ∃ o, os.getD k noOrd = o := ⟨_, rfl⟩
      have HPP : Hid (orL os k = o) := Lib.hid ho
      rw [ho] at h9 hok
      have hoi2 : OrdI o := by rw [← ho]; exact hoi
      have HOI := Lib.hid hoi2
      have HOK := Lib.hid hok
      obtain ⟨j0, j1, j2, j3, j4, j5, j6, j7, j8⟩ := h9
      have dw : IntKind.i64.wrap ((n : Int) - 1) = (n : Int) - 1 := IntWalk.i64_in _ (by omega)
      have dw2 : wrap64 ((n : Int) - 1) = (n : Int) - 1 := IntWalk.wrap64_in _ (by omega)
      have HCL := Lib.hid hcl
      clear ho hoi hoi2 hok hkl hcl
      cases hob : ordB o with
      | true =>
        by_cases hnum : o.num = (k : Int)
        · skip
          by_cases hkey : o.key = 0
          · skip
            by_cases hlast : k + 1 = n
            · skip
              have HOB := Lib.hid hob
              have dn1 : (o.num != (k : Int)) = false := by simpa using hnum
              have dk1 : (o.key == 0) = true := by simpa using hkey
              have dl1 : decide ((k : Int) < (n : Int) - 1) = false := by simp; omega
              have HS2 : Hid (trS os hs n (k + 1) = true) := Lib.hid (by rw [trS, HST.out, trR, HPP.out]; simp [hob, hkey, hnum, hlast])
              have HH2 : Kp (hbL os (k + 1) = h) := ⟨by rw [hbL, HPP.out, if_pos hkey]; exact HHB.1⟩
              have HCN : Hid (clN os (k + 1) = k) := Lib.hid (by simp [clN, HPP.out, hkey, HCL.out])
              clear hob hkey hnum hlast
              have HB_wr_1 : Hid (Below wr.heap.size wr wr) := Lib.hid (Below.refl _ _)
              have kOo := Lib.hid (show ∀ u : World, Hid (Below wr.heap.size wr u) → Hid (OrdOk u o) from fun u h => Lib.hid (HOK.out.below h.out))
              have kBK := Lib.hid (show ∀ u : World, Hid (Below wr.heap.size wr u) → Hid (Blk .u8 42 u B h) from fun u h9 => Lib.hid (HBK.out.below h9.out))
              obtain ⟨zc0, zc1⟩ := kC.out _ HBr0
              have hq := below_box0 wr (orO o)
              have HB_2 := Lib.hid (below_ext HBr0.out hq)
              have HB_wr_2 := Lib.hid (below_ext HB_wr_1.out hq)
              have hc : (wr.alloc (orO o)).cell? ⟨wr.heap.size, 0, none⟩ = some (.int .i64 o.num) ∧ (wr.alloc (orO o)).cell? ⟨wr.heap.size, 1, none⟩ = some (.string o.rs) ∧ (wr.alloc (orO o)).cell? ⟨wr.heap.size, 2, none⟩ = some (.int .i64 o.E1) ∧ (wr.alloc (orO o)).cell? ⟨wr.heap.size, 3, none⟩ = some (.int .i64 o.E2) ∧ (wr.alloc (orO o)).cell? ⟨wr.heap.size, 4, none⟩ = some (.slice o.A o.na o.ca) ∧ (wr.alloc (orO o)).cell? ⟨wr.heap.size, 5, none⟩ = some (.int .i64 o.C) ∧ (wr.alloc (orO o)).cell? ⟨wr.heap.size, 6, none⟩ = some (.slice o.Z o.nz o.cz) ∧ (wr.alloc (orO o)).cell? ⟨wr.heap.size, 7, none⟩ = some (.slice o.L o.np o.cp) ∧ (wr.alloc (orO o)).cell? ⟨wr.heap.size, 8, none⟩ = some (.int .i64 o.key) := ⟨allocs_cell rfl (by rfl), allocs_cell rfl (by rfl), allocs_cell rfl (by rfl), allocs_cell rfl (by rfl), allocs_cell rfl (by rfl), allocs_cell rfl (by rfl), allocs_cell rfl (by rfl), allocs_cell rfl (by rfl), allocs_cell rfl (by rfl)⟩
              have HC2 := Lib.hid hc
              clear hq
              obtain ⟨zc0x, zc1x⟩ := kC.out _ HB_2
              obtain ⟨zq0, zq1, zq2, zq3, zq4, zq5, zq6, zq7, zq8⟩ := hc
              go_wp2_with fail
              obtain ⟨w2, hw⟩ : ∃ x, (wr.alloc (orO o)) = x := ⟨_, rfl⟩
              rw [hw] at HC2 HB_2 HB_wr_2 ⊢
              have HSN2 : Hid (w2.heap.size = wr.heap.size + 1) := Lib.hid (by rw [← hw]; simp)
              clear zc0 zc1 zc0x zc1x zq0 zq1 zq2 zq3 zq4 zq5 zq6 zq7 zq8
              clear hw
              have HB_w2_2 : Hid (Below w2.heap.size w2 w2) := Lib.hid (Below.refl _ _)
              have kS := Lib.hid (show ∀ u : World, Hid (Below w2.heap.size w2 u) → u.cell? ⟨wr.heap.size, 0, none⟩ = some (.int .i64 o.num) ∧ u.cell? ⟨wr.heap.size, 1, none⟩ = some (.string o.rs) ∧ u.cell? ⟨wr.heap.size, 2, none⟩ = some (.int .i64 o.E1) ∧ u.cell? ⟨wr.heap.size, 3, none⟩ = some (.int .i64 o.E2) ∧ u.cell? ⟨wr.heap.size, 4, none⟩ = some (.slice o.A o.na o.ca) ∧ u.cell? ⟨wr.heap.size, 5, none⟩ = some (.int .i64 o.C) ∧ u.cell? ⟨wr.heap.size, 6, none⟩ = some (.slice o.Z o.nz o.cz) ∧ u.cell? ⟨wr.heap.size, 7, none⟩ = some (.slice o.L o.np o.cp) ∧ u.cell? ⟨wr.heap.size, 8, none⟩ = some (.int .i64 o.key) from fun u h => ⟨cell_below HC2.out.1 h.out, cell_below HC2.out.2.1 h.out, cell_below HC2.out.2.2.1 h.out, cell_below HC2.out.2.2.2.1 h.out, cell_below HC2.out.2.2.2.2.1 h.out, cell_below HC2.out.2.2.2.2.2.1 h.out, cell_below HC2.out.2.2.2.2.2.2.1 h.out, cell_below HC2.out.2.2.2.2.2.2.2.1 h.out, cell_below HC2.out.2.2.2.2.2.2.2.2 h.out⟩)
              obtain ⟨zc0, zc1⟩ := kC.out _ HB_2
              obtain ⟨kS_0, kS_1, kS_2, kS_3, kS_4, kS_5, kS_6, kS_7, kS_8⟩ := kS.out _ HB_w2_2
              clear j0 j1 j2 j3 j4 j5 j6 j7 j8
              clear zc0 zc1 kS_0 kS_1 kS_2 kS_3 kS_4 kS_5 kS_6 kS_7 kS_8
              obtain ⟨zc0, zc1⟩ := kC.out _ HB_2
              obtain ⟨kS_0, kS_1, kS_2, kS_3, kS_4, kS_5, kS_6, kS_7, kS_8⟩ := kS.out _ HB_w2_2
              go_wp2_with fail
              refine (rorder_any o true HOB _ (kOo.out _ HB_wr_2)).mono ?_
              rintro e w3 ⟨rfl, hb0⟩
              have HB_3 := Lib.hid (below_ext HB_2.out hb0)
              have HB_wr_3 := Lib.hid (below_ext HB_wr_2.out hb0)
              have HB_w2_3 := Lib.hid (below_ext HB_w2_2.out hb0)
              clear zc0 zc1 kS_0 kS_1 kS_2 kS_3 kS_4 kS_5 kS_6 kS_7 kS_8
              clear hb0
              obtain ⟨zc0, zc1⟩ := kC.out _ HB_3
              obtain ⟨kS_0, kS_1, kS_2, kS_3, kS_4, kS_5, kS_6, kS_7, kS_8⟩ := kS.out _ HB_w2_3
              have HBn : Hid (Below B W w3) := Lib.hid (HBr.out.trans (HB_wr_3.out.mono (by have := HBr.out.size; have := HSB.out.1; omega)))
              have HKn : Hid (Blk .u8 42 w3 B h) := (kBK.out _ HB_wr_3)
              go_wp2
              go_roundw
              case rel => exact ⟨k + 1, h, by omega, by go_num, by rw [HCN.out], HS2, HH2, HKn, HBn⟩
              case measure => simp [intOf]; omega
            · skip
              have HOB := Lib.hid hob
              have dn1 : (o.num != (k : Int)) = false := by simpa using hnum
              have dk1 : (o.key == 0) = true := by simpa using hkey
              have dl1 : decide ((k : Int) < (n : Int) - 1) = true := by simp; omega
              have hl9 : k + 1 ≠ n := hlast
              obtain rfl : r = false := hr.1.symm.trans (trl_hit hn.out hlt (by rw [trR, HPP.out]; simp [hob, hkey, hl9]))
              clear hob hkey hnum hlast hl9
              have HB_wr_1 : Hid (Below wr.heap.size wr wr) := Lib.hid (Below.refl _ _)
              have kOo := Lib.hid (show ∀ u : World, Hid (Below wr.heap.size wr u) → Hid (OrdOk u o) from fun u h => Lib.hid (HOK.out.below h.out))
              have kBK := Lib.hid (show ∀ u : World, Hid (Below wr.heap.size wr u) → Hid (Blk .u8 42 u B h) from fun u h9 => Lib.hid (HBK.out.below h9.out))
              obtain ⟨zc0, zc1⟩ := kC.out _ HBr0
              have hq := below_box0 wr (orO o)
              have HB_2 := Lib.hid (below_ext HBr0.out hq)
              have HB_wr_2 := Lib.hid (below_ext HB_wr_1.out hq)
              have hc : (wr.alloc (orO o)).cell? ⟨wr.heap.size, 0, none⟩ = some (.int .i64 o.num) ∧ (wr.alloc (orO o)).cell? ⟨wr.heap.size, 1, none⟩ = some (.string o.rs) ∧ (wr.alloc (orO o)).cell? ⟨wr.heap.size, 2, none⟩ = some (.int .i64 o.E1) ∧ (wr.alloc (orO o)).cell? ⟨wr.heap.size, 3, none⟩ = some (.int .i64 o.E2) ∧ (wr.alloc (orO o)).cell? ⟨wr.heap.size, 4, none⟩ = some (.slice o.A o.na o.ca) ∧ (wr.alloc (orO o)).cell? ⟨wr.heap.size, 5, none⟩ = some (.int .i64 o.C) ∧ (wr.alloc (orO o)).cell? ⟨wr.heap.size, 6, none⟩ = some (.slice o.Z o.nz o.cz) ∧ (wr.alloc (orO o)).cell? ⟨wr.heap.size, 7, none⟩ = some (.slice o.L o.np o.cp) ∧ (wr.alloc (orO o)).cell? ⟨wr.heap.size, 8, none⟩ = some (.int .i64 o.key) := ⟨allocs_cell rfl (by rfl), allocs_cell rfl (by rfl), allocs_cell rfl (by rfl), allocs_cell rfl (by rfl), allocs_cell rfl (by rfl), allocs_cell rfl (by rfl), allocs_cell rfl (by rfl), allocs_cell rfl (by rfl), allocs_cell rfl (by rfl)⟩
              have HC2 := Lib.hid hc
              clear hq
              obtain ⟨zc0x, zc1x⟩ := kC.out _ HB_2
              obtain ⟨zq0, zq1, zq2, zq3, zq4, zq5, zq6, zq7, zq8⟩ := hc
              go_wp2_with fail
              obtain ⟨w2, hw⟩ : ∃ x, (wr.alloc (orO o)) = x := ⟨_, rfl⟩
              rw [hw] at HC2 HB_2 HB_wr_2 ⊢
              have HSN2 : Hid (w2.heap.size = wr.heap.size + 1) := Lib.hid (by rw [← hw]; simp)
              clear zc0 zc1 zc0x zc1x zq0 zq1 zq2 zq3 zq4 zq5 zq6 zq7 zq8
              clear hw
              have HB_w2_2 : Hid (Below w2.heap.size w2 w2) := Lib.hid (Below.refl _ _)
              have kS := Lib.hid (show ∀ u : World, Hid (Below w2.heap.size w2 u) → u.cell? ⟨wr.heap.size, 0, none⟩ = some (.int .i64 o.num) ∧ u.cell? ⟨wr.heap.size, 1, none⟩ = some (.string o.rs) ∧ u.cell? ⟨wr.heap.size, 2, none⟩ = some (.int .i64 o.E1) ∧ u.cell? ⟨wr.heap.size, 3, none⟩ = some (.int .i64 o.E2) ∧ u.cell? ⟨wr.heap.size, 4, none⟩ = some (.slice o.A o.na o.ca) ∧ u.cell? ⟨wr.heap.size, 5, none⟩ = some (.int .i64 o.C) ∧ u.cell? ⟨wr.heap.size, 6, none⟩ = some (.slice o.Z o.nz o.cz) ∧ u.cell? ⟨wr.heap.size, 7, none⟩ = some (.slice o.L o.np o.cp) ∧ u.cell? ⟨wr.heap.size, 8, none⟩ = some (.int .i64 o.key) from fun u h => ⟨cell_below HC2.out.1 h.out, cell_below HC2.out.2.1 h.out, cell_below HC2.out.2.2.1 h.out, cell_below HC2.out.2.2.2.1 h.out, cell_below HC2.out.2.2.2.2.1 h.out, cell_below HC2.out.2.2.2.2.2.1 h.out, cell_below HC2.out.2.2.2.2.2.2.1 h.out, cell_below HC2.out.2.2.2.2.2.2.2.1 h.out, cell_below HC2.out.2.2.2.2.2.2.2.2 h.out⟩)
              obtain ⟨zc0, zc1⟩ := kC.out _ HB_2
              obtain ⟨kS_0, kS_1, kS_2, kS_3, kS_4, kS_5, kS_6, kS_7, kS_8⟩ := kS.out _ HB_w2_2
              clear j0 j1 j2 j3 j4 j5 j6 j7 j8
              clear zc0 zc1 kS_0 kS_1 kS_2 kS_3 kS_4 kS_5 kS_6 kS_7 kS_8
              obtain ⟨zc0, zc1⟩ := kC.out _ HB_2
              obtain ⟨kS_0, kS_1, kS_2, kS_3, kS_4, kS_5, kS_6, kS_7, kS_8⟩ := kS.out _ HB_w2_2
              go_wp2_with fail
              refine (rorder_any o true HOB _ (kOo.out _ HB_wr_2)).mono ?_
              rintro e w3 ⟨rfl, hb0⟩
              have HB_3 := Lib.hid (below_ext HB_2.out hb0)
              have HB_wr_3 := Lib.hid (below_ext HB_wr_2.out hb0)
              have HB_w2_3 := Lib.hid (below_ext HB_w2_2.out hb0)
              clear zc0 zc1 kS_0 kS_1 kS_2 kS_3 kS_4 kS_5 kS_6 kS_7 kS_8
              clear hb0
              obtain ⟨zc0, zc1⟩ := kC.out _ HB_3
              obtain ⟨kS_0, kS_1, kS_2, kS_3, kS_4, kS_5, kS_6, kS_7, kS_8⟩ := kS.out _ HB_w2_3
              have hbF := below_ext HBw.out HB_3.out
              go_wp2
              go_ret
              exact ⟨rfl, hbF⟩
          · skip
            by_cases hkm : m ≤ k
            · skip
              have HOB := Lib.hid hob
              have dn1 : (o.num != (k : Int)) = false := by simpa using hnum
              have dk1 : (o.key == 0) = false := by simpa using hkey
              obtain ⟨RR, hRR⟩ : ∃ x, lnk h o = x := ⟨_, rfl⟩
              have HRR : Kp (lnk h o = RR) := ⟨hRR⟩
              have HRL : Hid (RR.length = 32) := Lib.hid (by rw [← hRR]; exact lnk_len _ _)
              clear hRR
              have HH2 : Kp (hbL os (k + 1) = RR) := ⟨by rw [hbL, HPP.out, if_neg hkey, HHB.1]; exact HRR.1⟩
              have dm1 : decide ((m : Int) ≤ (k : Int)) = true := by simp; omega
              obtain rfl : r = false := hr.1.symm.trans (trl_hit hn.out hlt (by rw [trR, HPP.out]; simp [hob, hkey, hnum, hm.out]; omega))
              clear hob hkey hnum
              have HB_wr_1 : Hid (Below wr.heap.size wr wr) := Lib.hid (Below.refl _ _)
              have kOo := Lib.hid (show ∀ u : World, Hid (Below wr.heap.size wr u) → Hid (OrdOk u o) from fun u h => Lib.hid (HOK.out.below h.out))
              have kBK := Lib.hid (show ∀ u : World, Hid (Below wr.heap.size wr u) → Hid (Blk .u8 42 u B h) from fun u h9 => Lib.hid (HBK.out.below h9.out))
              obtain ⟨zc0, zc1⟩ := kC.out _ HBr0
              have hq := below_box0 wr (orO o)
              have HB_2 := Lib.hid (below_ext HBr0.out hq)
              have HB_wr_2 := Lib.hid (below_ext HB_wr_1.out hq)
              have hc : (wr.alloc (orO o)).cell? ⟨wr.heap.size, 0, none⟩ = some (.int .i64 o.num) ∧ (wr.alloc (orO o)).cell? ⟨wr.heap.size, 1, none⟩ = some (.string o.rs) ∧ (wr.alloc (orO o)).cell? ⟨wr.heap.size, 2, none⟩ = some (.int .i64 o.E1) ∧ (wr.alloc (orO o)).cell? ⟨wr.heap.size, 3, none⟩ = some (.int .i64 o.E2) ∧ (wr.alloc (orO o)).cell? ⟨wr.heap.size, 4, none⟩ = some (.slice o.A o.na o.ca) ∧ (wr.alloc (orO o)).cell? ⟨wr.heap.size, 5, none⟩ = some (.int .i64 o.C) ∧ (wr.alloc (orO o)).cell? ⟨wr.heap.size, 6, none⟩ = some (.slice o.Z o.nz o.cz) ∧ (wr.alloc (orO o)).cell? ⟨wr.heap.size, 7, none⟩ = some (.slice o.L o.np o.cp) ∧ (wr.alloc (orO o)).cell? ⟨wr.heap.size, 8, none⟩ = some (.int .i64 o.key) := ⟨allocs_cell rfl (by rfl), allocs_cell rfl (by rfl), allocs_cell rfl (by rfl), allocs_cell rfl (by rfl), allocs_cell rfl (by rfl), allocs_cell rfl (by rfl), allocs_cell rfl (by rfl), allocs_cell rfl (by rfl), allocs_cell rfl (by rfl)⟩
              have HC2 := Lib.hid hc
              clear hq
              obtain ⟨zc0x, zc1x⟩ := kC.out _ HB_2
              obtain ⟨zq0, zq1, zq2, zq3, zq4, zq5, zq6, zq7, zq8⟩ := hc
              go_wp2_with fail
              obtain ⟨w2, hw⟩ : ∃ x, (wr.alloc (orO o)) = x := ⟨_, rfl⟩
              rw [hw] at HC2 HB_2 HB_wr_2 ⊢
              have HSN2 : Hid (w2.heap.size = wr.heap.size + 1) := Lib.hid (by rw [← hw]; simp)
              clear zc0 zc1 zc0x zc1x zq0 zq1 zq2 zq3 zq4 zq5 zq6 zq7 zq8
              clear hw
              have HB_w2_2 : Hid (Below w2.heap.size w2 w2) := Lib.hid (Below.refl _ _)
              have kS := Lib.hid (show ∀ u : World, Hid (Below w2.heap.size w2 u) → u.cell? ⟨wr.heap.size, 0, none⟩ = some (.int .i64 o.num) ∧ u.cell? ⟨wr.heap.size, 1, none⟩ = some (.string o.rs) ∧ u.cell? ⟨wr.heap.size, 2, none⟩ = some (.int .i64 o.E1) ∧ u.cell? ⟨wr.heap.size, 3, none⟩ = some (.int .i64 o.E2) ∧ u.cell? ⟨wr.heap.size, 4, none⟩ = some (.slice o.A o.na o.ca) ∧ u.cell? ⟨wr.heap.size, 5, none⟩ = some (.int .i64 o.C) ∧ u.cell? ⟨wr.heap.size, 6, none⟩ = some (.slice o.Z o.nz o.cz) ∧ u.cell? ⟨wr.heap.size, 7, none⟩ = some (.slice o.L o.np o.cp) ∧ u.cell? ⟨wr.heap.size, 8, none⟩ = some (.int .i64 o.key) from fun u h => ⟨cell_below HC2.out.1 h.out, cell_below HC2.out.2.1 h.out, cell_below HC2.out.2.2.1 h.out, cell_below HC2.out.2.2.2.1 h.out, cell_below HC2.out.2.2.2.2.1 h.out, cell_below HC2.out.2.2.2.2.2.1 h.out, cell_below HC2.out.2.2.2.2.2.2.1 h.out, cell_below HC2.out.2.2.2.2.2.2.2.1 h.out, cell_below HC2.out.2.2.2.2.2.2.2.2 h.out⟩)
              obtain ⟨zc0, zc1⟩ := kC.out _ HB_2
              obtain ⟨kS_0, kS_1, kS_2, kS_3, kS_4, kS_5, kS_6, kS_7, kS_8⟩ := kS.out _ HB_w2_2
              clear j0 j1 j2 j3 j4 j5 j6 j7 j8
              clear zc0 zc1 kS_0 kS_1 kS_2 kS_3 kS_4 kS_5 kS_6 kS_7 kS_8
              obtain ⟨zc0, zc1⟩ := kC.out _ HB_2
              obtain ⟨kS_0, kS_1, kS_2, kS_3, kS_4, kS_5, kS_6, kS_7, kS_8⟩ := kS.out _ HB_w2_2
              go_wp2_with fail
              refine (rorder_any o true HOB _ (kOo.out _ HB_wr_2)).mono ?_
              rintro e w3 ⟨rfl, hb0⟩
              have HB_3 := Lib.hid (below_ext HB_2.out hb0)
              have HB_wr_3 := Lib.hid (below_ext HB_wr_2.out hb0)
              have HB_w2_3 := Lib.hid (below_ext HB_w2_2.out hb0)
              clear zc0 zc1 kS_0 kS_1 kS_2 kS_3 kS_4 kS_5 kS_6 kS_7 kS_8
              clear hb0
              obtain ⟨zc0, zc1⟩ := kC.out _ HB_3
              obtain ⟨kS_0, kS_1, kS_2, kS_3, kS_4, kS_5, kS_6, kS_7, kS_8⟩ := kS.out _ HB_w2_3
              have HBk := (kBK.out _ HB_wr_3)
              go_wp2_with ((with_reducible show wpList _ _ _ (⟨some 46, _, _, _, _, _⟩ :: _) _ _); refine wpList_load_row rfl 42 _ rfl B rfl _ _ _ _ HBk.out Tryd.underlying42 rfl (hash_info HL.out) ?_)
              refine (rlink_any h HL HBY o HOI (ordS_of HOB.out HOK.out) _ (kD.out _ HB_3) (kOo.out _ HB_wr_3)).mono ?_
              rintro e w4 ⟨rfl, hb0⟩
              rw [HRR.1]
              have HB_4 := Lib.hid (below_ext HB_3.out hb0)
              have HB_wr_4 := Lib.hid (below_ext HB_wr_3.out hb0)
              have HB_w2_4 := Lib.hid (below_ext HB_w2_3.out hb0)
              clear zc0 zc1 kS_0 kS_1 kS_2 kS_3 kS_4 kS_5 kS_6 kS_7 kS_8
              clear hb0
              obtain ⟨zc0, zc1⟩ := kC.out _ HB_4
              obtain ⟨kS_0, kS_1, kS_2, kS_3, kS_4, kS_5, kS_6, kS_7, kS_8⟩ := kS.out _ HB_w2_4
              have HBk2 := (kBK.out _ HB_wr_4)
              obtain ⟨wz, hwz⟩ : ∃ x, w4.setRow B (arr .u8 RR) = x := ⟨_, rfl⟩
              have HBzB : Hid (Below B W wz) := Lib.hid (by rw [← hwz]; exact below_setRow' (HBr.out.trans (HB_wr_4.out.mono (by have := HBr.out.size; have := HSB.out.1; omega))) (Nat.le_refl _))
              have HBz0 : Hid (Below w0.heap.size w0 wz) := Lib.hid (HBX.out.trans (HBzB.out.mono HSB.out.2))
              have HBKz : Hid (Blk .u8 42 wz B RR) := Lib.hid (by rw [← hwz]; exact HBk2.out.setRow)
              go_upto_region 14 with ((with_reducible show wpList _ _ _ (⟨none, _, _, _, _, _⟩ :: _) _ _); refine wpList_store_row rfl 42 _ _ rfl B (arr .u8 RR) rfl rfl _ _ HBk2.out (hash_info HRL.out) (arrs_sz HL.out HRL.out) (arr_one _) ?_)
              clear zc0 zc1 kS_0 kS_1 kS_2 kS_3 kS_4 kS_5 kS_6 kS_7 kS_8
              rw [hwz]
              clear hwz
              have hSz := Lib.hid (show ∀ u : World, Below wz.heap.size wz u → (u.cell? ⟨w.heap.size, 0, none⟩ = some (.slice (some ⟨b, f, none⟩) n c) ∧ u.cell? ⟨w.heap.size, 1, none⟩ = some (.slice K m d) ∧ Hid (Below wz.heap.size wz u)) from fun u h9 => by
                obtain ⟨y0, y1⟩ := kC.out _ HBz0
                exact ⟨cell_below y0 h9, cell_below y1 h9, Lib.hid h9⟩)
              refine wp_region_T (S := fun w' => w'.cell? ⟨w.heap.size, 0, none⟩ = some (.slice (some ⟨b, f, none⟩) n c) ∧ w'.cell? ⟨w.heap.size, 1, none⟩ = some (.slice K m d) ∧ Hid (Below wz.heap.size wz w')) (E := []) (by kernel_rfl) (hSz.out _ ((Below.refl _ _).drew)) (fun hHeld => ?_)
              refine tkV 0 ?_
              try simp only [qq1, qq2, qq3, Act.put, qq4, qq5, qq6]
              refine tkV 1 ?_
              try simp only [qq1, qq2, qq3, Act.put, qq4, qq5, qq6]
              refine tkV 2 ?_
              try simp only [qq1, qq2, qq3, Act.put, qq4, qq5, qq6]
              refine tkV 3 ?_
              try simp only [qq1, qq2, qq3, Act.put, qq4, qq5, qq6]
              refine tkV 4 ?_
              try simp only [qq1, qq2, qq3, Act.put, qq4, qq5, qq6]
              refine tkV 5 ?_
              try simp only [qq1, qq2, qq3, Act.put, qq4, qq5, qq6]
              refine tkU 6 ?_
              try simp only [qq1, qq2, qq3, Act.put, qq4, qq5, qq6]
              refine tkU 7 ?_
              try simp only [qq1, qq2, qq3, Act.put, qq4, qq5, qq6]
              refine tkU 8 ?_
              try simp only [qq1, qq2, qq3, Act.put, qq4, qq5, qq6]
              refine tkU 9 ?_
              try simp only [qq1, qq2, qq3, Act.put, qq4, qq5, qq6]
              refine tkU 10 ?_
              try simp only [qq1, qq2, qq3, Act.put, qq4, qq5, qq6]
              refine tkU 11 ?_
              try simp only [qq1, qq2, qq3, Act.put, qq4, qq5, qq6]
              refine tkU 12 ?_
              try simp only [qq1, qq2, qq3, Act.put, qq4, qq5, qq6]
              refine tkV 13 ?_
              try simp only [qq1, qq2, qq3, Act.put, qq4, qq5, qq6]
              refine wpT_done (by kernel_rfl) ?_ _
              have HBd := hHeld.2.2
              have HB9 : Hid (Below B W wz.drew) := Lib.hid (HBzB.out.trans (HBd.out.mono (by have := HBzB.out.size; have := HSB.out.1; omega)))
              have hbF := below_ext HBw.out (HBX.out.trans (HB9.out.mono HSB.out.2))
              clear hHeld HBd
              go_wp2
              go_ret
              exact ⟨rfl, hbF⟩
            · skip
              cases hrq : (hsL hs k == lnk h o) with
              | true =>
                have HOB := Lib.hid hob
                have dn1 : (o.num != (k : Int)) = false := by simpa using hnum
                have dk1 : (o.key == 0) = false := by simpa using hkey
                obtain ⟨RR, hRR⟩ : ∃ x, lnk h o = x := ⟨_, rfl⟩
                have HRR : Kp (lnk h o = RR) := ⟨hRR⟩
                have HRL : Hid (RR.length = 32) := Lib.hid (by rw [← hRR]; exact lnk_len _ _)
                clear hRR
                have HH2 : Kp (hbL os (k + 1) = RR) := ⟨by rw [hbL, HPP.out, if_neg hkey, HHB.1]; exact HRR.1⟩
                have dm1 : decide ((m : Int) ≤ (k : Int)) = false := by simp; omega
                have hkm2 : k < m := by omega
                obtain ⟨b2, f2, hA2, hl2, hrg2⟩ := (kHs.out _ HBr0).out k (by rw [hm.out]; omega)
                subst hA2
                obtain ⟨hk9, hhk⟩ : ∃ x, hsL hs k = x := ⟨_, rfl⟩
                rw [hhk] at hl2 hrg2
                have HL2 := Lib.hid hl2
                have HRG := Lib.hid hrg2
                have HHK := Lib.hid hhk
                have hhk9 := hhk
                clear hl2 hrg2 hhk
                rw [hhk9, HRR.1] at hrq
                have hbq : (!(hk9 == RR)) = false := by rw [hrq]; rfl
                have HS2 : Hid (trS os hs n (k + 1) = true) := Lib.hid (by rw [trS, HST.out, trR, HPP.out, HH2.1, HHK.out]; simp [hob, hm.out, hrq, hkey, hnum]; omega)
                have HCN : Hid (clN os (k + 1) = k + 1) := Lib.hid (by simp [clN, HPP.out, hkey, HCL.out])
                clear hob hkey hnum hrq hhk9
                have HB_wr_1 : Hid (Below wr.heap.size wr wr) := Lib.hid (Below.refl _ _)
                have kOo := Lib.hid (show ∀ u : World, Hid (Below wr.heap.size wr u) → Hid (OrdOk u o) from fun u h => Lib.hid (HOK.out.below h.out))
                have kBK := Lib.hid (show ∀ u : World, Hid (Below wr.heap.size wr u) → Hid (Blk .u8 42 u B h) from fun u h9 => Lib.hid (HBK.out.below h9.out))
                obtain ⟨zc0, zc1⟩ := kC.out _ HBr0
                have hq := below_box0 wr (orO o)
                have HB_2 := Lib.hid (below_ext HBr0.out hq)
                have HB_wr_2 := Lib.hid (below_ext HB_wr_1.out hq)
                have hc : (wr.alloc (orO o)).cell? ⟨wr.heap.size, 0, none⟩ = some (.int .i64 o.num) ∧ (wr.alloc (orO o)).cell? ⟨wr.heap.size, 1, none⟩ = some (.string o.rs) ∧ (wr.alloc (orO o)).cell? ⟨wr.heap.size, 2, none⟩ = some (.int .i64 o.E1) ∧ (wr.alloc (orO o)).cell? ⟨wr.heap.size, 3, none⟩ = some (.int .i64 o.E2) ∧ (wr.alloc (orO o)).cell? ⟨wr.heap.size, 4, none⟩ = some (.slice o.A o.na o.ca) ∧ (wr.alloc (orO o)).cell? ⟨wr.heap.size, 5, none⟩ = some (.int .i64 o.C) ∧ (wr.alloc (orO o)).cell? ⟨wr.heap.size, 6, none⟩ = some (.slice o.Z o.nz o.cz) ∧ (wr.alloc (orO o)).cell? ⟨wr.heap.size, 7, none⟩ = some (.slice o.L o.np o.cp) ∧ (wr.alloc (orO o)).cell? ⟨wr.heap.size, 8, none⟩ = some (.int .i64 o.key) := ⟨allocs_cell rfl (by rfl), allocs_cell rfl (by rfl), allocs_cell rfl (by rfl), allocs_cell rfl (by rfl), allocs_cell rfl (by rfl), allocs_cell rfl (by rfl), allocs_cell rfl (by rfl), allocs_cell rfl (by rfl), allocs_cell rfl (by rfl)⟩
                have HC2 := Lib.hid hc
                clear hq
                obtain ⟨zc0x, zc1x⟩ := kC.out _ HB_2
                obtain ⟨zq0, zq1, zq2, zq3, zq4, zq5, zq6, zq7, zq8⟩ := hc
                go_wp2_with fail
                obtain ⟨w2, hw⟩ : ∃ x, (wr.alloc (orO o)) = x := ⟨_, rfl⟩
                rw [hw] at HC2 HB_2 HB_wr_2 ⊢
                have HSN2 : Hid (w2.heap.size = wr.heap.size + 1) := Lib.hid (by rw [← hw]; simp)
                clear zc0 zc1 zc0x zc1x zq0 zq1 zq2 zq3 zq4 zq5 zq6 zq7 zq8
                clear hw
                have HB_w2_2 : Hid (Below w2.heap.size w2 w2) := Lib.hid (Below.refl _ _)
                have kS := Lib.hid (show ∀ u : World, Hid (Below w2.heap.size w2 u) → u.cell? ⟨wr.heap.size, 0, none⟩ = some (.int .i64 o.num) ∧ u.cell? ⟨wr.heap.size, 1, none⟩ = some (.string o.rs) ∧ u.cell? ⟨wr.heap.size, 2, none⟩ = some (.int .i64 o.E1) ∧ u.cell? ⟨wr.heap.size, 3, none⟩ = some (.int .i64 o.E2) ∧ u.cell? ⟨wr.heap.size, 4, none⟩ = some (.slice o.A o.na o.ca) ∧ u.cell? ⟨wr.heap.size, 5, none⟩ = some (.int .i64 o.C) ∧ u.cell? ⟨wr.heap.size, 6, none⟩ = some (.slice o.Z o.nz o.cz) ∧ u.cell? ⟨wr.heap.size, 7, none⟩ = some (.slice o.L o.np o.cp) ∧ u.cell? ⟨wr.heap.size, 8, none⟩ = some (.int .i64 o.key) from fun u h => ⟨cell_below HC2.out.1 h.out, cell_below HC2.out.2.1 h.out, cell_below HC2.out.2.2.1 h.out, cell_below HC2.out.2.2.2.1 h.out, cell_below HC2.out.2.2.2.2.1 h.out, cell_below HC2.out.2.2.2.2.2.1 h.out, cell_below HC2.out.2.2.2.2.2.2.1 h.out, cell_below HC2.out.2.2.2.2.2.2.2.1 h.out, cell_below HC2.out.2.2.2.2.2.2.2.2 h.out⟩)
                obtain ⟨zc0, zc1⟩ := kC.out _ HB_2
                obtain ⟨kS_0, kS_1, kS_2, kS_3, kS_4, kS_5, kS_6, kS_7, kS_8⟩ := kS.out _ HB_w2_2
                clear j0 j1 j2 j3 j4 j5 j6 j7 j8
                clear zc0 zc1 kS_0 kS_1 kS_2 kS_3 kS_4 kS_5 kS_6 kS_7 kS_8
                obtain ⟨zc0, zc1⟩ := kC.out _ HB_2
                obtain ⟨kS_0, kS_1, kS_2, kS_3, kS_4, kS_5, kS_6, kS_7, kS_8⟩ := kS.out _ HB_w2_2
                go_wp2_with fail
                refine (rorder_any o true HOB _ (kOo.out _ HB_wr_2)).mono ?_
                rintro e w3 ⟨rfl, hb0⟩
                have HB_3 := Lib.hid (below_ext HB_2.out hb0)
                have HB_wr_3 := Lib.hid (below_ext HB_wr_2.out hb0)
                have HB_w2_3 := Lib.hid (below_ext HB_w2_2.out hb0)
                clear zc0 zc1 kS_0 kS_1 kS_2 kS_3 kS_4 kS_5 kS_6 kS_7 kS_8
                clear hb0
                obtain ⟨zc0, zc1⟩ := kC.out _ HB_3
                obtain ⟨kS_0, kS_1, kS_2, kS_3, kS_4, kS_5, kS_6, kS_7, kS_8⟩ := kS.out _ HB_w2_3
                have HBk := (kBK.out _ HB_wr_3)
                go_wp2_with ((with_reducible show wpList _ _ _ (⟨some 46, _, _, _, _, _⟩ :: _) _ _); refine wpList_load_row rfl 42 _ rfl B rfl _ _ _ _ HBk.out Tryd.underlying42 rfl (hash_info HL.out) ?_)
                refine (rlink_any h HL HBY o HOI (ordS_of HOB.out HOK.out) _ (kD.out _ HB_3) (kOo.out _ HB_wr_3)).mono ?_
                rintro e w4 ⟨rfl, hb0⟩
                rw [HRR.1]
                have HB_4 := Lib.hid (below_ext HB_3.out hb0)
                have HB_wr_4 := Lib.hid (below_ext HB_wr_3.out hb0)
                have HB_w2_4 := Lib.hid (below_ext HB_w2_3.out hb0)
                clear zc0 zc1 kS_0 kS_1 kS_2 kS_3 kS_4 kS_5 kS_6 kS_7 kS_8
                clear hb0
                obtain ⟨zc0, zc1⟩ := kC.out _ HB_4
                obtain ⟨kS_0, kS_1, kS_2, kS_3, kS_4, kS_5, kS_6, kS_7, kS_8⟩ := kS.out _ HB_w2_4
                have HBk2 := (kBK.out _ HB_wr_4)
                obtain ⟨wz, hwz⟩ : ∃ x, w4.setRow B (arr .u8 RR) = x := ⟨_, rfl⟩
                have HBzB : Hid (Below B W wz) := Lib.hid (by rw [← hwz]; exact below_setRow' (HBr.out.trans (HB_wr_4.out.mono (by have := HBr.out.size; have := HSB.out.1; omega))) (Nat.le_refl _))
                have HBz0 : Hid (Below w0.heap.size w0 wz) := Lib.hid (HBX.out.trans (HBzB.out.mono HSB.out.2))
                have HBKz : Hid (Blk .u8 42 wz B RR) := Lib.hid (by rw [← hwz]; exact HBk2.out.setRow)
                go_upto_region 14 with ((with_reducible show wpList _ _ _ (⟨none, _, _, _, _, _⟩ :: _) _ _); refine wpList_store_row rfl 42 _ _ rfl B (arr .u8 RR) rfl rfl _ _ HBk2.out (hash_info HRL.out) (arrs_sz HL.out HRL.out) (arr_one _) ?_)
                clear zc0 zc1 kS_0 kS_1 kS_2 kS_3 kS_4 kS_5 kS_6 kS_7 kS_8
                rw [hwz]
                clear hwz
                have hSz := Lib.hid (show ∀ u : World, Below wz.heap.size wz u → (u.cell? ⟨w.heap.size, 0, none⟩ = some (.slice (some ⟨b, f, none⟩) n c) ∧ u.cell? ⟨w.heap.size, 1, none⟩ = some (.slice (some ⟨b2, f2, none⟩) m d) ∧ Hid (Below wz.heap.size wz u)) from fun u h9 => by
                  obtain ⟨y0, y1⟩ := kC.out _ HBz0
                  exact ⟨cell_below y0 h9, cell_below y1 h9, Lib.hid h9⟩)
                have HHz : Hid (wz.rangeAt b2 (f2 + k * 32) (hk9.map (Value.int .u8))) := Lib.hid (by
                  obtain ⟨b3, f3, e3, _, hr3⟩ := ((kHs.out _ HBz0)).out k (by rw [hm.out]; omega)
                  cases e3
                  rwa [HHK.out] at hr3)
                refine wp_region_T (S := fun w' => w'.cell? ⟨w.heap.size, 0, none⟩ = some (.slice (some ⟨b, f, none⟩) n c) ∧ w'.cell? ⟨w.heap.size, 1, none⟩ = some (.slice (some ⟨b2, f2, none⟩) m d) ∧ Hid (Below wz.heap.size wz w')) (E := []) (by kernel_rfl) (hSz.out _ ((Below.refl _ _).drew)) (fun hHeld => ?_)
                refine tkV 0 ?_
                try simp only [qq1, qq2, qq3, Act.put, qq4, qq5, qq6]
                refine tkV 1 ?_
                try simp only [qq1, qq2, qq3, Act.put, qq4, qq5, qq6]
                refine tkV 2 ?_
                try simp only [qq1, qq2, qq3, Act.put, qq4, qq5, qq6]
                refine tkV 3 ?_
                try simp only [qq1, qq2, qq3, Act.put, qq4, qq5, qq6]
                refine tkV 4 ?_
                try simp only [qq1, qq2, qq3, Act.put, qq4, qq5, qq6]
                refine tkV 5 ?_
                try simp only [qq1, qq2, qq3, Act.put, qq4, qq5, qq6]
                refine tkV 6 ?_
                try simp only [qq1, qq2, qq3, Act.put, qq4, qq5, qq6]
                refine tkV 7 ?_
                try simp only [qq1, qq2, qq3, Act.put, qq4, qq5, qq6]
                refine tkV 8 ?_
                try simp only [qq1, qq2, qq3, Act.put, qq4, qq5, qq6]
                refine tkV 9 ?_
                try simp only [qq1, qq2, qq3, Act.put, qq4, qq5, qq6]
                refine wpT_take (i := 10) (oi := _) (v := (.agg (arr .u8 hk9))) rfl (by kernel_rfl) (by kernel_rfl) (by kernel_rfl) (by kernel_rfl) (fun _ _ _ h => h) (Or.inl ⟨by rfl, yields_mid 42 _ rfl b2 (f2 + k * 32) rfl (hk9.map (Value.int .u8)) _ (fun _ hq => rangeAt_below HHz.out hq.2.2.out) Tryd.underlying42 rfl (map_size HL2.out)⟩) (by assumption) ?_
                try simp only [qq1, qq2, qq3, Act.put, qq4, qq5, qq6]
                refine wpT_take (i := 11) (oi := _) (v := (.agg (arr .u8 RR))) rfl (by kernel_rfl) (by kernel_rfl) (by kernel_rfl) (by kernel_rfl) (fun _ _ _ h => h) (Or.inl ⟨by rfl, yields_row 42 _ rfl B rfl _ _ _ _ (fun _ hq => HBKz.out.below hq.2.2.out) Tryd.underlying42 rfl (hash_info HRL.out)⟩) (by assumption) ?_
                try simp only [qq1, qq2, qq3, Act.put, qq4, qq5, qq6]
                refine wpT_take (i := 12) (oi := _) (v := (.bool false)) rfl (by kernel_rfl) (by kernel_rfl) (by kernel_rfl) (by kernel_rfl) (fun _ _ _ h => h) (Or.inl ⟨by rfl, yields_neq_hash _ _ _ rfl hk9 RR HL2.out HRL.out rfl rfl _ hbq⟩) (by assumption) ?_
                try simp only [qq1, qq2, qq3, Act.put, qq4, qq5, qq6]
                refine tkV 13 ?_
                try simp only [qq1, qq2, qq3, Act.put, qq4, qq5, qq6]
                refine wpT_done (by kernel_rfl) ?_ _
                have HBd := hHeld.2.2
                have HB9 : Hid (Below B W wz.drew) := Lib.hid (HBzB.out.trans (HBd.out.mono (by have := HBzB.out.size; have := HSB.out.1; omega)))
                have HK9 : Hid (Blk .u8 42 wz.drew B RR) := Lib.hid (HBKz.out.below HBd.out)
                clear hHeld HBd
                go_wp2
                go_roundw
                case rel => exact ⟨k + 1, RR, by omega, by go_num, by rw [HCN.out]; go_num, HS2, HH2, HK9, HB9⟩
                case measure => simp [intOf]; omega
              | false =>
                have HOB := Lib.hid hob
                have dn1 : (o.num != (k : Int)) = false := by simpa using hnum
                have dk1 : (o.key == 0) = false := by simpa using hkey
                obtain ⟨RR, hRR⟩ : ∃ x, lnk h o = x := ⟨_, rfl⟩
                have HRR : Kp (lnk h o = RR) := ⟨hRR⟩
                have HRL : Hid (RR.length = 32) := Lib.hid (by rw [← hRR]; exact lnk_len _ _)
                clear hRR
                have HH2 : Kp (hbL os (k + 1) = RR) := ⟨by rw [hbL, HPP.out, if_neg hkey, HHB.1]; exact HRR.1⟩
                have dm1 : decide ((m : Int) ≤ (k : Int)) = false := by simp; omega
                have hkm2 : k < m := by omega
                obtain ⟨b2, f2, hA2, hl2, hrg2⟩ := (kHs.out _ HBr0).out k (by rw [hm.out]; omega)
                subst hA2
                obtain ⟨hk9, hhk⟩ : ∃ x, hsL hs k = x := ⟨_, rfl⟩
                rw [hhk] at hl2 hrg2
                have HL2 := Lib.hid hl2
                have HRG := Lib.hid hrg2
                have HHK := Lib.hid hhk
                have hhk9 := hhk
                clear hl2 hrg2 hhk
                rw [hhk9, HRR.1] at hrq
                have hbq : (!(hk9 == RR)) = true := by rw [hrq]; rfl
                obtain rfl : r = false := hr.1.symm.trans (trl_hit hn.out hlt (by rw [trR, HPP.out]; simp [hob, hkey, hnum, hm.out, HHK.out, HH2.1, hrq]))
                clear hob hkey hnum hrq hhk9
                have HB_wr_1 : Hid (Below wr.heap.size wr wr) := Lib.hid (Below.refl _ _)
                have kOo := Lib.hid (show ∀ u : World, Hid (Below wr.heap.size wr u) → Hid (OrdOk u o) from fun u h => Lib.hid (HOK.out.below h.out))
                have kBK := Lib.hid (show ∀ u : World, Hid (Below wr.heap.size wr u) → Hid (Blk .u8 42 u B h) from fun u h9 => Lib.hid (HBK.out.below h9.out))
                obtain ⟨zc0, zc1⟩ := kC.out _ HBr0
                have hq := below_box0 wr (orO o)
                have HB_2 := Lib.hid (below_ext HBr0.out hq)
                have HB_wr_2 := Lib.hid (below_ext HB_wr_1.out hq)
                have hc : (wr.alloc (orO o)).cell? ⟨wr.heap.size, 0, none⟩ = some (.int .i64 o.num) ∧ (wr.alloc (orO o)).cell? ⟨wr.heap.size, 1, none⟩ = some (.string o.rs) ∧ (wr.alloc (orO o)).cell? ⟨wr.heap.size, 2, none⟩ = some (.int .i64 o.E1) ∧ (wr.alloc (orO o)).cell? ⟨wr.heap.size, 3, none⟩ = some (.int .i64 o.E2) ∧ (wr.alloc (orO o)).cell? ⟨wr.heap.size, 4, none⟩ = some (.slice o.A o.na o.ca) ∧ (wr.alloc (orO o)).cell? ⟨wr.heap.size, 5, none⟩ = some (.int .i64 o.C) ∧ (wr.alloc (orO o)).cell? ⟨wr.heap.size, 6, none⟩ = some (.slice o.Z o.nz o.cz) ∧ (wr.alloc (orO o)).cell? ⟨wr.heap.size, 7, none⟩ = some (.slice o.L o.np o.cp) ∧ (wr.alloc (orO o)).cell? ⟨wr.heap.size, 8, none⟩ = some (.int .i64 o.key) := ⟨allocs_cell rfl (by rfl), allocs_cell rfl (by rfl), allocs_cell rfl (by rfl), allocs_cell rfl (by rfl), allocs_cell rfl (by rfl), allocs_cell rfl (by rfl), allocs_cell rfl (by rfl), allocs_cell rfl (by rfl), allocs_cell rfl (by rfl)⟩
                have HC2 := Lib.hid hc
                clear hq
                obtain ⟨zc0x, zc1x⟩ := kC.out _ HB_2
                obtain ⟨zq0, zq1, zq2, zq3, zq4, zq5, zq6, zq7, zq8⟩ := hc
                go_wp2_with fail
                obtain ⟨w2, hw⟩ : ∃ x, (wr.alloc (orO o)) = x := ⟨_, rfl⟩
                rw [hw] at HC2 HB_2 HB_wr_2 ⊢
                have HSN2 : Hid (w2.heap.size = wr.heap.size + 1) := Lib.hid (by rw [← hw]; simp)
                clear zc0 zc1 zc0x zc1x zq0 zq1 zq2 zq3 zq4 zq5 zq6 zq7 zq8
                clear hw
                have HB_w2_2 : Hid (Below w2.heap.size w2 w2) := Lib.hid (Below.refl _ _)
                have kS := Lib.hid (show ∀ u : World, Hid (Below w2.heap.size w2 u) → u.cell? ⟨wr.heap.size, 0, none⟩ = some (.int .i64 o.num) ∧ u.cell? ⟨wr.heap.size, 1, none⟩ = some (.string o.rs) ∧ u.cell? ⟨wr.heap.size, 2, none⟩ = some (.int .i64 o.E1) ∧ u.cell? ⟨wr.heap.size, 3, none⟩ = some (.int .i64 o.E2) ∧ u.cell? ⟨wr.heap.size, 4, none⟩ = some (.slice o.A o.na o.ca) ∧ u.cell? ⟨wr.heap.size, 5, none⟩ = some (.int .i64 o.C) ∧ u.cell? ⟨wr.heap.size, 6, none⟩ = some (.slice o.Z o.nz o.cz) ∧ u.cell? ⟨wr.heap.size, 7, none⟩ = some (.slice o.L o.np o.cp) ∧ u.cell? ⟨wr.heap.size, 8, none⟩ = some (.int .i64 o.key) from fun u h => ⟨cell_below HC2.out.1 h.out, cell_below HC2.out.2.1 h.out, cell_below HC2.out.2.2.1 h.out, cell_below HC2.out.2.2.2.1 h.out, cell_below HC2.out.2.2.2.2.1 h.out, cell_below HC2.out.2.2.2.2.2.1 h.out, cell_below HC2.out.2.2.2.2.2.2.1 h.out, cell_below HC2.out.2.2.2.2.2.2.2.1 h.out, cell_below HC2.out.2.2.2.2.2.2.2.2 h.out⟩)
                obtain ⟨zc0, zc1⟩ := kC.out _ HB_2
                obtain ⟨kS_0, kS_1, kS_2, kS_3, kS_4, kS_5, kS_6, kS_7, kS_8⟩ := kS.out _ HB_w2_2
                clear j0 j1 j2 j3 j4 j5 j6 j7 j8
                clear zc0 zc1 kS_0 kS_1 kS_2 kS_3 kS_4 kS_5 kS_6 kS_7 kS_8
                obtain ⟨zc0, zc1⟩ := kC.out _ HB_2
                obtain ⟨kS_0, kS_1, kS_2, kS_3, kS_4, kS_5, kS_6, kS_7, kS_8⟩ := kS.out _ HB_w2_2
                go_wp2_with fail
                refine (rorder_any o true HOB _ (kOo.out _ HB_wr_2)).mono ?_
                rintro e w3 ⟨rfl, hb0⟩
                have HB_3 := Lib.hid (below_ext HB_2.out hb0)
                have HB_wr_3 := Lib.hid (below_ext HB_wr_2.out hb0)
                have HB_w2_3 := Lib.hid (below_ext HB_w2_2.out hb0)
                clear zc0 zc1 kS_0 kS_1 kS_2 kS_3 kS_4 kS_5 kS_6 kS_7 kS_8
                clear hb0
                obtain ⟨zc0, zc1⟩ := kC.out _ HB_3
                obtain ⟨kS_0, kS_1, kS_2, kS_3, kS_4, kS_5, kS_6, kS_7, kS_8⟩ := kS.out _ HB_w2_3
                have HBk := (kBK.out _ HB_wr_3)
                go_wp2_with ((with_reducible show wpList _ _ _ (⟨some 46, _, _, _, _, _⟩ :: _) _ _); refine wpList_load_row rfl 42 _ rfl B rfl _ _ _ _ HBk.out Tryd.underlying42 rfl (hash_info HL.out) ?_)
                refine (rlink_any h HL HBY o HOI (ordS_of HOB.out HOK.out) _ (kD.out _ HB_3) (kOo.out _ HB_wr_3)).mono ?_
                rintro e w4 ⟨rfl, hb0⟩
                rw [HRR.1]
                have HB_4 := Lib.hid (below_ext HB_3.out hb0)
                have HB_wr_4 := Lib.hid (below_ext HB_wr_3.out hb0)
                have HB_w2_4 := Lib.hid (below_ext HB_w2_3.out hb0)
                clear zc0 zc1 kS_0 kS_1 kS_2 kS_3 kS_4 kS_5 kS_6 kS_7 kS_8
                clear hb0
                obtain ⟨zc0, zc1⟩ := kC.out _ HB_4
                obtain ⟨kS_0, kS_1, kS_2, kS_3, kS_4, kS_5, kS_6, kS_7, kS_8⟩ := kS.out _ HB_w2_4
                have HBk2 := (kBK.out _ HB_wr_4)
                obtain ⟨wz, hwz⟩ : ∃ x, w4.setRow B (arr .u8 RR) = x := ⟨_, rfl⟩
                have HBzB : Hid (Below B W wz) := Lib.hid (by rw [← hwz]; exact below_setRow' (HBr.out.trans (HB_wr_4.out.mono (by have := HBr.out.size; have := HSB.out.1; omega))) (Nat.le_refl _))
                have HBz0 : Hid (Below w0.heap.size w0 wz) := Lib.hid (HBX.out.trans (HBzB.out.mono HSB.out.2))
                have HBKz : Hid (Blk .u8 42 wz B RR) := Lib.hid (by rw [← hwz]; exact HBk2.out.setRow)
                go_upto_region 14 with ((with_reducible show wpList _ _ _ (⟨none, _, _, _, _, _⟩ :: _) _ _); refine wpList_store_row rfl 42 _ _ rfl B (arr .u8 RR) rfl rfl _ _ HBk2.out (hash_info HRL.out) (arrs_sz HL.out HRL.out) (arr_one _) ?_)
                clear zc0 zc1 kS_0 kS_1 kS_2 kS_3 kS_4 kS_5 kS_6 kS_7 kS_8
                rw [hwz]
                clear hwz
                have hSz := Lib.hid (show ∀ u : World, Below wz.heap.size wz u → (u.cell? ⟨w.heap.size, 0, none⟩ = some (.slice (some ⟨b, f, none⟩) n c) ∧ u.cell? ⟨w.heap.size, 1, none⟩ = some (.slice (some ⟨b2, f2, none⟩) m d) ∧ Hid (Below wz.heap.size wz u)) from fun u h9 => by
                  obtain ⟨y0, y1⟩ := kC.out _ HBz0
                  exact ⟨cell_below y0 h9, cell_below y1 h9, Lib.hid h9⟩)
                have HHz : Hid (wz.rangeAt b2 (f2 + k * 32) (hk9.map (Value.int .u8))) := Lib.hid (by
                  obtain ⟨b3, f3, e3, _, hr3⟩ := ((kHs.out _ HBz0)).out k (by rw [hm.out]; omega)
                  cases e3
                  rwa [HHK.out] at hr3)
                refine wp_region_T (S := fun w' => w'.cell? ⟨w.heap.size, 0, none⟩ = some (.slice (some ⟨b, f, none⟩) n c) ∧ w'.cell? ⟨w.heap.size, 1, none⟩ = some (.slice (some ⟨b2, f2, none⟩) m d) ∧ Hid (Below wz.heap.size wz w')) (E := []) (by kernel_rfl) (hSz.out _ ((Below.refl _ _).drew)) (fun hHeld => ?_)
                refine tkV 0 ?_
                try simp only [qq1, qq2, qq3, Act.put, qq4, qq5, qq6]
                refine tkV 1 ?_
                try simp only [qq1, qq2, qq3, Act.put, qq4, qq5, qq6]
                refine tkV 2 ?_
                try simp only [qq1, qq2, qq3, Act.put, qq4, qq5, qq6]
                refine tkV 3 ?_
                try simp only [qq1, qq2, qq3, Act.put, qq4, qq5, qq6]
                refine tkV 4 ?_
                try simp only [qq1, qq2, qq3, Act.put, qq4, qq5, qq6]
                refine tkV 5 ?_
                try simp only [qq1, qq2, qq3, Act.put, qq4, qq5, qq6]
                refine tkV 6 ?_
                try simp only [qq1, qq2, qq3, Act.put, qq4, qq5, qq6]
                refine tkV 7 ?_
                try simp only [qq1, qq2, qq3, Act.put, qq4, qq5, qq6]
                refine tkV 8 ?_
                try simp only [qq1, qq2, qq3, Act.put, qq4, qq5, qq6]
                refine tkV 9 ?_
                try simp only [qq1, qq2, qq3, Act.put, qq4, qq5, qq6]
                refine wpT_take (i := 10) (oi := _) (v := (.agg (arr .u8 hk9))) rfl (by kernel_rfl) (by kernel_rfl) (by kernel_rfl) (by kernel_rfl) (fun _ _ _ h => h) (Or.inl ⟨by rfl, yields_mid 42 _ rfl b2 (f2 + k * 32) rfl (hk9.map (Value.int .u8)) _ (fun _ hq => rangeAt_below HHz.out hq.2.2.out) Tryd.underlying42 rfl (map_size HL2.out)⟩) (by assumption) ?_
                try simp only [qq1, qq2, qq3, Act.put, qq4, qq5, qq6]
                refine wpT_take (i := 11) (oi := _) (v := (.agg (arr .u8 RR))) rfl (by kernel_rfl) (by kernel_rfl) (by kernel_rfl) (by kernel_rfl) (fun _ _ _ h => h) (Or.inl ⟨by rfl, yields_row 42 _ rfl B rfl _ _ _ _ (fun _ hq => HBKz.out.below hq.2.2.out) Tryd.underlying42 rfl (hash_info HRL.out)⟩) (by assumption) ?_
                try simp only [qq1, qq2, qq3, Act.put, qq4, qq5, qq6]
                refine wpT_take (i := 12) (oi := _) (v := (.bool true)) rfl (by kernel_rfl) (by kernel_rfl) (by kernel_rfl) (by kernel_rfl) (fun _ _ _ h => h) (Or.inl ⟨by rfl, yields_neq_hash _ _ _ rfl hk9 RR HL2.out HRL.out rfl rfl _ hbq⟩) (by assumption) ?_
                try simp only [qq1, qq2, qq3, Act.put, qq4, qq5, qq6]
                refine tkV 13 ?_
                try simp only [qq1, qq2, qq3, Act.put, qq4, qq5, qq6]
                refine wpT_done (by kernel_rfl) ?_ _
                have HBd := hHeld.2.2
                have HB9 : Hid (Below B W wz.drew) := Lib.hid (HBzB.out.trans (HBd.out.mono (by have := HBzB.out.size; have := HSB.out.1; omega)))
                have hbF := below_ext HBw.out (HBX.out.trans (HB9.out.mono HSB.out.2))
                clear hHeld HBd
                go_wp2
                go_ret
                exact ⟨rfl, hbF⟩
        · skip
          have HOB := Lib.hid hob
          have dn1 : (o.num != (k : Int)) = true := by simpa using hnum
          obtain rfl : r = false := hr.1.symm.trans (trl_hit hn.out hlt (by rw [trR, HPP.out]; simp [hob, hnum]))
          clear hob hnum
          have HB_wr_1 : Hid (Below wr.heap.size wr wr) := Lib.hid (Below.refl _ _)
          have kOo := Lib.hid (show ∀ u : World, Hid (Below wr.heap.size wr u) → Hid (OrdOk u o) from fun u h => Lib.hid (HOK.out.below h.out))
          have kBK := Lib.hid (show ∀ u : World, Hid (Below wr.heap.size wr u) → Hid (Blk .u8 42 u B h) from fun u h9 => Lib.hid (HBK.out.below h9.out))
          obtain ⟨zc0, zc1⟩ := kC.out _ HBr0
          have hq := below_box0 wr (orO o)
          have HB_2 := Lib.hid (below_ext HBr0.out hq)
          have HB_wr_2 := Lib.hid (below_ext HB_wr_1.out hq)
          have hc : (wr.alloc (orO o)).cell? ⟨wr.heap.size, 0, none⟩ = some (.int .i64 o.num) ∧ (wr.alloc (orO o)).cell? ⟨wr.heap.size, 1, none⟩ = some (.string o.rs) ∧ (wr.alloc (orO o)).cell? ⟨wr.heap.size, 2, none⟩ = some (.int .i64 o.E1) ∧ (wr.alloc (orO o)).cell? ⟨wr.heap.size, 3, none⟩ = some (.int .i64 o.E2) ∧ (wr.alloc (orO o)).cell? ⟨wr.heap.size, 4, none⟩ = some (.slice o.A o.na o.ca) ∧ (wr.alloc (orO o)).cell? ⟨wr.heap.size, 5, none⟩ = some (.int .i64 o.C) ∧ (wr.alloc (orO o)).cell? ⟨wr.heap.size, 6, none⟩ = some (.slice o.Z o.nz o.cz) ∧ (wr.alloc (orO o)).cell? ⟨wr.heap.size, 7, none⟩ = some (.slice o.L o.np o.cp) ∧ (wr.alloc (orO o)).cell? ⟨wr.heap.size, 8, none⟩ = some (.int .i64 o.key) := ⟨allocs_cell rfl (by rfl), allocs_cell rfl (by rfl), allocs_cell rfl (by rfl), allocs_cell rfl (by rfl), allocs_cell rfl (by rfl), allocs_cell rfl (by rfl), allocs_cell rfl (by rfl), allocs_cell rfl (by rfl), allocs_cell rfl (by rfl)⟩
          have HC2 := Lib.hid hc
          clear hq
          obtain ⟨zc0x, zc1x⟩ := kC.out _ HB_2
          obtain ⟨zq0, zq1, zq2, zq3, zq4, zq5, zq6, zq7, zq8⟩ := hc
          go_wp2_with fail
          obtain ⟨w2, hw⟩ : ∃ x, (wr.alloc (orO o)) = x := ⟨_, rfl⟩
          rw [hw] at HC2 HB_2 HB_wr_2 ⊢
          have HSN2 : Hid (w2.heap.size = wr.heap.size + 1) := Lib.hid (by rw [← hw]; simp)
          clear zc0 zc1 zc0x zc1x zq0 zq1 zq2 zq3 zq4 zq5 zq6 zq7 zq8
          clear hw
          have HB_w2_2 : Hid (Below w2.heap.size w2 w2) := Lib.hid (Below.refl _ _)
          have kS := Lib.hid (show ∀ u : World, Hid (Below w2.heap.size w2 u) → u.cell? ⟨wr.heap.size, 0, none⟩ = some (.int .i64 o.num) ∧ u.cell? ⟨wr.heap.size, 1, none⟩ = some (.string o.rs) ∧ u.cell? ⟨wr.heap.size, 2, none⟩ = some (.int .i64 o.E1) ∧ u.cell? ⟨wr.heap.size, 3, none⟩ = some (.int .i64 o.E2) ∧ u.cell? ⟨wr.heap.size, 4, none⟩ = some (.slice o.A o.na o.ca) ∧ u.cell? ⟨wr.heap.size, 5, none⟩ = some (.int .i64 o.C) ∧ u.cell? ⟨wr.heap.size, 6, none⟩ = some (.slice o.Z o.nz o.cz) ∧ u.cell? ⟨wr.heap.size, 7, none⟩ = some (.slice o.L o.np o.cp) ∧ u.cell? ⟨wr.heap.size, 8, none⟩ = some (.int .i64 o.key) from fun u h => ⟨cell_below HC2.out.1 h.out, cell_below HC2.out.2.1 h.out, cell_below HC2.out.2.2.1 h.out, cell_below HC2.out.2.2.2.1 h.out, cell_below HC2.out.2.2.2.2.1 h.out, cell_below HC2.out.2.2.2.2.2.1 h.out, cell_below HC2.out.2.2.2.2.2.2.1 h.out, cell_below HC2.out.2.2.2.2.2.2.2.1 h.out, cell_below HC2.out.2.2.2.2.2.2.2.2 h.out⟩)
          obtain ⟨zc0, zc1⟩ := kC.out _ HB_2
          obtain ⟨kS_0, kS_1, kS_2, kS_3, kS_4, kS_5, kS_6, kS_7, kS_8⟩ := kS.out _ HB_w2_2
          clear j0 j1 j2 j3 j4 j5 j6 j7 j8
          clear zc0 zc1 kS_0 kS_1 kS_2 kS_3 kS_4 kS_5 kS_6 kS_7 kS_8
          obtain ⟨zc0, zc1⟩ := kC.out _ HB_2
          obtain ⟨kS_0, kS_1, kS_2, kS_3, kS_4, kS_5, kS_6, kS_7, kS_8⟩ := kS.out _ HB_w2_2
          go_wp2_with fail
          refine (rorder_any o true HOB _ (kOo.out _ HB_wr_2)).mono ?_
          rintro e w3 ⟨rfl, hb0⟩
          have HB_3 := Lib.hid (below_ext HB_2.out hb0)
          have HB_wr_3 := Lib.hid (below_ext HB_wr_2.out hb0)
          have HB_w2_3 := Lib.hid (below_ext HB_w2_2.out hb0)
          clear zc0 zc1 kS_0 kS_1 kS_2 kS_3 kS_4 kS_5 kS_6 kS_7 kS_8
          clear hb0
          obtain ⟨zc0, zc1⟩ := kC.out _ HB_3
          obtain ⟨kS_0, kS_1, kS_2, kS_3, kS_4, kS_5, kS_6, kS_7, kS_8⟩ := kS.out _ HB_w2_3
          have hbF := below_ext HBw.out HB_3.out
          go_wp2
          go_ret
          exact ⟨rfl, hbF⟩
      | false =>
        have HOB := Lib.hid hob
        obtain rfl : r = false := hr.1.symm.trans (trl_hit hn.out hlt (by rw [trR, HPP.out]; simp [hob]))
        clear hob
        have HB_wr_1 : Hid (Below wr.heap.size wr wr) := Lib.hid (Below.refl _ _)
        have kOo := Lib.hid (show ∀ u : World, Hid (Below wr.heap.size wr u) → Hid (OrdOk u o) from fun u h => Lib.hid (HOK.out.below h.out))
        have kBK := Lib.hid (show ∀ u : World, Hid (Below wr.heap.size wr u) → Hid (Blk .u8 42 u B h) from fun u h9 => Lib.hid (HBK.out.below h9.out))
        obtain ⟨zc0, zc1⟩ := kC.out _ HBr0
        have hq := below_box0 wr (orO o)
        have HB_2 := Lib.hid (below_ext HBr0.out hq)
        have HB_wr_2 := Lib.hid (below_ext HB_wr_1.out hq)
        have hc : (wr.alloc (orO o)).cell? ⟨wr.heap.size, 0, none⟩ = some (.int .i64 o.num) ∧ (wr.alloc (orO o)).cell? ⟨wr.heap.size, 1, none⟩ = some (.string o.rs) ∧ (wr.alloc (orO o)).cell? ⟨wr.heap.size, 2, none⟩ = some (.int .i64 o.E1) ∧ (wr.alloc (orO o)).cell? ⟨wr.heap.size, 3, none⟩ = some (.int .i64 o.E2) ∧ (wr.alloc (orO o)).cell? ⟨wr.heap.size, 4, none⟩ = some (.slice o.A o.na o.ca) ∧ (wr.alloc (orO o)).cell? ⟨wr.heap.size, 5, none⟩ = some (.int .i64 o.C) ∧ (wr.alloc (orO o)).cell? ⟨wr.heap.size, 6, none⟩ = some (.slice o.Z o.nz o.cz) ∧ (wr.alloc (orO o)).cell? ⟨wr.heap.size, 7, none⟩ = some (.slice o.L o.np o.cp) ∧ (wr.alloc (orO o)).cell? ⟨wr.heap.size, 8, none⟩ = some (.int .i64 o.key) := ⟨allocs_cell rfl (by rfl), allocs_cell rfl (by rfl), allocs_cell rfl (by rfl), allocs_cell rfl (by rfl), allocs_cell rfl (by rfl), allocs_cell rfl (by rfl), allocs_cell rfl (by rfl), allocs_cell rfl (by rfl), allocs_cell rfl (by rfl)⟩
        have HC2 := Lib.hid hc
        clear hq
        obtain ⟨zc0x, zc1x⟩ := kC.out _ HB_2
        obtain ⟨zq0, zq1, zq2, zq3, zq4, zq5, zq6, zq7, zq8⟩ := hc
        go_wp2_with fail
        obtain ⟨w2, hw⟩ : ∃ x, (wr.alloc (orO o)) = x := ⟨_, rfl⟩
        rw [hw] at HC2 HB_2 HB_wr_2 ⊢
        have HSN2 : Hid (w2.heap.size = wr.heap.size + 1) := Lib.hid (by rw [← hw]; simp)
        clear zc0 zc1 zc0x zc1x zq0 zq1 zq2 zq3 zq4 zq5 zq6 zq7 zq8
        clear hw
        have HB_w2_2 : Hid (Below w2.heap.size w2 w2) := Lib.hid (Below.refl _ _)
        have kS := Lib.hid (show ∀ u : World, Hid (Below w2.heap.size w2 u) → u.cell? ⟨wr.heap.size, 0, none⟩ = some (.int .i64 o.num) ∧ u.cell? ⟨wr.heap.size, 1, none⟩ = some (.string o.rs) ∧ u.cell? ⟨wr.heap.size, 2, none⟩ = some (.int .i64 o.E1) ∧ u.cell? ⟨wr.heap.size, 3, none⟩ = some (.int .i64 o.E2) ∧ u.cell? ⟨wr.heap.size, 4, none⟩ = some (.slice o.A o.na o.ca) ∧ u.cell? ⟨wr.heap.size, 5, none⟩ = some (.int .i64 o.C) ∧ u.cell? ⟨wr.heap.size, 6, none⟩ = some (.slice o.Z o.nz o.cz) ∧ u.cell? ⟨wr.heap.size, 7, none⟩ = some (.slice o.L o.np o.cp) ∧ u.cell? ⟨wr.heap.size, 8, none⟩ = some (.int .i64 o.key) from fun u h => ⟨cell_below HC2.out.1 h.out, cell_below HC2.out.2.1 h.out, cell_below HC2.out.2.2.1 h.out, cell_below HC2.out.2.2.2.1 h.out, cell_below HC2.out.2.2.2.2.1 h.out, cell_below HC2.out.2.2.2.2.2.1 h.out, cell_below HC2.out.2.2.2.2.2.2.1 h.out, cell_below HC2.out.2.2.2.2.2.2.2.1 h.out, cell_below HC2.out.2.2.2.2.2.2.2.2 h.out⟩)
        obtain ⟨zc0, zc1⟩ := kC.out _ HB_2
        obtain ⟨kS_0, kS_1, kS_2, kS_3, kS_4, kS_5, kS_6, kS_7, kS_8⟩ := kS.out _ HB_w2_2
        clear j0 j1 j2 j3 j4 j5 j6 j7 j8
        clear zc0 zc1 kS_0 kS_1 kS_2 kS_3 kS_4 kS_5 kS_6 kS_7 kS_8
        obtain ⟨zc0, zc1⟩ := kC.out _ HB_2
        obtain ⟨kS_0, kS_1, kS_2, kS_3, kS_4, kS_5, kS_6, kS_7, kS_8⟩ := kS.out _ HB_w2_2
        go_wp2_with fail
        refine (rorder_any o false HOB _ (kOo.out _ HB_wr_2)).mono ?_
        rintro e w3 ⟨rfl, hb0⟩
        have HB_3 := Lib.hid (below_ext HB_2.out hb0)
        have HB_wr_3 := Lib.hid (below_ext HB_wr_2.out hb0)
        have HB_w2_3 := Lib.hid (below_ext HB_w2_2.out hb0)
        clear zc0 zc1 kS_0 kS_1 kS_2 kS_3 kS_4 kS_5 kS_6 kS_7 kS_8
        clear hb0
        obtain ⟨zc0, zc1⟩ := kC.out _ HB_3
        obtain ⟨kS_0, kS_1, kS_2, kS_3, kS_4, kS_5, kS_6, kS_7, kS_8⟩ := kS.out _ HB_w2_3
        have hbF := below_ext HBw.out HB_3.out
        go_wp2
        go_ret
        exact ⟨rfl, hbF⟩
    · skip
      obtain rfl : k = n := by omega
      have hre : ((((clN os k : Nat) : Int)) == ((m : Nat) : Int)) = r := by
        rw [← hr.1, trlB, hn.out, HST.out, hm.out, decide_eq_true h100]; simp only [Bool.true_and]
        rw [Bool.eq_iff_iff]; simp; omega
      have hre2 : ((((m : Nat) : Int)) == ((clN os k : Nat) : Int)) = r := by rw [← hre, BEq.comm]
      obtain ⟨q, hq⟩ : ∃ q, clN os k = q := ⟨_, rfl⟩
      rw [hq] at hre hre2 ⊢
      clear hq
      obtain ⟨zc0, zc1⟩ := kC.out _ HBr0
      have hbF := below_ext HBw.out HBr0.out
      go_wp2
      go_ret
      exact ⟨by first | rfl | rw [hre] | rw [hre2], hbF⟩
theorem rtval_any (O : Option Addr) (os : List OrdR) (n c : Nat) (K : Option Addr) (hs : List (List Int)) (m d : Nat) (hn : Hid (os.length = n)) (hm : Hid (hs.length = m)) (hI : ∀ k, k < n → OrdI (orL os k)) (hb1 : n ≤ 1000000) (hb2 : m ≤ 1000000) (r : Bool) (hr : Kp (trlB os hs = r)) (w : World) (hv : Hid (VarsD w)) (hO : Hid (Os w O os)) (hK : Hid (Hs w K hs)) :
    Calls Tryd.prog 13 #[tlV O n c K m d] w fun e' w' => e' = .returned (.bool r) ∧ Below w.heap.size w w' := by
  by_cases h : n ≤ 100
  · exact rtval_2 O os n c K hs m d hn hm hI hb1 hb2 h r hr w hv hO hK
  · obtain rfl : r = false := hr.1.symm.trans (by rw [trlB, hn.out, decide_eq_false h]; rfl)
    exact rtval_1 O n c K m d h hb1 w
end Go.Proofs.YtofkihlpbfcdkaaDoor
