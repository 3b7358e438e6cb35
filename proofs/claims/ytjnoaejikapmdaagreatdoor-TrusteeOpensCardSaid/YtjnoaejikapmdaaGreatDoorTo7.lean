/- Contracts and lemmas: TrJ, LcD, LinX, LcE, LcG, LcF, EqA, EqB, EqC, Msg, EscA. -/
import Derived.Test.YtjnoaejikapmdaaGreatDoorTo6
namespace Go.Proofs.YtjnoaejikapmdaaGreatDoor
open Go.RowKit SpM
set_option linter.unusedVariables false
set_option linter.unusedSimpArgs false
set_option maxRecDepth 100000
set_option maxHeartbeats 3200000 in
theorem rints_ok (h : List Int) (hl : Hid (h.length = 32)) (hb : Hid (bytesB h = true)) (c : Int) (hc0 : 0 ≤ c) (hc1 : c < 1000) (s : ByteArray) (hs : s.size ≤ 1000) (hr : Hid (labB (bys s) = true)) (A : Option Addr) (l : List Int) (n cA : Nat) (hn : Hid (l.length = n)) (hbig : n ≤ 1000) (w : World) (hS : Hid (Sl w A l)) (hfi : Hid (fits 7 (.lst (l.map .int)))) (hle : Hid ((enc (.lst (l.map .int))).length ≤ 14000)) :
    Calls Tryz.prog 215 #[.agg (tcs h c), .string s, .slice A n cA] w fun e w' => e = .returned (TrE (abL h (bys s) (.lst (l.map .int))) (c + 1) 0) ∧ Below w.heap.size w w' := by
  obtain ⟨W, hW⟩ : ∃ W, (w.alloc (.cells (tcs h c) 204)).alloc (.cells #[.int .u8 0, .int .u8 0, .int .u8 0, .int .u8 0, .int .u8 0, .int .u8 0, .int .u8 0, .int .u8 0, .int .u8 0, .int .u8 0, .int .u8 0, .int .u8 0, .int .u8 0, .int .u8 0, .int .u8 0, .int .u8 0, .int .u8 0, .int .u8 0, .int .u8 0, .int .u8 0, .int .u8 0, .int .u8 0, .int .u8 0, .int .u8 0, .int .u8 0, .int .u8 0, .int .u8 0, .int .u8 0, .int .u8 0, .int .u8 0, .int .u8 0, .int .u8 0, .int .i64 0] 204) = W := ⟨_, rfl⟩
  have HBX : Hid (Below w.heap.size w W) := Lib.hid (by rw [← hW]; exact below_two (Below.refl _ _))
  have HT0 : Hid (TBlk W w.heap.size h c) := Lib.hid (by rw [← hW]; exact heap_alloc2_old _ _ _)
  have HR0 : Hid (TBlk W (w.heap.size + 1) (zer 32) 0) := Lib.hid (by rw [← hW, ztr]; exact heap_alloc2_new _ _ _)
  have HSL := Lib.hid (hS.out.below HBX.out)
  have HW := Lib.hid hW
  clear hW
  go_enter Tryz.func215, Tryz.ntmps215
  go_upto_region 1 with (fail)
  rw [HW.out]
  clear HW
  have HBd := Lib.hid ((Below.refl W.heap.size W).drew)
  have HTd := Lib.hid (HT0.out.below HBd.out)
  have HRd := Lib.hid (HR0.out.below HBd.out)
  have HSd := Lib.hid (HSL.out.below HBd.out)
  have HB3 := Lib.hid (below_ext HBX.out HBd.out)
  obtain ⟨Wd, hWd⟩ : ∃ u, W.drew = u := ⟨_, rfl⟩
  refine wp_region_T (S := fun w' => w'.heap[w.heap.size]? = some (.cells (tcs h c) 204 (0, 0))) (E := [7, 8]) (by kernel_rfl) (HTd.out) (fun hHeld => ?_)
  refine wpT_take (i := 0) (oi := _) (v := (.agg (tcs h c))) rfl (by kernel_rfl) (by kernel_rfl) (by kernel_rfl) (by kernel_rfl) (fun _ _ _ h => h) (Or.inl ⟨by rfl, yields_row 204 _ rfl w.heap.size rfl _ _ _ _ (fun _ h => h) Tryz.underlying204 rfl (tr_info hl.out)⟩) (by assumption) ?_
  try simp only [qq1, qq2, qq3, Act.put, qq4, qq5, qq6]
  refine tkV 1 ?_
  try simp only [qq1, qq2, qq3, Act.put, qq4, qq5, qq6]
  refine tkV 2 ?_
  try simp only [qq1, qq2, qq3, Act.put, qq4, qq5, qq6]
  refine wpT_one (i := 3) (by kernel_rfl) rfl (fun K hK => ?_)
  go_simp
  try rw [hWd]
  rw [hWd] at HBd HTd HRd HSd HB3
  refine (rlist_any A l n cA hn (by omega) _ HSd).mono ?_
  rintro e w4 ⟨cI, rfl, hI4, hb4⟩
  refine hK.out _ _ ?_ (fun hHeld => ?_)
  · exact HTd.out.below hb4
  clear hK K
  try simp only [qq1, qq2, qq3, Act.put, qq4, qq5, qq6]
  refine wpT_one (i := 4) (by kernel_rfl) rfl (fun K hK => ?_)
  go_simp
  rw [show cI.val = (.agg #[.int .i64 cI.kind, .int .i64 cI.n, .slice cI.B cI.nb cI.cb, .slice cI.L cI.nl cI.cl] : Value) from rfl]
  refine (rabsorb_ok h hl hb c hc0 hc1 s hs hr _ cI _ (Lib.hid hI4) hfi hle).mono ?_
  rintro e w5 ⟨rfl, hb5⟩
  have HR5 := Lib.hid ((HRd.out.below hb4).below hb5)
  have HB5 := Lib.hid (below_ext (below_ext HB3.out hb4) hb5)
  obtain ⟨R, hR⟩ : ∃ R, abL h (bys s) (.lst (l.map .int)) = R := ⟨_, rfl⟩
  have hRl : R.length = 32 := by rw [← hR]; exact abL_len _ _ _
  have HN : Kp (abL h (bys s) (.lst (l.map .int)) = R) := ⟨hR⟩
  have HRL := Lib.hid hRl
  rw [hR, show TrE R (c + 1) 0 = .tuple #[.agg (tcs R (c + 1)), .int .i64 0] from rfl]
  refine hK.out _ _ ?_ (fun hHeld => ?_)
  · exact (HTd.out.below hb4).below hb5
  clear hK K
  try simp only [qq1, qq2, qq3, Act.put, qq4, qq5, qq6]
  refine tkV 5 ?_
  try simp only [qq1, qq2, qq3, Act.put, qq4, qq5, qq6]
  refine tkV 6 ?_
  try simp only [qq1, qq2, qq3, Act.put, qq4, qq5, qq6]
  refine wpT_pass (i := 7) (by kernel_rfl) (by simp) rfl (fun K hK => ?_)
  rw [show (if Region.wanted _ _ = true then _ else _ : Prop) = _ from if_pos rfl]
  refine wp_store_row 204 _ _ rfl (w.heap.size + 1) (tcs R (c + 1)) rfl rfl 204 _ HR5.out (tr_info HRL.out) (tcs_sz rfl HRL.out) (tcs_one _ _) ?_
  refine hK.out _ _ ?_
  clear hK K
  try simp only [qq1, qq2, qq3, Act.put, qq4, qq5, qq6]
  refine wpT_pass (i := 8) (by kernel_rfl) (by simp) rfl (fun K hK => ?_)
  go_simp
  refine hK.out _ _ ?_
  clear hK K
  try simp only [qq1, qq2, qq3, Act.put, qq4, qq5, qq6]
  refine wpT_done (by kernel_rfl) ?_ _
  have HRR : Hid (TBlk (w5.setRow (w.heap.size + 1) (tcs R (c + 1))) (w.heap.size + 1) R (c + 1)) := Lib.hid HR5.out.setRow
  have HBF : Below w.heap.size w (w5.setRow (w.heap.size + 1) (tcs R (c + 1))) := below_setRow' HB5.out (by omega)
  clear hR hRl hb4 hb5 hI4 HB5 HR5 hWd
  go_wp2
  exact bodyPost_ret (v := TrE R (c + 1) 0) (results_cell_tmp2 (p := 6) (q := 7) (ty := 204) rfl _ _ ⟨w.heap.size + 1, 0, none⟩ _ _ rfl rfl (run_loadVar_row _ _ _ _ _ _ _ HRR.out Tryz.underlying204 rfl (tr_info HRL.out))) rfl ⟨by rw [HN.out], HBF⟩
set_option maxHeartbeats 6400000 in
theorem rchal_ok (h : List Int) (hl : Hid (h.length = 32)) (hb : Hid (bytesB h = true)) (c : Int) (hc0 : 0 ≤ c) (hc1 : c < 1000) (s : ByteArray) (hs : s.size ≤ 1000) (hr : Hid (labB (bys s) = true)) (q : Int) (hq1 : 2 ≤ q) (hq2 : q < 2305843009213693952) (w : World) :
    Calls Tryz.prog 216 #[.agg (tcs h c), .string s, .int .i64 q] w fun e w' => e = .returned (ChE (chL q h (bys s)) (c + 1) (chN q h (bys s)) 0) ∧ Below w.heap.size w w' := by
  have hs0 : 1 ≤ s.size := lab_pos hr.out
  obtain ⟨W, hW⟩ : ∃ W, (w.alloc (.cells (tcs h c) 204)).alloc (.cells #[.int .u8 0, .int .u8 0, .int .u8 0, .int .u8 0, .int .u8 0, .int .u8 0, .int .u8 0, .int .u8 0, .int .u8 0, .int .u8 0, .int .u8 0, .int .u8 0, .int .u8 0, .int .u8 0, .int .u8 0, .int .u8 0, .int .u8 0, .int .u8 0, .int .u8 0, .int .u8 0, .int .u8 0, .int .u8 0, .int .u8 0, .int .u8 0, .int .u8 0, .int .u8 0, .int .u8 0, .int .u8 0, .int .u8 0, .int .u8 0, .int .u8 0, .int .u8 0, .int .i64 0] 204) = W := ⟨_, rfl⟩
  have HBX : Hid (Below w.heap.size w W) := Lib.hid (by rw [← hW]; exact below_two (Below.refl _ _))
  have HT0 : Hid (TBlk W w.heap.size h c) := Lib.hid (by rw [← hW]; exact heap_alloc2_old _ _ _)
  have HR0 : Hid (TBlk W (w.heap.size + 1) (zer 32) 0) := Lib.hid (by rw [← hW, ztr]; exact heap_alloc2_new _ _ _)
  have HW := Lib.hid hW
  have hcn : ¬ (c = 1000) := by omega
  have hqa : ¬ (q < 2) := by omega
  have hqb : ¬ (2305843009213693952 ≤ q) := by omega
  clear hW
  go_enter Tryz.func216, Tryz.ntmps216
  go_upto_region 1 with (fail)
  rw [HW.out]
  clear HW
  go_wp2_with ((with_reducible show wpList _ _ _ (⟨some 12, _, _, _, _, _⟩ :: _) _ _); refine wpList_load_row rfl 204 _ rfl w.heap.size rfl _ _ _ _ HT0.out Tryz.underlying204 rfl (tr_info hl.out) ?_)
  refine (rtvalid_any h hl c hc0 (by omega) _).mono ?_
  rintro e w1 ⟨rfl, hb1⟩
  have HB1 := Lib.hid (below_ext HBX.out hb1)
  have HT1 := Lib.hid (HT0.out.below hb1)
  have HR1 := Lib.hid (HR0.out.below hb1)
  clear hb1 HT0 HR0 HBX
  go_wp2_with fail
  refine (rlabel_any s hs true hr _).mono ?_
  rintro e w2 ⟨rfl, rfl⟩
  have hcnt := HT1.out.count hl.out
  go_wp2_with ((with_reducible show wpList _ _ _ (⟨some 32, _, _, _, _, _⟩ :: _) _ _); refine wpList_load_row rfl 204 _ rfl w.heap.size rfl _ _ _ _ HT1.out Tryz.underlying204 rfl (tr_info hl.out) ?_)
  clear hcnt
  refine (rframe0 h hl hb c s hs0 hs _).mono ?_
  rintro e w2 ⟨cf, rfl, hcf, hb2⟩
  have HFIT : Hid (fits 8 (.lst [.byt h, .byt (bys s)])) := Lib.hid (frame_fits0 hl.out hb.out hs0 hs)
  have HLEN : Hid ((enc (.lst [.byt h, .byt (bys s)])).length ≤ 16384) := Lib.hid (frame_len0 hl.out hs)
  have HT2 := Lib.hid (HT1.out.below hb2)
  have HR2 := Lib.hid (HR1.out.below hb2)
  have HB2 := Lib.hid (below_ext HB1.out hb2)
  have HC2 := Lib.hid hcf
  rw [show cf.val = .agg cf.cs from rfl]
  clear hb2 HT1 HR1 HB1 hcf
  go_wp2_with fail
  rw [show (Value.agg cf.cs) = cf.val from rfl]
  refine (renc_any 8 _ cf _ HFIT.out HC2.out HLEN.out).mono ?_
  rintro e w3 ⟨v3, rfl, ho3, hb3⟩
  obtain ⟨E, hE⟩ : ∃ E, enc (.lst [.byt h, .byt (bys s)]) = E := ⟨_, rfl⟩
  have HEB : Hid (bytesB E = true) := Lib.hid (by rw [← hE]; exact enc_bytes HFIT.out)
  have HEL : Hid (0 < E.length ∧ E.length ≤ 16384) := Lib.hid (by rw [← hE]; exact ⟨enc_pos _, HLEN.out⟩)
  rw [hE] at ho3
  obtain ⟨g3, cap3, e3, hg3, -, -, hsk3⟩ := ho3.cells HEL.out.1
  obtain ⟨n3, hn3⟩ : ∃ n, E.length = n := ⟨_, rfl⟩
  rw [hn3] at e3 HEL
  subst e3
  have HN3 := Lib.hid hn3
  have HS3 := Lib.hid hsk3
  have HT3 := Lib.hid (HT2.out.below hb3)
  have HR3 := Lib.hid (HR2.out.below hb3)
  have HB3 := Lib.hid (below_ext HB2.out hb3)
  have HEE : Kp (enc (.lst [.byt h, .byt (bys s)]) = E) := ⟨hE⟩
  clear hE hsk3 ho3 hb3 hn3 HFIT HLEN HT2 HR2 HB2 HC2
  rw [show cf.val = .agg cf.cs from rfl]
  obtain ⟨he0, he1⟩ := HEL.out
  go_wp2_with fail
  refine (rtagged_any tagCh (by decide) (by decide) g3 0 cap3 E n3 HN3 he0 (by omega) HEB _ HS3).mono ?_
  rintro e w4 ⟨rfl, hb4⟩
  have HT4 := Lib.hid (HT3.out.below hb4)
  have HR4 := Lib.hid (HR3.out.below hb4)
  have HB4 := Lib.hid (below_ext HB3.out hb4)
  obtain ⟨R, hR⟩ : ∃ R, tagged (bys tagCh) E = R := ⟨_, rfl⟩
  have hRl : R.length = 32 := by rw [← hR]; exact tagged_len _ _
  have HRB : Hid (bytesB R = true) := Lib.hid (by rw [← hR]; exact sha_bytes _)
  have HN : Kp (chD h (bys s) = R) := ⟨by rw [chD, HEE.1]; exact hR⟩
  have HRL := Lib.hid hRl
  rw [hR]
  clear hb4 hR hRl HT3 HR3 HB3
  go_wp2_with fail
  refine (rnumber_any R HRL HRB q (by omega) hq2 _).mono ?_
  rintro e w6 ⟨rfl, hb6⟩
  have HT6 := Lib.hid (HT4.out.below hb6)
  have HR6 := Lib.hid (HR4.out.below hb6)
  have HB6 := Lib.hid (below_ext HB4.out hb6)
  obtain ⟨n, hn⟩ : ∃ n, numv q R = n := ⟨_, rfl⟩
  have hn0 : 0 ≤ n ∧ n < q := by rw [← hn]; exact numL_lo (by omega) 16
  obtain ⟨hn1, hn2⟩ := hn0
  have HNN : Kp (chN q h (bys s) = n) := ⟨by rw [chN, HN.1]; exact hn⟩
  rw [hn]
  clear hb6 hn HT4 HR4 HB4
  go_wp2_with ((with_reducible show wpList _ _ _ (⟨some 40, _, _, _, _, _⟩ :: _) _ _); refine wpList_load_row rfl 204 _ rfl w.heap.size rfl _ _ _ _ HT6.out Tryz.underlying204 rfl (tr_info hl.out) ?_)
  refine (rabsorb_ok h hl hb c hc0 hc1 s hs hr (.int n) ⟨1, n, none, 0, 0, none, 0, 0⟩ _ (Lib.hid (.int n _ rfl rfl rfl rfl)) (Lib.hid ⟨by omega, by omega⟩) (Lib.hid (by rw [enc_int, List.length_cons, be8_len]; decide))).mono ?_
  rintro e w7 ⟨rfl, hb7⟩
  have HR7 := Lib.hid (HR6.out.below hb7)
  have HB7 := Lib.hid (below_ext HB6.out hb7)
  obtain ⟨G, hG⟩ : ∃ G, abL h (bys s) (.int n) = G := ⟨_, rfl⟩
  have HGL : Hid (G.length = 32) := Lib.hid (by rw [← hG]; exact abL_len _ _ _)
  have HNG : Kp (chL q h (bys s) = G) := ⟨by rw [chL, HNN.1]; exact hG⟩
  rw [hG, show TrE G (c + 1) 0 = .tuple #[.agg (tcs G (c + 1)), .int .i64 0] from rfl]
  clear hb7 hG HR6 HB6 HT6
  go_upto_region 9 with ((with_reducible show wpList _ _ _ (⟨none, _, _, _, _, _⟩ :: _) _ _); refine wpList_store_row rfl 204 _ _ rfl w7.heap.size (tcs G (c + 1)) rfl rfl _ _ (heap_alloc_new _ _) (tr_info HGL.out) (tcs_sz (h := zer 32) (c := 0) rfl HGL.out) (tcs_one _ _) ?_)
  rw [World.setRow_alloc_new]
  try simp only [Act.put]
  have HK8 : Hid (TBlk (w7.alloc (.cells (tcs G (c + 1)) 204)) w7.heap.size G (c + 1)) := Lib.hid (TBlk.new _ _ _)
  have HR8 := Lib.hid (HR7.out.below (below_box0 w7 (.cells (tcs G (c + 1)) 204)))
  have HB8 := Lib.hid (below_ext HB7.out (below_box0 w7 (.cells (tcs G (c + 1)) 204)))
  obtain ⟨W8, hW8⟩ : ∃ u, w7.alloc (.cells (tcs G (c + 1)) 204) = u := ⟨_, rfl⟩
  rw [hW8] at HK8 HR8 HB8 ⊢
  clear hW8 HR7 HB7
  go_wp2_with (first
    | ((with_reducible show wpList _ _ _ (⟨some 47, _, _, _, _, _⟩ :: _) _ _); refine wpList_load_row rfl 204 _ rfl w7.heap.size rfl _ _ _ _ HK8.out Tryz.underlying204 rfl (tr_info HGL.out) ?_)
    | ((with_reducible show wpList _ _ _ (⟨none, _, _, _, _, _⟩ :: _) _ _); refine wpList_store_row rfl 204 _ _ rfl (w.heap.size + 1) (tcs G (c + 1)) rfl rfl _ _ HR8.out (tr_info HGL.out) (tcs_sz rfl HGL.out) (tcs_one _ _) ?_))
  have HRR : Hid (TBlk (W8.setRow (w.heap.size + 1) (tcs G (c + 1))) (w.heap.size + 1) G (c + 1)) := Lib.hid HR8.out.setRow
  have HBF : Below w.heap.size w (W8.setRow (w.heap.size + 1) (tcs G (c + 1))) := below_setRow' HB8.out (by omega)
  exact bodyPost_ret (v := ChE G (c + 1) n 0) (results_cell_tmp3 (p := 6) (q := 7) (r := 8) (ty := 204) rfl _ _ ⟨w.heap.size + 1, 0, none⟩ _ _ _ rfl rfl rfl (run_loadVar_row _ _ _ _ _ _ _ HRR.out Tryz.underlying204 rfl (tr_info HGL.out))) rfl ⟨by rw [HNG.out, HNN.out], HBF⟩
def RcI (W : World) (a : Nat) (h : List Int) (c : Int) (u : World) : Prop := TBlk u a h c ∧ Below W.heap.size W u
theorem RcI.step {W : World} {a : Nat} {h h' : List Int} {c c' : Int} {u u' : World} (hI : RcI W a h c u) (hb : Below u.heap.size u u') (hWa : W.heap.size ≤ a) : RcI W a h' c' (u'.setRow a (tcs h' c')) :=
  ⟨(hI.1.below hb).setRow, below_setRow' (below_ext hI.2 hb) hWa⟩
theorem rints_st (W : World) (a : Nat) (h : List Int) (hst : Hid (St32 h)) (c : Int) (hc0 : 0 ≤ c) (hc1 : c < 1000) (s : ByteArray) (hs : s.size ≤ 1000) (hr : Hid (labB (bys s) = true)) (A : Option Addr) (l : List Int) (n cA : Nat) (hn : Hid (l.length = n)) (hok : Hid (okL l)) (u : World) (hS : Hid (Sl u A l)) :
    Calls Tryz.prog 215 #[.agg (tcs h c), .string s, .slice A n cA] u fun e u' => e = .returned (TrE (absL h (bys s) l) (c + 1) 0) ∧ Below u.heap.size u u' :=
  rints_ok h (Lib.hid hst.out.1) (Lib.hid hst.out.2) c hc0 hc1 s hs hr A l n cA hn (by rw [← hn.out]; exact hok.out.1) u hS hok.out.fits hok.out.len
set_option maxHeartbeats 6400000 in
theorem rchal17_ok (P Q G : Int) (Y : Option Addr) (ys : List Int) (yn yc : Nat) (B : Option Addr) (rows : List Row) (bn bc : Nat) (A : Option Addr) (al : List Int) (na ca : Nat) (s : ByteArray) (hs : s.size ≤ 1000) (hr : Hid (labB (bys s) = true))
    (hyn : Hid (ys.length = yn)) (hbn : Hid (rows.length = bn)) (hna : Hid (al.length = na)) (hb9 : bn ≤ 900) (okg : Hid (okL [P, Q, G])) (oky : Hid (okL ys)) (oka : Hid (okL al)) (okr : Hid (∀ k, k < rows.length → okL (rows.getD k noRow).xs))
    (hQ1 : 2 ≤ Q) (hQ2 : Q < 2305843009213693952) (V : Int) (hV : Kp (chalV P Q G (bys s) ys rows al = V)) (w : World) (hY : Hid (Sl w Y ys)) (hB : Hid (Rw w B rows)) (hA : Hid (Sl w A al)) :
    Calls Tryz.prog 150 #[gv P Q G, .agg #[.slice Y yn yc, .slice B bn bc], .string s, .slice A na ca] w fun e w' => e = .returned (.int .i64 V) ∧ Below w.heap.size w w' := by
  obtain ⟨W, hW⟩ : ∃ W, (w.alloc (gObj P Q G)).alloc (.cells #[.slice Y yn yc, .slice B bn bc] 128) = W := ⟨_, rfl⟩
  have HBX : Hid (Below w.heap.size w W) := Lib.hid (by rw [← hW]; exact below_two (Below.refl _ _))
  have HGX : Hid (GBox W w.heap.size P Q G) := Lib.hid (by rw [← hW]; exact (gbox_alloc w P Q G).below (below_box0 _ _))
  have HRX : Hid (RBox W (w.heap.size + 1) (.slice Y yn yc) (.slice B bn bc)) := Lib.hid (by rw [← hW]; exact rbox_alloc1 w _ _ _ _)
  have HYY := Lib.hid (hY.out.below HBX.out)
  have HBB := Lib.hid (hB.out.below HBX.out)
  have HAA := Lib.hid (hA.out.below HBX.out)
  have HW := Lib.hid hW
  clear hW hY hB hA
  go_enter Tryz.func150, Tryz.ntmps150
  go_upto_region 1 with (fail)
  rw [HW.out]
  clear HW
  go_wp2_with fail
  refine (rtnew_ok s hs (lab_pos hr.out) _).mono ?_
  rintro e w1 ⟨rfl, hb1⟩
  obtain ⟨S0, hS0⟩ : ∃ S, newL (bys s) = S := ⟨_, rfl⟩
  have HS0 : Hid (St32 S0) := Lib.hid (by rw [← hS0]; exact st_new _)
  have HV0 : Kp (chN Q (absL (chRows (absL (absL S0 (bys lbGroup) [P, Q, G]) (bys lbY) ys) rows) (bys lbCommit) al) (bys lbCh) = V) := ⟨by rw [← hS0]; exact hV.1⟩
  rw [hS0]
  have HL0 := Lib.hid HS0.out.1
  have HB1 := Lib.hid hb1
  clear hb1 hS0 hV
  go_upto_region 2 with ((with_reducible show wpList _ _ _ (⟨none, _, _, _, _, _⟩ :: _) _ _); refine wpList_store_row rfl 204 _ _ rfl w1.heap.size (tcs S0 0) rfl rfl _ _ (heap_alloc_new _ _) (tr_info HL0.out) (tcs_sz (h := zer 32) (c := 0) rfl HL0.out) (tcs_one _ _) ?_)
  rw [World.setRow_alloc_new]
  try simp only [Act.put]
  have hI2 : RcI W w1.heap.size S0 0 (w1.alloc (.cells (tcs S0 0) 204)) := ⟨TBlk.new _ _ _, below_ext HB1.out (below_box0 _ _)⟩
  obtain ⟨W2, hW2⟩ : ∃ u, w1.alloc (.cells (tcs S0 0) 204) = u := ⟨_, rfl⟩
  obtain ⟨a, ha⟩ : ∃ a, w1.heap.size = a := ⟨_, rfl⟩
  have hWa : W.heap.size ≤ a := by rw [← ha]; exact HB1.out.size
  rw [hW2] at hI2 ⊢
  rw [ha] at hI2 ⊢
  have HI2 := Lib.hid hI2
  clear hW2 hI2 ha HB1
  have HT2 := Lib.hid HI2.out.1
  obtain ⟨c0, c1, c2⟩ := HGX.out.below HI2.out.2
  go_wp2_with ((with_reducible show wpList _ _ _ (⟨some 17, _, _, _, _, _⟩ :: _) _ _); refine wpList_load_row rfl 204 _ rfl a rfl _ _ _ _ HT2.out Tryz.underlying204 rfl (tr_info HL0.out) ?_)
  refine (rints_st W a S0 HS0 0 (by omega) (by omega) lbGroup (by decide) labGroup (some ⟨W2.heap.size, 0, none⟩) [P, Q, G] 3 3 (Lib.hid rfl) okg _ (Lib.hid (sl_of_cells (cells3l W2 _ P Q G)))).mono ?_
  rintro e w3 ⟨rfl, hb3⟩
  obtain ⟨S1, hS1⟩ : ∃ S, absL S0 (bys lbGroup) [P, Q, G] = S := ⟨_, rfl⟩
  have HS1 : Hid (St32 S1) := Lib.hid (by rw [← hS1]; exact st_abs _ _ _)
  have HV1 : Kp (chN Q (absL (chRows (absL S1 (bys lbY) ys) rows) (bys lbCommit) al) (bys lbCh) = V) := ⟨by rw [← hS1]; exact HV0.1⟩
  rw [hS1, show TrE S1 (0 + 1) 0 = .tuple #[.agg (tcs S1 1), .int .i64 0] from rfl]
  have hb3' := below_ext (below_box0 W2 (.cells #[.int .i64 P, .int .i64 Q, .int .i64 G] 3)) hb3
  have HT3 := Lib.hid (HI2.out.1.below hb3')
  have HL1 := Lib.hid HS1.out.1
  have HI3 := Lib.hid (HI2.out.step (h' := S1) (c' := 1) hb3' hWa)
  clear hb3 hb3' hS1 HV0 c0 c1 c2 HI2 HT2
  go_upto_region 3 with ((with_reducible show wpList _ _ _ (⟨none, _, _, _, _, _⟩ :: _) _ _); refine wpList_store_row rfl 204 _ _ rfl a (tcs S1 1) rfl rfl _ _ HT3.out (tr_info HL1.out) (tcs_sz HL0.out HL1.out) (tcs_one _ _) ?_)
  obtain ⟨W3, hW3⟩ : ∃ u, w3.setRow a (tcs S1 1) = u := ⟨_, rfl⟩
  rw [hW3] at HI3 ⊢
  clear hW3 HT3
  have HT3 := Lib.hid HI3.out.1
  obtain ⟨d0, d1⟩ := HRX.out.below HI3.out.2
  go_wp2_with ((with_reducible show wpList _ _ _ (⟨some 29, _, _, _, _, _⟩ :: _) _ _); refine wpList_load_row rfl 204 _ rfl a rfl _ _ _ _ HT3.out Tryz.underlying204 rfl (tr_info HL1.out) ?_)
  refine (rints_st W a S1 HS1 1 (by omega) (by omega) lbY (by decide) labY Y ys yn yc hyn oky _ (Lib.hid (HYY.out.below HI3.out.2))).mono ?_
  rintro e w4 ⟨rfl, hb4⟩
  obtain ⟨S2, hS2⟩ : ∃ S, absL S1 (bys lbY) ys = S := ⟨_, rfl⟩
  have HS2 : Hid (St32 S2) := Lib.hid (by rw [← hS2]; exact st_abs _ _ _)
  have HV2 : Kp (chN Q (absL (chRows S2 rows) (bys lbCommit) al) (bys lbCh) = V) := ⟨by rw [← hS2]; exact HV1.1⟩
  rw [hS2, show TrE S2 (1 + 1) 0 = .tuple #[.agg (tcs S2 2), .int .i64 0] from rfl]
  have HT4 := Lib.hid (HI3.out.1.below hb4)
  have HL2 := Lib.hid HS2.out.1
  have HI4 := Lib.hid (HI3.out.step (h' := S2) (c' := 2) hb4 hWa)
  clear hb4 hS2 HV1 d0 d1 HI3 HT3
  go_upto_region 4 with ((with_reducible show wpList _ _ _ (⟨none, _, _, _, _, _⟩ :: _) _ _); refine wpList_store_row rfl 204 _ _ rfl a (tcs S2 2) rfl rfl _ _ HT4.out (tr_info HL2.out) (tcs_sz HL1.out HL2.out) (tcs_one _ _) ?_)
  obtain ⟨W4, hW4⟩ : ∃ u, w4.setRow a (tcs S2 2) = u := ⟨_, rfl⟩
  rw [hW4] at HI4 ⊢
  clear hW4 HT4
  obtain ⟨S3, hS3⟩ : ∃ S, chRows S2 rows = S := ⟨_, rfl⟩
  have HR3 : Kp (chRows S2 (rows.drop 0) = S3) := ⟨hS3⟩
  have HV3 : Kp (chN Q (absL S3 (bys lbCommit) al) (bys lbCh) = V) := ⟨by rw [← hS3]; exact HV2.1⟩
  clear hS3 HV2
  go_wp2_with fail
  go_loopw [10] (fun i u => ∃ (k : Nat) (S : List Int) (c : Int), k ≤ bn ∧ i = .int .i64 k ∧ Hid (c = 2 + (k : Int)) ∧ Hid (St32 S) ∧ Kp (chRows S (rows.drop k) = S3) ∧ Hid (RcI W a S c u)) (fun i _ => bn - (intOf i).toNat)
  case atStart => exact ⟨0, S2, 2, by omega, rfl, Lib.hid (by simp), HS2, HR3, HI4⟩
  case round =>
    obtain ⟨k, S, c, hk, rfl, HC, HS, HR, HI⟩ := hrel
    have hcl : 0 ≤ c ∧ c < 1000 := by have := HC.out; omega
    obtain ⟨hcl0, hcl1⟩ := hcl
    obtain ⟨c2, hc2⟩ : ∃ x, c + 1 = x := ⟨_, rfl⟩
    have HC2 : Hid (c + 1 = c2) := Lib.hid hc2
    clear hc2
    obtain ⟨d0, d1⟩ := HRX.out.below HI.out.2
    have HL := Lib.hid HS.out.1
    by_cases hlt : k < bn
    · have hkl : k < rows.length := by rw [hbn.out]; exact hlt
      obtain ⟨⟨b, o, hA, hi0⟩, hok⟩ := HBB.out.below HI.out.2 k hkl
      subst hA
      have HRN := Kp.mk ((chRows_step (h := S) hkl).symm.trans HR.1)
      have HOK := Lib.hid (okr.out k hkl)
      obtain ⟨R, hR⟩ : ∃ R, rows.getD k noRow = R := ⟨_, rfl⟩
      rw [hR] at hi0 hok HRN HOK
      obtain ⟨p, rn, rc, xs⟩ := R
      have HXL := Lib.hid hok.1
      have HX := Lib.hid hok.2
      dsimp only [Row.val] at hi0 HRN HOK
      have HTk := Lib.hid HI.out.1
      clear hR hok hkl
      go_wp2_with fail
      have HTd := Lib.hid (HTk.out.below (Below.refl _ _).drew)
      have hS0 : wr.drew.heap[a]? = some (.cells (tcs S c) 204 (0, 0)) ∧ wr.drew.cell? ⟨w.heap.size + 1, 0, none⟩ = some (.slice Y yn yc) ∧ wr.drew.cell? ⟨w.heap.size + 1, 1, none⟩ = some (.slice (some ⟨b, o, none⟩) bn bc) ∧ wr.drew.cell? ⟨b, o + k, none⟩ = some (.slice p rn rc) := ⟨HTd.out, d0, d1, hi0⟩
      refine wp_region_T (S := fun w' => w'.heap[a]? = some (.cells (tcs S c) 204 (0, 0)) ∧ w'.cell? ⟨w.heap.size + 1, 0, none⟩ = some (.slice Y yn yc) ∧ w'.cell? ⟨w.heap.size + 1, 1, none⟩ = some (.slice (some ⟨b, o, none⟩) bn bc) ∧ w'.cell? ⟨b, o + k, none⟩ = some (.slice p rn rc)) (E := [8, 9, 10]) (by kernel_rfl) (hS0) (fun hHeld => ?_)
      refine wpT_take (i := 0) (oi := _) (v := (.agg (tcs S c))) rfl (by kernel_rfl) (by kernel_rfl) (by kernel_rfl) (by kernel_rfl) (fun _ _ _ h => h) (Or.inl ⟨by rfl, yields_row 204 _ rfl a rfl _ _ _ _ (fun _ h => h.1) Tryz.underlying204 rfl (tr_info HL.out)⟩) (by assumption) ?_
      try simp only [qq1, qq2, qq3, Act.put, qq4, qq5, qq6]
      refine tkV 1 ?_
      try simp only [qq1, qq2, qq3, Act.put, qq4, qq5, qq6]
      refine tkV 2 ?_
      try simp only [qq1, qq2, qq3, Act.put, qq4, qq5, qq6]
      refine tkV 3 ?_
      try simp only [qq1, qq2, qq3, Act.put, qq4, qq5, qq6]
      refine tkV 4 ?_
      try simp only [qq1, qq2, qq3, Act.put, qq4, qq5, qq6]
      refine tkV 5 ?_
      try simp only [qq1, qq2, qq3, Act.put, qq4, qq5, qq6]
      refine wpT_one (i := 6) (by kernel_rfl) rfl (fun K hK => ?_)
      go_simp
      refine (rints_st W a S HS c hcl0 hcl1 lbBases (by decide) labBases p xs rn rc HXL HOK _ (Lib.hid (HX.out.below (Below.refl _ _).drew))).mono ?_
      rintro e w6 ⟨rfl, hb6⟩
      obtain ⟨S', hS'⟩ : ∃ S', absL S (bys lbBases) xs = S' := ⟨_, rfl⟩
      have HS' : Hid (St32 S') := Lib.hid (by rw [← hS']; exact st_abs _ _ _)
      have HRR : Kp (chRows S' (rows.drop (k + 1)) = S3) := ⟨by rw [← hS']; exact HRN.1⟩
      rw [hS', HC2.out, show TrE S' c2 0 = .tuple #[.agg (tcs S' c2), .int .i64 0] from rfl]
      have HL6 := Lib.hid HS'.out.1
      have HT6 := Lib.hid (HTd.out.below hb6)
      have HW6 : Hid (w6.cell? ⟨w.heap.size + 1, 0, none⟩ = some (.slice Y yn yc) ∧ w6.cell? ⟨w.heap.size + 1, 1, none⟩ = some (.slice (some ⟨b, o, none⟩) bn bc) ∧ w6.cell? ⟨b, o + k, none⟩ = some (.slice p rn rc)) := Lib.hid ⟨cell_below hS0.2.1 hb6, cell_below hS0.2.2.1 hb6, cell_below hS0.2.2.2 hb6⟩
      replace hb6 := below_ext ((Below.refl wr.heap.size wr).drew) hb6
      clear hS'
      refine hK.out _ _ ?_ (fun hHeld => ?_)
      · exact ⟨HT6.out, HW6.out⟩
      clear hK K
      try simp only [qq1, qq2, qq3, Act.put, qq4, qq5, qq6]
      refine tkV 7 ?_
      try simp only [qq1, qq2, qq3, Act.put, qq4, qq5, qq6]
      refine wpT_twoE (i1 := 8) (i2 := 9) (by kernel_rfl) (by simp) (by simp) rfl rfl (fun K hK => ?_) (fun K hK => ?_)
      · skip
        go_simp
        refine hK.out _ _ ?_
        clear hK K
        try simp only [qq1, qq2, qq3, Act.put, qq4, qq5, qq6]
        refine wpT_twoE (i1 := 9) (i2 := 10) (by kernel_rfl) (by simp) (by simp) rfl rfl (fun K hK => ?_) (fun K hK => ?_)
        · skip
          go_simp
          refine hK.out _ _ ?_
          clear hK K
          try simp only [qq1, qq2, qq3, Act.put, qq4, qq5, qq6]
          refine wpT_pass (i := 10) (by kernel_rfl) (by simp) rfl (fun K hK => ?_)
          rw [show (if Region.wanted _ _ = true then _ else _ : Prop) = _ from if_pos rfl]
          refine wp_store_row 204 _ _ rfl a (tcs S' c2) rfl rfl 204 _ HT6.out (tr_info HL6.out) (tcs_sz HL.out HL6.out) (tcs_one _ _) ?_
          refine hK.out _ _ ?_
          clear hK K
          try simp only [qq1, qq2, qq3, Act.put, qq4, qq5, qq6]
          refine wpT_done (by kernel_rfl) ?_ _
          have HI6 := Lib.hid (HI.out.step (h' := S') (c' := c2) hb6 hWa)
          obtain ⟨W6, hW6⟩ : ∃ u, w6.setRow a (tcs S' c2) = u := ⟨_, rfl⟩
          rw [hW6] at HI6 ⊢
          have HC3 : Hid (c2 = 2 + ((k + 1 : Nat) : Int)) := Lib.hid (by have := HC.out; have := HC2.out; omega)
          clear hb6 hW6 hS0 hi0 d0 d1 HT6 HRN
          go_wp2
          go_roundw
          case rel => exact ⟨k + 1, S', c2, by omega, by go_num, HC3, HS', HRR, HI6⟩
          case measure => simp [intOf]; omega
        · skip
          rw [show (if Region.wanted _ _ = true then _ else _ : Prop) = _ from if_pos rfl]
          refine wp_store_row 204 _ _ rfl a (tcs S' c2) rfl rfl 204 _ HT6.out (tr_info HL6.out) (tcs_sz HL.out HL6.out) (tcs_one _ _) ?_
          refine hK.out _ _ ?_
          clear hK K
          try simp only [qq1, qq2, qq3, Act.put, qq4, qq5, qq6]
          refine wpT_pass (i := 9) (by kernel_rfl) (by simp) rfl (fun K hK => ?_)
          go_simp
          refine hK.out _ _ ?_
          clear hK K
          try simp only [qq1, qq2, qq3, Act.put, qq4, qq5, qq6]
          refine wpT_done (by kernel_rfl) ?_ _
          have HI6 := Lib.hid (HI.out.step (h' := S') (c' := c2) hb6 hWa)
          obtain ⟨W6, hW6⟩ : ∃ u, w6.setRow a (tcs S' c2) = u := ⟨_, rfl⟩
          rw [hW6] at HI6 ⊢
          have HC3 : Hid (c2 = 2 + ((k + 1 : Nat) : Int)) := Lib.hid (by have := HC.out; have := HC2.out; omega)
          clear hb6 hW6 hS0 hi0 d0 d1 HT6 HRN
          go_wp2
          go_roundw
          case rel => exact ⟨k + 1, S', c2, by omega, by go_num, HC3, HS', HRR, HI6⟩
          case measure => simp [intOf]; omega
      · skip
        go_simp
        refine hK.out _ _ ?_
        clear hK K
        try simp only [qq1, qq2, qq3, Act.put, qq4, qq5, qq6]
        refine wpT_pass (i := 8) (by kernel_rfl) (by simp) rfl (fun K hK => ?_)
        go_simp
        refine hK.out _ _ ?_
        clear hK K
        try simp only [qq1, qq2, qq3, Act.put, qq4, qq5, qq6]
        refine wpT_pass (i := 10) (by kernel_rfl) (by simp) rfl (fun K hK => ?_)
        rw [show (if Region.wanted _ _ = true then _ else _ : Prop) = _ from if_pos rfl]
        refine wp_store_row 204 _ _ rfl a (tcs S' c2) rfl rfl 204 _ HT6.out (tr_info HL6.out) (tcs_sz HL.out HL6.out) (tcs_one _ _) ?_
        refine hK.out _ _ ?_
        clear hK K
        try simp only [qq1, qq2, qq3, Act.put, qq4, qq5, qq6]
        refine wpT_done (by kernel_rfl) ?_ _
        have HI6 := Lib.hid (HI.out.step (h' := S') (c' := c2) hb6 hWa)
        obtain ⟨W6, hW6⟩ : ∃ u, w6.setRow a (tcs S' c2) = u := ⟨_, rfl⟩
        rw [hW6] at HI6 ⊢
        have HC3 : Hid (c2 = 2 + ((k + 1 : Nat) : Int)) := Lib.hid (by have := HC.out; have := HC2.out; omega)
        clear hb6 hW6 hS0 hi0 d0 d1 HT6 HRN
        go_wp2
        go_roundw
        case rel => exact ⟨k + 1, S', c2, by omega, by go_num, HC3, HS', HRR, HI6⟩
        case measure => simp [intOf]; omega
    · obtain rfl : k = bn := by omega
      have hd : rows.drop k = [] := List.drop_of_length_le (by rw [hbn.out]; exact Nat.le_refl _)
      have HSE : Kp (S = S3) := ⟨by have h := HR.1; rwa [hd] at h⟩
      have HV4 : Kp (chN Q (absL S (bys lbCommit) al) (bys lbCh) = V) := ⟨by rw [HSE.1]; exact HV3.1⟩
      clear hd HR HSE HV3 hlt
      have HTk := Lib.hid HI.out.1
      go_wp2_with ((with_reducible show wpList _ _ _ (⟨some 53, _, _, _, _, _⟩ :: _) _ _); refine wpList_load_row rfl 204 _ rfl a rfl _ _ _ _ HTk.out Tryz.underlying204 rfl (tr_info HL.out) ?_)
      refine (rints_st W a S HS c hcl0 hcl1 lbCommit (by decide) labCommit A al na ca hna oka _ (Lib.hid (HAA.out.below HI.out.2))).mono ?_
      rintro e w6 ⟨rfl, hb6⟩
      obtain ⟨S4, hS4⟩ : ∃ S', absL S (bys lbCommit) al = S' := ⟨_, rfl⟩
      have HS4 : Hid (St32 S4) := Lib.hid (by rw [← hS4]; exact st_abs _ _ _)
      have HV5 : Kp (chN Q S4 (bys lbCh) = V) := ⟨by rw [← hS4]; exact HV4.1⟩
      rw [hS4, HC2.out, show TrE S4 c2 0 = .tuple #[.agg (tcs S4 c2), .int .i64 0] from rfl]
      have HL4 := Lib.hid HS4.out.1
      have HT6 := Lib.hid (HI.out.1.below hb6)
      have HI6 := Lib.hid (HI.out.step (h' := S4) (c' := c2) hb6 hWa)
      clear hb6 hS4 HV4 HI HTk d0 d1
      go_upto_region 9 with ((with_reducible show wpList _ _ _ (⟨none, _, _, _, _, _⟩ :: _) _ _); refine wpList_store_row rfl 204 _ _ rfl a (tcs S4 c2) rfl rfl _ _ HT6.out (tr_info HL4.out) (tcs_sz HL.out HL4.out) (tcs_one _ _) ?_)
      obtain ⟨W6, hW6⟩ : ∃ u, w6.setRow a (tcs S4 c2) = u := ⟨_, rfl⟩
      rw [hW6] at HI6 ⊢
      clear hW6 HT6
      obtain ⟨g0, g1, g2⟩ := HGX.out.below HI6.out.2
      have HT7 := Lib.hid HI6.out.1
      go_wp2_with ((with_reducible show wpList _ _ _ (⟨some 59, _, _, _, _, _⟩ :: _) _ _); refine wpList_load_row rfl 204 _ rfl a rfl _ _ _ _ HT7.out Tryz.underlying204 rfl (tr_info HL4.out) ?_)
      refine (rchal_ok S4 HL4 (Lib.hid HS4.out.2) c2 (by have := HC2.out; omega) (by have := HC.out; have := HC2.out; omega) lbCh (by decide) labCh Q hQ1 hQ2 _).mono ?_
      rintro e w7 ⟨rfl, hb7⟩
      obtain ⟨G4, hG4⟩ : ∃ G4, chL Q S4 (bys lbCh) = G4 := ⟨_, rfl⟩
      have HG4 : Hid (G4.length = 32) := Lib.hid (by rw [← hG4]; exact abL_len _ _ _)
      obtain ⟨c3, hc3⟩ : ∃ x, c2 + 1 = x := ⟨_, rfl⟩
      rw [hG4, HV5.1, hc3, show ChE G4 c3 V 0 = .tuple #[.agg (tcs G4 c3), .int .i64 V, .int .i64 0] from rfl]
      clear hc3
      have HB7 := Lib.hid (below_ext HBX.out (below_ext HI6.out.2 hb7))
      clear hb7 hG4 g0 g1 g2
      go_upto_region 10 with ((with_reducible show wpList _ _ _ (⟨none, _, _, _, _, _⟩ :: _) _ _); refine wpList_store_row rfl 204 _ _ rfl w7.heap.size (tcs G4 c3) rfl rfl _ _ (heap_alloc_new _ _) (tr_info HG4.out) (tcs_sz (h := zer 32) (c := 0) rfl HG4.out) (tcs_one _ _) ?_)
      rw [World.setRow_alloc_new]
      try simp only [Act.put]
      have hBF := below_ext HB7.out (below_box0 w7 (.cells (tcs G4 c3) 204))
      go_wp2
      go_ret
      exact ⟨rfl, hBF⟩
end Go.Proofs.YtjnoaejikapmdaaGreatDoor
namespace Go.Proofs.YtjnoaejikapmdaaGreatDoor
open Go.RowKit SpM
set_option linter.unusedVariables false
theorem modL (x y P : Int) : (x % P) * y % P = x * y % P := by rw [Int.mul_emod, Int.emod_emod, ← Int.mul_emod]
theorem modR (x y P : Int) : x * (y % P) % P = x * y % P := by rw [Int.mul_emod, Int.emod_emod, ← Int.mul_emod]
theorem pw_undo {P Q y n : Int} (hP : 2 ≤ P) (hQ : 1 ≤ Q) (hn0 : 0 ≤ n) (hn1 : n < Q) (hy : memG P Q y = true) : pw y n P * pw y ((Q - n) % Q) P % P = 1 := by
  have hyQ : pw y Q P = 1 := memG_pw hy
  rw [← pw_mod hP hQ (by omega) hyQ, ← pw_add _ _ _ _ hn0 (by omega)]
  have e : n + (Q - n) = Q := by omega
  rw [e, hyQ]
end Go.Proofs.YtjnoaejikapmdaaGreatDoor
namespace Go.Proofs.YtjnoaejikapmdaaGreatDoor
open Go.RowKit SpM
set_option linter.unusedVariables false
set_option linter.unusedSimpArgs false
set_option maxRecDepth 100000
set_option maxHeartbeats 12800000 in
theorem rck_v (P Q G : Int) (Y : Option Addr) (ys : List Int) (yn yc : Nat) (B : Option Addr) (rows : List Row) (bn bc : Nat) (A : Option Addr) (al : List Int) (na ca : Nat) (C : Int) (Z : Option Addr) (zs : List Int) (nz cz : Nat) (hyn : Hid (ys.length = yn)) (hbn : Hid (rows.length = bn)) (han : Hid (al.length = na)) (hzn : Hid (zs.length = nz)) (hna : na < 1000000) (hnz : nz < 1000000) (hQ : Q < 9223372036854775808) (HVL : Hid (validR P Q G ys rows = false)) (w : World) (hY : Hid (Sl w Y ys)) (hB : Hid (Rw w B rows)) (hA : Hid (Sl w A al)) (hZ : Hid (Sl w Z zs)) :
    Calls Tryz.prog 149 #[gv P Q G, relV Y yn yc B bn bc, prvL A na ca C Z nz cz] w fun e' w' => e' = .returned (.bool false) ∧ Below w.heap.size w w' := by
  obtain ⟨w0, HW, HBw, kC⟩ := stz5 P Q G Y yn yc B bn bc A na ca C Z nz cz w
  have kY := Lib.hid (show ∀ u : World, Hid (Below w0.heap.size w0 u) → Hid (Sl u Y ys) from fun u h => Lib.hid ((hY.out.below) (below_ext HBw.out h.out)))
  have kB := Lib.hid (show ∀ u : World, Hid (Below w0.heap.size w0 u) → Hid (Rw u B rows) from fun u h => Lib.hid ((hB.out.below) (below_ext HBw.out h.out)))
  have kA := Lib.hid (show ∀ u : World, Hid (Below w0.heap.size w0 u) → Hid (Sl u A al) from fun u h => Lib.hid ((hA.out.below) (below_ext HBw.out h.out)))
  have kZ := Lib.hid (show ∀ u : World, Hid (Below w0.heap.size w0 u) → Hid (Sl u Z zs) from fun u h => Lib.hid ((hZ.out.below) (below_ext HBw.out h.out)))
  have HB_0 : Hid (Below w0.heap.size w0 w0) := Lib.hid (Below.refl _ _)
  clear hY hB hA hZ
  go_enter Tryz.func149, Tryz.ntmps149
  go_wp2_with fail
  rw [HW.out]
  obtain ⟨zc0, zc1, zc2, zc3, zc4, zc5, zc6, zc7⟩ := kC.out _ HB_0
  clear zc0 zc1 zc2 zc3 zc4 zc5 zc6 zc7
  have hS := Lib.hid (show ∀ u1 u2 : World, Hid (Below w0.heap.size w0 u1) → Below u1.heap.size u1 u2 → (u2.cell? ⟨w.heap.size, 0, none⟩ = some (.int .i64 P) ∧ u2.cell? ⟨w.heap.size, 1, none⟩ = some (.int .i64 Q) ∧ u2.cell? ⟨w.heap.size, 2, none⟩ = some (.int .i64 G) ∧ u2.cell? ⟨w.heap.size + 1, 0, none⟩ = some (.slice Y yn yc) ∧ u2.cell? ⟨w.heap.size + 1, 1, none⟩ = some (.slice B bn bc) ∧ u2.cell? ⟨w.heap.size + 2, 0, none⟩ = some (.slice A na ca) ∧ u2.cell? ⟨w.heap.size + 2, 1, none⟩ = some (.int .i64 C) ∧ u2.cell? ⟨w.heap.size + 2, 2, none⟩ = some (.slice Z nz cz) ∧ Hid (Below w0.heap.size w0 u2)) from fun u1 u2 h1 h2 => by
    have h3 := Lib.hid (below_ext h1.out h2)
    obtain ⟨y0, y1, y2, y3, y4, y5, y6, y7⟩ := kC.out _ h3
    exact ⟨y0, y1, y2, y3, y4, y5, y6, y7, h3⟩)
  refine wp_region_T (S := fun w' => w'.cell? ⟨w.heap.size, 0, none⟩ = some (.int .i64 P) ∧ w'.cell? ⟨w.heap.size, 1, none⟩ = some (.int .i64 Q) ∧ w'.cell? ⟨w.heap.size, 2, none⟩ = some (.int .i64 G) ∧ w'.cell? ⟨w.heap.size + 1, 0, none⟩ = some (.slice Y yn yc) ∧ w'.cell? ⟨w.heap.size + 1, 1, none⟩ = some (.slice B bn bc) ∧ w'.cell? ⟨w.heap.size + 2, 0, none⟩ = some (.slice A na ca) ∧ w'.cell? ⟨w.heap.size + 2, 1, none⟩ = some (.int .i64 C) ∧ w'.cell? ⟨w.heap.size + 2, 2, none⟩ = some (.slice Z nz cz) ∧ Hid (Below w0.heap.size w0 w')) (E := []) (by kernel_rfl) (hS.out _ _ HB_0 ((Below.refl _ _).drew)) (fun hHeld => ?_)
  refine tkV 0 ?_
  try simp only [qq1, qq2, qq3, Act.put, qq4, qq5, qq6]
  refine tkV 1 ?_
  try simp only [qq1, qq2, qq3, Act.put, qq4, qq5, qq6]
  refine wpT_one (i := 2) (by kernel_rfl) rfl (fun K hK => ?_)
  go_simp
  (with_reducible refine (rvalid17_any P Q G Y ys yn yc B rows bn bc false HVL hyn hbn hQ _ ?_ ?_).mono ?_); (go_split_ands; exact kY.out _ (by assumption)); (go_split_ands; exact kB.out _ (by assumption)); rintro e wA ⟨rfl, hbA⟩
  refine hK.out _ _ ?_ (fun hHeld => ?_)
  · (go_split_ands; exact hS.out _ _ (by assumption) hbA)
  clear hK K
  try simp only [qq1, qq2, qq3, Act.put, qq4, qq5, qq6]
  refine tkV 3 ?_
  try simp only [qq1, qq2, qq3, Act.put, qq4, qq5, qq6]
  refine tkV 4 ?_
  try simp only [qq1, qq2, qq3, Act.put, qq4, qq5, qq6]
  refine tkU 5 ?_
  try simp only [qq1, qq2, qq3, Act.put, qq4, qq5, qq6]
  refine tkU 6 ?_
  try simp only [qq1, qq2, qq3, Act.put, qq4, qq5, qq6]
  refine tkU 7 ?_
  try simp only [qq1, qq2, qq3, Act.put, qq4, qq5, qq6]
  refine tkU 8 ?_
  try simp only [qq1, qq2, qq3, Act.put, qq4, qq5, qq6]
  refine tkU 9 ?_
  try simp only [qq1, qq2, qq3, Act.put, qq4, qq5, qq6]
  refine tkU 10 ?_
  try simp only [qq1, qq2, qq3, Act.put, qq4, qq5, qq6]
  refine tkU 11 ?_
  try simp only [qq1, qq2, qq3, Act.put, qq4, qq5, qq6]
  refine tkV 12 ?_
  try simp only [qq1, qq2, qq3, Act.put, qq4, qq5, qq6]
  refine tkV 13 ?_
  try simp only [qq1, qq2, qq3, Act.put, qq4, qq5, qq6]
  refine tkU 14 ?_
  try simp only [qq1, qq2, qq3, Act.put, qq4, qq5, qq6]
  refine tkU 15 ?_
  try simp only [qq1, qq2, qq3, Act.put, qq4, qq5, qq6]
  refine tkU 16 ?_
  try simp only [qq1, qq2, qq3, Act.put, qq4, qq5, qq6]
  refine tkU 17 ?_
  try simp only [qq1, qq2, qq3, Act.put, qq4, qq5, qq6]
  refine tkU 18 ?_
  try simp only [qq1, qq2, qq3, Act.put, qq4, qq5, qq6]
  refine tkU 19 ?_
  try simp only [qq1, qq2, qq3, Act.put, qq4, qq5, qq6]
  refine tkV 20 ?_
  try simp only [qq1, qq2, qq3, Act.put, qq4, qq5, qq6]
  refine tkV 21 ?_
  try simp only [qq1, qq2, qq3, Act.put, qq4, qq5, qq6]
  refine tkU 22 ?_
  try simp only [qq1, qq2, qq3, Act.put, qq4, qq5, qq6]
  refine tkU 23 ?_
  try simp only [qq1, qq2, qq3, Act.put, qq4, qq5, qq6]
  refine tkU 24 ?_
  try simp only [qq1, qq2, qq3, Act.put, qq4, qq5, qq6]
  refine tkU 25 ?_
  try simp only [qq1, qq2, qq3, Act.put, qq4, qq5, qq6]
  refine tkU 26 ?_
  try simp only [qq1, qq2, qq3, Act.put, qq4, qq5, qq6]
  refine tkV 27 ?_
  try simp only [qq1, qq2, qq3, Act.put, qq4, qq5, qq6]
  refine tkV 28 ?_
  try simp only [qq1, qq2, qq3, Act.put, qq4, qq5, qq6]
  refine tkU 29 ?_
  try simp only [qq1, qq2, qq3, Act.put, qq4, qq5, qq6]
  refine tkU 30 ?_
  try simp only [qq1, qq2, qq3, Act.put, qq4, qq5, qq6]
  refine tkU 31 ?_
  try simp only [qq1, qq2, qq3, Act.put, qq4, qq5, qq6]
  refine tkU 32 ?_
  try simp only [qq1, qq2, qq3, Act.put, qq4, qq5, qq6]
  refine tkU 33 ?_
  try simp only [qq1, qq2, qq3, Act.put, qq4, qq5, qq6]
  refine tkU 34 ?_
  try simp only [qq1, qq2, qq3, Act.put, qq4, qq5, qq6]
  refine tkV 35 ?_
  try simp only [qq1, qq2, qq3, Act.put, qq4, qq5, qq6]
  refine wpT_done (by kernel_rfl) ?_ _
  obtain ⟨x0, x1, x2, x3, x4, x5, x6, x7, HBF⟩ := hHeld
  have hbF := below_ext HBw.out HBF.out
  clear x0 x1 x2 x3 x4 x5 x6 x7
  go_wp2
  go_ret
  exact ⟨rfl, hbF⟩
set_option maxHeartbeats 12800000 in
theorem rck_a (P Q G : Int) (Y : Option Addr) (ys : List Int) (n yc : Nat) (B : Option Addr) (rows : List Row) (bc : Nat) (A : Option Addr) (al : List Int) (na ca : Nat) (C : Int) (Z : Option Addr) (zs : List Int) (nz cz : Nat) (HVL : Hid (validR P Q G ys rows = true)) (hyn : Hid (ys.length = n)) (hbn : Hid (rows.length = n)) (han : Hid (al.length = na)) (hzn : Hid (zs.length = nz)) (hna : na < 1000000) (hnz : nz < 1000000) (hQ : Q < 9223372036854775808) (hne : na ≠ n) (w : World) (hY : Hid (Sl w Y ys)) (hB : Hid (Rw w B rows)) (hA : Hid (Sl w A al)) (hZ : Hid (Sl w Z zs)) :
    Calls Tryz.prog 149 #[gv P Q G, relV Y n yc B n bc, prvL A na ca C Z nz cz] w fun e' w' => e' = .returned (.bool false) ∧ Below w.heap.size w w' := by
  obtain ⟨v1, v2, v3, v4, v5, v6, v7, v8⟩ := validR_parts HVL.out
  have hnp : 0 < n := by rw [← hyn.out]; omega
  obtain ⟨nu, hnu⟩ : ∃ k, rowN rows = k := ⟨_, rfl⟩
  have HN := Lib.hid hnu
  clear v1 v2 v3 v4 v5 v6 v7 v8 hnu
  have e1 : ((na : Int) != (n : Int)) = true := by simp; omega
  obtain ⟨w0, HW, HBw, kC⟩ := stz4 P Q G Y n yc B bc A na ca C Z nz cz w
  have kY := Lib.hid (show ∀ u : World, Hid (Below w0.heap.size w0 u) → Hid (Sl u Y ys) from fun u h => Lib.hid ((hY.out.below) (below_ext HBw.out h.out)))
  have kB := Lib.hid (show ∀ u : World, Hid (Below w0.heap.size w0 u) → Hid (Rw u B rows) from fun u h => Lib.hid ((hB.out.below) (below_ext HBw.out h.out)))
  have kA := Lib.hid (show ∀ u : World, Hid (Below w0.heap.size w0 u) → Hid (Sl u A al) from fun u h => Lib.hid ((hA.out.below) (below_ext HBw.out h.out)))
  have kZ := Lib.hid (show ∀ u : World, Hid (Below w0.heap.size w0 u) → Hid (Sl u Z zs) from fun u h => Lib.hid ((hZ.out.below) (below_ext HBw.out h.out)))
  have HB_0 : Hid (Below w0.heap.size w0 w0) := Lib.hid (Below.refl _ _)
  clear hY hB hA hZ
  go_enter Tryz.func149, Tryz.ntmps149
  go_wp2_with fail
  rw [HW.out]
  obtain ⟨zc0, zc1, zc2, zc3, zc4, zc5, zc6, zc7⟩ := kC.out _ HB_0
  clear zc0 zc1 zc2 zc3 zc4 zc5 zc6 zc7
  have hS := Lib.hid (show ∀ u1 u2 : World, Hid (Below w0.heap.size w0 u1) → Below u1.heap.size u1 u2 → (u2.cell? ⟨w.heap.size, 0, none⟩ = some (.int .i64 P) ∧ u2.cell? ⟨w.heap.size, 1, none⟩ = some (.int .i64 Q) ∧ u2.cell? ⟨w.heap.size, 2, none⟩ = some (.int .i64 G) ∧ u2.cell? ⟨w.heap.size + 1, 0, none⟩ = some (.slice Y n yc) ∧ u2.cell? ⟨w.heap.size + 1, 1, none⟩ = some (.slice B n bc) ∧ u2.cell? ⟨w.heap.size + 2, 0, none⟩ = some (.slice A na ca) ∧ u2.cell? ⟨w.heap.size + 2, 1, none⟩ = some (.int .i64 C) ∧ u2.cell? ⟨w.heap.size + 2, 2, none⟩ = some (.slice Z nz cz) ∧ Hid (Below w0.heap.size w0 u2)) from fun u1 u2 h1 h2 => by
    have h3 := Lib.hid (below_ext h1.out h2)
    obtain ⟨y0, y1, y2, y3, y4, y5, y6, y7⟩ := kC.out _ h3
    exact ⟨y0, y1, y2, y3, y4, y5, y6, y7, h3⟩)
  refine wp_region_T (S := fun w' => w'.cell? ⟨w.heap.size, 0, none⟩ = some (.int .i64 P) ∧ w'.cell? ⟨w.heap.size, 1, none⟩ = some (.int .i64 Q) ∧ w'.cell? ⟨w.heap.size, 2, none⟩ = some (.int .i64 G) ∧ w'.cell? ⟨w.heap.size + 1, 0, none⟩ = some (.slice Y n yc) ∧ w'.cell? ⟨w.heap.size + 1, 1, none⟩ = some (.slice B n bc) ∧ w'.cell? ⟨w.heap.size + 2, 0, none⟩ = some (.slice A na ca) ∧ w'.cell? ⟨w.heap.size + 2, 1, none⟩ = some (.int .i64 C) ∧ w'.cell? ⟨w.heap.size + 2, 2, none⟩ = some (.slice Z nz cz) ∧ Hid (Below w0.heap.size w0 w')) (E := []) (by kernel_rfl) (hS.out _ _ HB_0 ((Below.refl _ _).drew)) (fun hHeld => ?_)
  refine tkV 0 ?_
  try simp only [qq1, qq2, qq3, Act.put, qq4, qq5, qq6]
  refine tkV 1 ?_
  try simp only [qq1, qq2, qq3, Act.put, qq4, qq5, qq6]
  refine wpT_one (i := 2) (by kernel_rfl) rfl (fun K hK => ?_)
  go_simp
  (with_reducible refine (rvalid17_any P Q G Y ys n yc B rows n bc true HVL hyn hbn hQ _ ?_ ?_).mono ?_); (go_split_ands; exact kY.out _ (by assumption)); (go_split_ands; exact kB.out _ (by assumption)); rintro e wA ⟨rfl, hbA⟩
  refine hK.out _ _ ?_ (fun hHeld => ?_)
  · (go_split_ands; exact hS.out _ _ (by assumption) hbA)
  clear hK K
  try simp only [qq1, qq2, qq3, Act.put, qq4, qq5, qq6]
  refine tkV 3 ?_
  try simp only [qq1, qq2, qq3, Act.put, qq4, qq5, qq6]
  refine tkV 4 ?_
  try simp only [qq1, qq2, qq3, Act.put, qq4, qq5, qq6]
  refine tkV 5 ?_
  try simp only [qq1, qq2, qq3, Act.put, qq4, qq5, qq6]
  refine tkV 6 ?_
  try simp only [qq1, qq2, qq3, Act.put, qq4, qq5, qq6]
  refine tkV 7 ?_
  try simp only [qq1, qq2, qq3, Act.put, qq4, qq5, qq6]
  refine tkV 8 ?_
  try simp only [qq1, qq2, qq3, Act.put, qq4, qq5, qq6]
  refine tkV 9 ?_
  try simp only [qq1, qq2, qq3, Act.put, qq4, qq5, qq6]
  refine tkV 10 ?_
  try simp only [qq1, qq2, qq3, Act.put, qq4, qq5, qq6]
  refine tkV 11 ?_
  try simp only [qq1, qq2, qq3, Act.put, qq4, qq5, qq6]
  refine tkV 12 ?_
  try simp only [qq1, qq2, qq3, Act.put, qq4, qq5, qq6]
  refine tkV 13 ?_
  try simp only [qq1, qq2, qq3, Act.put, qq4, qq5, qq6]
  refine tkU 14 ?_
  try simp only [qq1, qq2, qq3, Act.put, qq4, qq5, qq6]
  refine tkU 15 ?_
  try simp only [qq1, qq2, qq3, Act.put, qq4, qq5, qq6]
  refine tkU 16 ?_
  try simp only [qq1, qq2, qq3, Act.put, qq4, qq5, qq6]
  refine tkU 17 ?_
  try simp only [qq1, qq2, qq3, Act.put, qq4, qq5, qq6]
  refine tkU 18 ?_
  try simp only [qq1, qq2, qq3, Act.put, qq4, qq5, qq6]
  refine tkU 19 ?_
  try simp only [qq1, qq2, qq3, Act.put, qq4, qq5, qq6]
  refine tkV 20 ?_
  try simp only [qq1, qq2, qq3, Act.put, qq4, qq5, qq6]
  refine tkV 21 ?_
  try simp only [qq1, qq2, qq3, Act.put, qq4, qq5, qq6]
  refine tkU 22 ?_
  try simp only [qq1, qq2, qq3, Act.put, qq4, qq5, qq6]
  refine tkU 23 ?_
  try simp only [qq1, qq2, qq3, Act.put, qq4, qq5, qq6]
  refine tkU 24 ?_
  try simp only [qq1, qq2, qq3, Act.put, qq4, qq5, qq6]
  refine tkU 25 ?_
  try simp only [qq1, qq2, qq3, Act.put, qq4, qq5, qq6]
  refine tkU 26 ?_
  try simp only [qq1, qq2, qq3, Act.put, qq4, qq5, qq6]
  refine tkV 27 ?_
  try simp only [qq1, qq2, qq3, Act.put, qq4, qq5, qq6]
  refine tkV 28 ?_
  try simp only [qq1, qq2, qq3, Act.put, qq4, qq5, qq6]
  refine tkU 29 ?_
  try simp only [qq1, qq2, qq3, Act.put, qq4, qq5, qq6]
  refine tkU 30 ?_
  try simp only [qq1, qq2, qq3, Act.put, qq4, qq5, qq6]
  refine tkU 31 ?_
  try simp only [qq1, qq2, qq3, Act.put, qq4, qq5, qq6]
  refine tkU 32 ?_
  try simp only [qq1, qq2, qq3, Act.put, qq4, qq5, qq6]
  refine tkU 33 ?_
  try simp only [qq1, qq2, qq3, Act.put, qq4, qq5, qq6]
  refine tkU 34 ?_
  try simp only [qq1, qq2, qq3, Act.put, qq4, qq5, qq6]
  refine tkV 35 ?_
  try simp only [qq1, qq2, qq3, Act.put, qq4, qq5, qq6]
  refine wpT_done (by kernel_rfl) ?_ _
  obtain ⟨x0, x1, x2, x3, x4, x5, x6, x7, HBF⟩ := hHeld
  have hbF := below_ext HBw.out HBF.out
  clear x0 x1 x2 x3 x4 x5 x6 x7
  go_wp2
  go_ret
  exact ⟨rfl, hbF⟩
set_option maxHeartbeats 12800000 in
theorem rck_b (P Q G : Int) (Y : Option Addr) (ys : List Int) (n yc : Nat) (B : Option Addr) (rows : List Row) (bc : Nat) (A : Option Addr) (al : List Int) (na ca : Nat) (C : Int) (Z : Option Addr) (zs : List Int) (nz cz : Nat) (HVL : Hid (validR P Q G ys rows = true)) (hyn : Hid (ys.length = n)) (hbn : Hid (rows.length = n)) (han : Hid (al.length = na)) (hzn : Hid (zs.length = nz)) (hna : na < 1000000) (hnz : nz < 1000000) (hQ : Q < 9223372036854775808) (heq : na = n) (hne : nz ≠ rowN rows) (w : World) (hY : Hid (Sl w Y ys)) (hB : Hid (Rw w B rows)) (hA : Hid (Sl w A al)) (hZ : Hid (Sl w Z zs)) :
    Calls Tryz.prog 149 #[gv P Q G, relV Y n yc B n bc, prvL A na ca C Z nz cz] w fun e' w' => e' = .returned (.bool false) ∧ Below w.heap.size w w' := by
  obtain ⟨v1, v2, v3, v4, v5, v6, v7, v8⟩ := validR_parts HVL.out
  have hnp : 0 < n := by rw [← hyn.out]; omega
  obtain ⟨nu, hnu⟩ : ∃ k, rowN rows = k := ⟨_, rfl⟩
  have HN := Lib.hid hnu
  clear v1 v2 v3 v4 v5 v6 v7 v8 hnu
  have e1 : ((na : Int) != (n : Int)) = false := by simp; omega
  have e2 : ((nz : Int) != (nu : Int)) = true := by have := HN.out; simp; omega
  clear heq hne
  obtain ⟨w0, HW, HBw, kC⟩ := stz4 P Q G Y n yc B bc A na ca C Z nz cz w
  have kY := Lib.hid (show ∀ u : World, Hid (Below w0.heap.size w0 u) → Hid (Sl u Y ys) from fun u h => Lib.hid ((hY.out.below) (below_ext HBw.out h.out)))
  have kB := Lib.hid (show ∀ u : World, Hid (Below w0.heap.size w0 u) → Hid (Rw u B rows) from fun u h => Lib.hid ((hB.out.below) (below_ext HBw.out h.out)))
  have kA := Lib.hid (show ∀ u : World, Hid (Below w0.heap.size w0 u) → Hid (Sl u A al) from fun u h => Lib.hid ((hA.out.below) (below_ext HBw.out h.out)))
  have kZ := Lib.hid (show ∀ u : World, Hid (Below w0.heap.size w0 u) → Hid (Sl u Z zs) from fun u h => Lib.hid ((hZ.out.below) (below_ext HBw.out h.out)))
  have HB_0 : Hid (Below w0.heap.size w0 w0) := Lib.hid (Below.refl _ _)
  clear hY hB hA hZ
  go_enter Tryz.func149, Tryz.ntmps149
  go_wp2_with fail
  rw [HW.out]
  obtain ⟨zc0, zc1, zc2, zc3, zc4, zc5, zc6, zc7⟩ := kC.out _ HB_0
  clear zc0 zc1 zc2 zc3 zc4 zc5 zc6 zc7
  have hS := Lib.hid (show ∀ u1 u2 : World, Hid (Below w0.heap.size w0 u1) → Below u1.heap.size u1 u2 → (u2.cell? ⟨w.heap.size, 0, none⟩ = some (.int .i64 P) ∧ u2.cell? ⟨w.heap.size, 1, none⟩ = some (.int .i64 Q) ∧ u2.cell? ⟨w.heap.size, 2, none⟩ = some (.int .i64 G) ∧ u2.cell? ⟨w.heap.size + 1, 0, none⟩ = some (.slice Y n yc) ∧ u2.cell? ⟨w.heap.size + 1, 1, none⟩ = some (.slice B n bc) ∧ u2.cell? ⟨w.heap.size + 2, 0, none⟩ = some (.slice A na ca) ∧ u2.cell? ⟨w.heap.size + 2, 1, none⟩ = some (.int .i64 C) ∧ u2.cell? ⟨w.heap.size + 2, 2, none⟩ = some (.slice Z nz cz) ∧ Hid (Below w0.heap.size w0 u2)) from fun u1 u2 h1 h2 => by
    have h3 := Lib.hid (below_ext h1.out h2)
    obtain ⟨y0, y1, y2, y3, y4, y5, y6, y7⟩ := kC.out _ h3
    exact ⟨y0, y1, y2, y3, y4, y5, y6, y7, h3⟩)
  refine wp_region_T (S := fun w' => w'.cell? ⟨w.heap.size, 0, none⟩ = some (.int .i64 P) ∧ w'.cell? ⟨w.heap.size, 1, none⟩ = some (.int .i64 Q) ∧ w'.cell? ⟨w.heap.size, 2, none⟩ = some (.int .i64 G) ∧ w'.cell? ⟨w.heap.size + 1, 0, none⟩ = some (.slice Y n yc) ∧ w'.cell? ⟨w.heap.size + 1, 1, none⟩ = some (.slice B n bc) ∧ w'.cell? ⟨w.heap.size + 2, 0, none⟩ = some (.slice A na ca) ∧ w'.cell? ⟨w.heap.size + 2, 1, none⟩ = some (.int .i64 C) ∧ w'.cell? ⟨w.heap.size + 2, 2, none⟩ = some (.slice Z nz cz) ∧ Hid (Below w0.heap.size w0 w')) (E := []) (by kernel_rfl) (hS.out _ _ HB_0 ((Below.refl _ _).drew)) (fun hHeld => ?_)
  refine tkV 0 ?_
  try simp only [qq1, qq2, qq3, Act.put, qq4, qq5, qq6]
  refine tkV 1 ?_
  try simp only [qq1, qq2, qq3, Act.put, qq4, qq5, qq6]
  refine wpT_one (i := 2) (by kernel_rfl) rfl (fun K hK => ?_)
  go_simp
  (with_reducible refine (rvalid17_any P Q G Y ys n yc B rows n bc true HVL hyn hbn hQ _ ?_ ?_).mono ?_); (go_split_ands; exact kY.out _ (by assumption)); (go_split_ands; exact kB.out _ (by assumption)); rintro e wA ⟨rfl, hbA⟩
  refine hK.out _ _ ?_ (fun hHeld => ?_)
  · (go_split_ands; exact hS.out _ _ (by assumption) hbA)
  clear hK K
  try simp only [qq1, qq2, qq3, Act.put, qq4, qq5, qq6]
  refine tkV 3 ?_
  try simp only [qq1, qq2, qq3, Act.put, qq4, qq5, qq6]
  refine tkV 4 ?_
  try simp only [qq1, qq2, qq3, Act.put, qq4, qq5, qq6]
  refine tkV 5 ?_
  try simp only [qq1, qq2, qq3, Act.put, qq4, qq5, qq6]
  refine tkV 6 ?_
  try simp only [qq1, qq2, qq3, Act.put, qq4, qq5, qq6]
  refine tkV 7 ?_
  try simp only [qq1, qq2, qq3, Act.put, qq4, qq5, qq6]
  refine tkV 8 ?_
  try simp only [qq1, qq2, qq3, Act.put, qq4, qq5, qq6]
  refine tkV 9 ?_
  try simp only [qq1, qq2, qq3, Act.put, qq4, qq5, qq6]
  refine tkV 10 ?_
  try simp only [qq1, qq2, qq3, Act.put, qq4, qq5, qq6]
  refine tkV 11 ?_
  try simp only [qq1, qq2, qq3, Act.put, qq4, qq5, qq6]
  refine tkV 12 ?_
  try simp only [qq1, qq2, qq3, Act.put, qq4, qq5, qq6]
  refine tkV 13 ?_
  try simp only [qq1, qq2, qq3, Act.put, qq4, qq5, qq6]
  refine tkV 14 ?_
  try simp only [qq1, qq2, qq3, Act.put, qq4, qq5, qq6]
  refine tkV 15 ?_
  try simp only [qq1, qq2, qq3, Act.put, qq4, qq5, qq6]
  refine tkV 16 ?_
  try simp only [qq1, qq2, qq3, Act.put, qq4, qq5, qq6]
  refine tkV 17 ?_
  try simp only [qq1, qq2, qq3, Act.put, qq4, qq5, qq6]
  refine wpT_one (i := 18) (by kernel_rfl) rfl (fun K hK => ?_)
  go_simp
  (with_reducible refine (runknowns_any Y n yc B rows n bc nu hbn hnp HN _ ?_).mono ?_); (go_split_ands; exact kB.out _ (by assumption)); rintro e wA ⟨rfl, hbA⟩
  refine hK.out _ _ ?_ (fun hHeld => ?_)
  · (go_split_ands; exact hS.out _ _ (by assumption) hbA)
  clear hK K
  try simp only [qq1, qq2, qq3, Act.put, qq4, qq5, qq6]
  refine tkV 19 ?_
  try simp only [qq1, qq2, qq3, Act.put, qq4, qq5, qq6]
  refine tkV 20 ?_
  try simp only [qq1, qq2, qq3, Act.put, qq4, qq5, qq6]
  refine tkV 21 ?_
  try simp only [qq1, qq2, qq3, Act.put, qq4, qq5, qq6]
  refine tkU 22 ?_
  try simp only [qq1, qq2, qq3, Act.put, qq4, qq5, qq6]
  refine tkU 23 ?_
  try simp only [qq1, qq2, qq3, Act.put, qq4, qq5, qq6]
  refine tkU 24 ?_
  try simp only [qq1, qq2, qq3, Act.put, qq4, qq5, qq6]
  refine tkU 25 ?_
  try simp only [qq1, qq2, qq3, Act.put, qq4, qq5, qq6]
  refine tkU 26 ?_
  try simp only [qq1, qq2, qq3, Act.put, qq4, qq5, qq6]
  refine tkV 27 ?_
  try simp only [qq1, qq2, qq3, Act.put, qq4, qq5, qq6]
  refine tkV 28 ?_
  try simp only [qq1, qq2, qq3, Act.put, qq4, qq5, qq6]
  refine tkU 29 ?_
  try simp only [qq1, qq2, qq3, Act.put, qq4, qq5, qq6]
  refine tkU 30 ?_
  try simp only [qq1, qq2, qq3, Act.put, qq4, qq5, qq6]
  refine tkU 31 ?_
  try simp only [qq1, qq2, qq3, Act.put, qq4, qq5, qq6]
  refine tkU 32 ?_
  try simp only [qq1, qq2, qq3, Act.put, qq4, qq5, qq6]
  refine tkU 33 ?_
  try simp only [qq1, qq2, qq3, Act.put, qq4, qq5, qq6]
  refine tkU 34 ?_
  try simp only [qq1, qq2, qq3, Act.put, qq4, qq5, qq6]
  refine tkV 35 ?_
  try simp only [qq1, qq2, qq3, Act.put, qq4, qq5, qq6]
  refine wpT_done (by kernel_rfl) ?_ _
  obtain ⟨x0, x1, x2, x3, x4, x5, x6, x7, HBF⟩ := hHeld
  have hbF := below_ext HBw.out HBF.out
  clear x0 x1 x2 x3 x4 x5 x6 x7
  go_wp2
  go_ret
  exact ⟨rfl, hbF⟩
set_option maxHeartbeats 12800000 in
theorem rck_c (P Q G : Int) (Y : Option Addr) (ys : List Int) (n yc : Nat) (B : Option Addr) (rows : List Row) (bc : Nat) (A : Option Addr) (al : List Int) (na ca : Nat) (C : Int) (Z : Option Addr) (zs : List Int) (nz cz : Nat) (HVL : Hid (validR P Q G ys rows = true)) (hyn : Hid (ys.length = n)) (hbn : Hid (rows.length = n)) (han : Hid (al.length = na)) (hzn : Hid (zs.length = nz)) (hna : na < 1000000) (hnz : nz < 1000000) (hQ : Q < 9223372036854775808) (heq : na = n) (heq2 : nz = rowN rows) (HZS : Hid (zs.all (scB Q) = false)) (w : World) (hY : Hid (Sl w Y ys)) (hB : Hid (Rw w B rows)) (hA : Hid (Sl w A al)) (hZ : Hid (Sl w Z zs)) :
    Calls Tryz.prog 149 #[gv P Q G, relV Y n yc B n bc, prvL A na ca C Z nz cz] w fun e' w' => e' = .returned (.bool false) ∧ Below w.heap.size w w' := by
  obtain ⟨v1, v2, v3, v4, v5, v6, v7, v8⟩ := validR_parts HVL.out
  have hnp : 0 < n := by rw [← hyn.out]; omega
  obtain ⟨nu, hnu⟩ : ∃ k, rowN rows = k := ⟨_, rfl⟩
  have HN := Lib.hid hnu
  clear v1 v2 v3 v4 v5 v6 v7 v8 hnu
  have e1 : ((na : Int) != (n : Int)) = false := by simp; omega
  have e2 : ((nz : Int) != (nu : Int)) = false := by have := HN.out; simp; omega
  clear heq heq2
  obtain ⟨w0, HW, HBw, kC⟩ := stz4 P Q G Y n yc B bc A na ca C Z nz cz w
  have kY := Lib.hid (show ∀ u : World, Hid (Below w0.heap.size w0 u) → Hid (Sl u Y ys) from fun u h => Lib.hid ((hY.out.below) (below_ext HBw.out h.out)))
  have kB := Lib.hid (show ∀ u : World, Hid (Below w0.heap.size w0 u) → Hid (Rw u B rows) from fun u h => Lib.hid ((hB.out.below) (below_ext HBw.out h.out)))
  have kA := Lib.hid (show ∀ u : World, Hid (Below w0.heap.size w0 u) → Hid (Sl u A al) from fun u h => Lib.hid ((hA.out.below) (below_ext HBw.out h.out)))
  have kZ := Lib.hid (show ∀ u : World, Hid (Below w0.heap.size w0 u) → Hid (Sl u Z zs) from fun u h => Lib.hid ((hZ.out.below) (below_ext HBw.out h.out)))
  have HB_0 : Hid (Below w0.heap.size w0 w0) := Lib.hid (Below.refl _ _)
  clear hY hB hA hZ
  go_enter Tryz.func149, Tryz.ntmps149
  go_wp2_with fail
  rw [HW.out]
  obtain ⟨zc0, zc1, zc2, zc3, zc4, zc5, zc6, zc7⟩ := kC.out _ HB_0
  clear zc0 zc1 zc2 zc3 zc4 zc5 zc6 zc7
  have hS := Lib.hid (show ∀ u1 u2 : World, Hid (Below w0.heap.size w0 u1) → Below u1.heap.size u1 u2 → (u2.cell? ⟨w.heap.size, 0, none⟩ = some (.int .i64 P) ∧ u2.cell? ⟨w.heap.size, 1, none⟩ = some (.int .i64 Q) ∧ u2.cell? ⟨w.heap.size, 2, none⟩ = some (.int .i64 G) ∧ u2.cell? ⟨w.heap.size + 1, 0, none⟩ = some (.slice Y n yc) ∧ u2.cell? ⟨w.heap.size + 1, 1, none⟩ = some (.slice B n bc) ∧ u2.cell? ⟨w.heap.size + 2, 0, none⟩ = some (.slice A na ca) ∧ u2.cell? ⟨w.heap.size + 2, 1, none⟩ = some (.int .i64 C) ∧ u2.cell? ⟨w.heap.size + 2, 2, none⟩ = some (.slice Z nz cz) ∧ Hid (Below w0.heap.size w0 u2)) from fun u1 u2 h1 h2 => by
    have h3 := Lib.hid (below_ext h1.out h2)
    obtain ⟨y0, y1, y2, y3, y4, y5, y6, y7⟩ := kC.out _ h3
    exact ⟨y0, y1, y2, y3, y4, y5, y6, y7, h3⟩)
  refine wp_region_T (S := fun w' => w'.cell? ⟨w.heap.size, 0, none⟩ = some (.int .i64 P) ∧ w'.cell? ⟨w.heap.size, 1, none⟩ = some (.int .i64 Q) ∧ w'.cell? ⟨w.heap.size, 2, none⟩ = some (.int .i64 G) ∧ w'.cell? ⟨w.heap.size + 1, 0, none⟩ = some (.slice Y n yc) ∧ w'.cell? ⟨w.heap.size + 1, 1, none⟩ = some (.slice B n bc) ∧ w'.cell? ⟨w.heap.size + 2, 0, none⟩ = some (.slice A na ca) ∧ w'.cell? ⟨w.heap.size + 2, 1, none⟩ = some (.int .i64 C) ∧ w'.cell? ⟨w.heap.size + 2, 2, none⟩ = some (.slice Z nz cz) ∧ Hid (Below w0.heap.size w0 w')) (E := []) (by kernel_rfl) (hS.out _ _ HB_0 ((Below.refl _ _).drew)) (fun hHeld => ?_)
  refine tkV 0 ?_
  try simp only [qq1, qq2, qq3, Act.put, qq4, qq5, qq6]
  refine tkV 1 ?_
  try simp only [qq1, qq2, qq3, Act.put, qq4, qq5, qq6]
  refine wpT_one (i := 2) (by kernel_rfl) rfl (fun K hK => ?_)
  go_simp
  (with_reducible refine (rvalid17_any P Q G Y ys n yc B rows n bc true HVL hyn hbn hQ _ ?_ ?_).mono ?_); (go_split_ands; exact kY.out _ (by assumption)); (go_split_ands; exact kB.out _ (by assumption)); rintro e wA ⟨rfl, hbA⟩
  refine hK.out _ _ ?_ (fun hHeld => ?_)
  · (go_split_ands; exact hS.out _ _ (by assumption) hbA)
  clear hK K
  try simp only [qq1, qq2, qq3, Act.put, qq4, qq5, qq6]
  refine tkV 3 ?_
  try simp only [qq1, qq2, qq3, Act.put, qq4, qq5, qq6]
  refine tkV 4 ?_
  try simp only [qq1, qq2, qq3, Act.put, qq4, qq5, qq6]
  refine tkV 5 ?_
  try simp only [qq1, qq2, qq3, Act.put, qq4, qq5, qq6]
  refine tkV 6 ?_
  try simp only [qq1, qq2, qq3, Act.put, qq4, qq5, qq6]
  refine tkV 7 ?_
  try simp only [qq1, qq2, qq3, Act.put, qq4, qq5, qq6]
  refine tkV 8 ?_
  try simp only [qq1, qq2, qq3, Act.put, qq4, qq5, qq6]
  refine tkV 9 ?_
  try simp only [qq1, qq2, qq3, Act.put, qq4, qq5, qq6]
  refine tkV 10 ?_
  try simp only [qq1, qq2, qq3, Act.put, qq4, qq5, qq6]
  refine tkV 11 ?_
  try simp only [qq1, qq2, qq3, Act.put, qq4, qq5, qq6]
  refine tkV 12 ?_
  try simp only [qq1, qq2, qq3, Act.put, qq4, qq5, qq6]
  refine tkV 13 ?_
  try simp only [qq1, qq2, qq3, Act.put, qq4, qq5, qq6]
  refine tkV 14 ?_
  try simp only [qq1, qq2, qq3, Act.put, qq4, qq5, qq6]
  refine tkV 15 ?_
  try simp only [qq1, qq2, qq3, Act.put, qq4, qq5, qq6]
  refine tkV 16 ?_
  try simp only [qq1, qq2, qq3, Act.put, qq4, qq5, qq6]
  refine tkV 17 ?_
  try simp only [qq1, qq2, qq3, Act.put, qq4, qq5, qq6]
  refine wpT_one (i := 18) (by kernel_rfl) rfl (fun K hK => ?_)
  go_simp
  (with_reducible refine (runknowns_any Y n yc B rows n bc nu hbn hnp HN _ ?_).mono ?_); (go_split_ands; exact kB.out _ (by assumption)); rintro e wA ⟨rfl, hbA⟩
  refine hK.out _ _ ?_ (fun hHeld => ?_)
  · (go_split_ands; exact hS.out _ _ (by assumption) hbA)
  clear hK K
  try simp only [qq1, qq2, qq3, Act.put, qq4, qq5, qq6]
  refine tkV 19 ?_
  try simp only [qq1, qq2, qq3, Act.put, qq4, qq5, qq6]
  refine tkV 20 ?_
  try simp only [qq1, qq2, qq3, Act.put, qq4, qq5, qq6]
  refine tkV 21 ?_
  try simp only [qq1, qq2, qq3, Act.put, qq4, qq5, qq6]
  refine tkV 22 ?_
  try simp only [qq1, qq2, qq3, Act.put, qq4, qq5, qq6]
  refine tkV 23 ?_
  try simp only [qq1, qq2, qq3, Act.put, qq4, qq5, qq6]
  refine tkV 24 ?_
  try simp only [qq1, qq2, qq3, Act.put, qq4, qq5, qq6]
  refine wpT_one (i := 25) (by kernel_rfl) rfl (fun K hK => ?_)
  go_simp
  (with_reducible refine (rscalars_any P Q G Z zs nz cz false HZS hzn hnz _ ?_).mono ?_); (go_split_ands; exact kZ.out _ (by assumption)); rintro e wA ⟨rfl, hbA⟩
  refine hK.out _ _ ?_ (fun hHeld => ?_)
  · (go_split_ands; exact hS.out _ _ (by assumption) hbA)
  clear hK K
  try simp only [qq1, qq2, qq3, Act.put, qq4, qq5, qq6]
  refine tkV 26 ?_
  try simp only [qq1, qq2, qq3, Act.put, qq4, qq5, qq6]
  refine tkV 27 ?_
  try simp only [qq1, qq2, qq3, Act.put, qq4, qq5, qq6]
  refine tkV 28 ?_
  try simp only [qq1, qq2, qq3, Act.put, qq4, qq5, qq6]
  refine tkU 29 ?_
  try simp only [qq1, qq2, qq3, Act.put, qq4, qq5, qq6]
  refine tkU 30 ?_
  try simp only [qq1, qq2, qq3, Act.put, qq4, qq5, qq6]
  refine tkU 31 ?_
  try simp only [qq1, qq2, qq3, Act.put, qq4, qq5, qq6]
  refine tkU 32 ?_
  try simp only [qq1, qq2, qq3, Act.put, qq4, qq5, qq6]
  refine tkU 33 ?_
  try simp only [qq1, qq2, qq3, Act.put, qq4, qq5, qq6]
  refine tkU 34 ?_
  try simp only [qq1, qq2, qq3, Act.put, qq4, qq5, qq6]
  refine tkV 35 ?_
  try simp only [qq1, qq2, qq3, Act.put, qq4, qq5, qq6]
  refine wpT_done (by kernel_rfl) ?_ _
  obtain ⟨x0, x1, x2, x3, x4, x5, x6, x7, HBF⟩ := hHeld
  have hbF := below_ext HBw.out HBF.out
  clear x0 x1 x2 x3 x4 x5 x6 x7
  go_wp2
  go_ret
  exact ⟨rfl, hbF⟩
set_option maxHeartbeats 12800000 in
theorem rck_d (P Q G : Int) (Y : Option Addr) (ys : List Int) (n yc : Nat) (B : Option Addr) (rows : List Row) (bc : Nat) (A : Option Addr) (al : List Int) (na ca : Nat) (C : Int) (Z : Option Addr) (zs : List Int) (nz cz : Nat) (HVL : Hid (validR P Q G ys rows = true)) (hyn : Hid (ys.length = n)) (hbn : Hid (rows.length = n)) (han : Hid (al.length = na)) (hzn : Hid (zs.length = nz)) (hna : na < 1000000) (hnz : nz < 1000000) (hQ : Q < 9223372036854775808) (heq : na = n) (heq2 : nz = rowN rows) (HZS : Hid (zs.all (scB Q) = true)) (hc : scB Q C = false) (w : World) (hY : Hid (Sl w Y ys)) (hB : Hid (Rw w B rows)) (hA : Hid (Sl w A al)) (hZ : Hid (Sl w Z zs)) :
    Calls Tryz.prog 149 #[gv P Q G, relV Y n yc B n bc, prvL A na ca C Z nz cz] w fun e' w' => e' = .returned (.bool false) ∧ Below w.heap.size w w' := by
  obtain ⟨v1, v2, v3, v4, v5, v6, v7, v8⟩ := validR_parts HVL.out
  have hnp : 0 < n := by rw [← hyn.out]; omega
  obtain ⟨nu, hnu⟩ : ∃ k, rowN rows = k := ⟨_, rfl⟩
  have HN := Lib.hid hnu
  clear v1 v2 v3 v4 v5 v6 v7 v8 hnu
  have e1 : ((na : Int) != (n : Int)) = false := by simp; omega
  have e2 : ((nz : Int) != (nu : Int)) = false := by have := HN.out; simp; omega
  have HSC : Hid ([C].all (scB Q) = false) := Lib.hid (by simpa using hc)
  clear heq heq2 hc
  obtain ⟨w0, HW, HBw, kC⟩ := stz4 P Q G Y n yc B bc A na ca C Z nz cz w
  have kY := Lib.hid (show ∀ u : World, Hid (Below w0.heap.size w0 u) → Hid (Sl u Y ys) from fun u h => Lib.hid ((hY.out.below) (below_ext HBw.out h.out)))
  have kB := Lib.hid (show ∀ u : World, Hid (Below w0.heap.size w0 u) → Hid (Rw u B rows) from fun u h => Lib.hid ((hB.out.below) (below_ext HBw.out h.out)))
  have kA := Lib.hid (show ∀ u : World, Hid (Below w0.heap.size w0 u) → Hid (Sl u A al) from fun u h => Lib.hid ((hA.out.below) (below_ext HBw.out h.out)))
  have kZ := Lib.hid (show ∀ u : World, Hid (Below w0.heap.size w0 u) → Hid (Sl u Z zs) from fun u h => Lib.hid ((hZ.out.below) (below_ext HBw.out h.out)))
  have HB_0 : Hid (Below w0.heap.size w0 w0) := Lib.hid (Below.refl _ _)
  clear hY hB hA hZ
  go_enter Tryz.func149, Tryz.ntmps149
  go_wp2_with fail
  rw [HW.out]
  obtain ⟨zc0, zc1, zc2, zc3, zc4, zc5, zc6, zc7⟩ := kC.out _ HB_0
  clear zc0 zc1 zc2 zc3 zc4 zc5 zc6 zc7
  have hS := Lib.hid (show ∀ u1 u2 : World, Hid (Below w0.heap.size w0 u1) → Below u1.heap.size u1 u2 → (u2.cell? ⟨w.heap.size, 0, none⟩ = some (.int .i64 P) ∧ u2.cell? ⟨w.heap.size, 1, none⟩ = some (.int .i64 Q) ∧ u2.cell? ⟨w.heap.size, 2, none⟩ = some (.int .i64 G) ∧ u2.cell? ⟨w.heap.size + 1, 0, none⟩ = some (.slice Y n yc) ∧ u2.cell? ⟨w.heap.size + 1, 1, none⟩ = some (.slice B n bc) ∧ u2.cell? ⟨w.heap.size + 2, 0, none⟩ = some (.slice A na ca) ∧ u2.cell? ⟨w.heap.size + 2, 1, none⟩ = some (.int .i64 C) ∧ u2.cell? ⟨w.heap.size + 2, 2, none⟩ = some (.slice Z nz cz) ∧ Hid (Below w0.heap.size w0 u2)) from fun u1 u2 h1 h2 => by
    have h3 := Lib.hid (below_ext h1.out h2)
    obtain ⟨y0, y1, y2, y3, y4, y5, y6, y7⟩ := kC.out _ h3
    exact ⟨y0, y1, y2, y3, y4, y5, y6, y7, h3⟩)
  refine wp_region_T (S := fun w' => w'.cell? ⟨w.heap.size, 0, none⟩ = some (.int .i64 P) ∧ w'.cell? ⟨w.heap.size, 1, none⟩ = some (.int .i64 Q) ∧ w'.cell? ⟨w.heap.size, 2, none⟩ = some (.int .i64 G) ∧ w'.cell? ⟨w.heap.size + 1, 0, none⟩ = some (.slice Y n yc) ∧ w'.cell? ⟨w.heap.size + 1, 1, none⟩ = some (.slice B n bc) ∧ w'.cell? ⟨w.heap.size + 2, 0, none⟩ = some (.slice A na ca) ∧ w'.cell? ⟨w.heap.size + 2, 1, none⟩ = some (.int .i64 C) ∧ w'.cell? ⟨w.heap.size + 2, 2, none⟩ = some (.slice Z nz cz) ∧ Hid (Below w0.heap.size w0 w')) (E := []) (by kernel_rfl) (hS.out _ _ HB_0 ((Below.refl _ _).drew)) (fun hHeld => ?_)
  refine tkV 0 ?_
  try simp only [qq1, qq2, qq3, Act.put, qq4, qq5, qq6]
  refine tkV 1 ?_
  try simp only [qq1, qq2, qq3, Act.put, qq4, qq5, qq6]
  refine wpT_one (i := 2) (by kernel_rfl) rfl (fun K hK => ?_)
  go_simp
  (with_reducible refine (rvalid17_any P Q G Y ys n yc B rows n bc true HVL hyn hbn hQ _ ?_ ?_).mono ?_); (go_split_ands; exact kY.out _ (by assumption)); (go_split_ands; exact kB.out _ (by assumption)); rintro e wA ⟨rfl, hbA⟩
  refine hK.out _ _ ?_ (fun hHeld => ?_)
  · (go_split_ands; exact hS.out _ _ (by assumption) hbA)
  clear hK K
  try simp only [qq1, qq2, qq3, Act.put, qq4, qq5, qq6]
  refine tkV 3 ?_
  try simp only [qq1, qq2, qq3, Act.put, qq4, qq5, qq6]
  refine tkV 4 ?_
  try simp only [qq1, qq2, qq3, Act.put, qq4, qq5, qq6]
  refine tkV 5 ?_
  try simp only [qq1, qq2, qq3, Act.put, qq4, qq5, qq6]
  refine tkV 6 ?_
  try simp only [qq1, qq2, qq3, Act.put, qq4, qq5, qq6]
  refine tkV 7 ?_
  try simp only [qq1, qq2, qq3, Act.put, qq4, qq5, qq6]
  refine tkV 8 ?_
  try simp only [qq1, qq2, qq3, Act.put, qq4, qq5, qq6]
  refine tkV 9 ?_
  try simp only [qq1, qq2, qq3, Act.put, qq4, qq5, qq6]
  refine tkV 10 ?_
  try simp only [qq1, qq2, qq3, Act.put, qq4, qq5, qq6]
  refine tkV 11 ?_
  try simp only [qq1, qq2, qq3, Act.put, qq4, qq5, qq6]
  refine tkV 12 ?_
  try simp only [qq1, qq2, qq3, Act.put, qq4, qq5, qq6]
  refine tkV 13 ?_
  try simp only [qq1, qq2, qq3, Act.put, qq4, qq5, qq6]
  refine tkV 14 ?_
  try simp only [qq1, qq2, qq3, Act.put, qq4, qq5, qq6]
  refine tkV 15 ?_
  try simp only [qq1, qq2, qq3, Act.put, qq4, qq5, qq6]
  refine tkV 16 ?_
  try simp only [qq1, qq2, qq3, Act.put, qq4, qq5, qq6]
  refine tkV 17 ?_
  try simp only [qq1, qq2, qq3, Act.put, qq4, qq5, qq6]
  refine wpT_one (i := 18) (by kernel_rfl) rfl (fun K hK => ?_)
  go_simp
  (with_reducible refine (runknowns_any Y n yc B rows n bc nu hbn hnp HN _ ?_).mono ?_); (go_split_ands; exact kB.out _ (by assumption)); rintro e wA ⟨rfl, hbA⟩
  refine hK.out _ _ ?_ (fun hHeld => ?_)
  · (go_split_ands; exact hS.out _ _ (by assumption) hbA)
  clear hK K
  try simp only [qq1, qq2, qq3, Act.put, qq4, qq5, qq6]
  refine tkV 19 ?_
  try simp only [qq1, qq2, qq3, Act.put, qq4, qq5, qq6]
  refine tkV 20 ?_
  try simp only [qq1, qq2, qq3, Act.put, qq4, qq5, qq6]
  refine tkV 21 ?_
  try simp only [qq1, qq2, qq3, Act.put, qq4, qq5, qq6]
  refine tkV 22 ?_
  try simp only [qq1, qq2, qq3, Act.put, qq4, qq5, qq6]
  refine tkV 23 ?_
  try simp only [qq1, qq2, qq3, Act.put, qq4, qq5, qq6]
  refine tkV 24 ?_
  try simp only [qq1, qq2, qq3, Act.put, qq4, qq5, qq6]
  refine wpT_one (i := 25) (by kernel_rfl) rfl (fun K hK => ?_)
  go_simp
  (with_reducible refine (rscalars_any P Q G Z zs nz cz true HZS hzn hnz _ ?_).mono ?_); (go_split_ands; exact kZ.out _ (by assumption)); rintro e wA ⟨rfl, hbA⟩
  refine hK.out _ _ ?_ (fun hHeld => ?_)
  · (go_split_ands; exact hS.out _ _ (by assumption) hbA)
  clear hK K
  try simp only [qq1, qq2, qq3, Act.put, qq4, qq5, qq6]
  refine tkV 26 ?_
  try simp only [qq1, qq2, qq3, Act.put, qq4, qq5, qq6]
  refine tkV 27 ?_
  try simp only [qq1, qq2, qq3, Act.put, qq4, qq5, qq6]
  refine tkV 28 ?_
  try simp only [qq1, qq2, qq3, Act.put, qq4, qq5, qq6]
  refine tkV 29 ?_
  try simp only [qq1, qq2, qq3, Act.put, qq4, qq5, qq6]
  refine tkV 30 ?_
  try simp only [qq1, qq2, qq3, Act.put, qq4, qq5, qq6]
  refine tkV 31 ?_
  try simp only [qq1, qq2, qq3, Act.put, qq4, qq5, qq6]
  refine wpT_one (i := 32) (by kernel_rfl) rfl (fun K hK => ?_)
  go_simp
  refine hK.out _ _ ?_ (fun hHeld => ?_)
  · (go_split_ands; exact hS.out _ _ (by assumption) (below_box0 _ _))
  clear hK K
  try simp only [qq1, qq2, qq3, Act.put, qq4, qq5, qq6]
  refine wpT_one (i := 33) (by kernel_rfl) rfl (fun K hK => ?_)
  go_simp
  (with_reducible refine (rscalars_any P Q G (some ⟨wA.heap.size, 0, none⟩) [C] 1 1 false HSC (Lib.hid rfl) (by omega) _ (Lib.hid (sl_of_cells (cells1 wA _ C)))).mono ?_); rintro e wB ⟨rfl, hbA⟩
  refine hK.out _ _ ?_ (fun hHeld => ?_)
  · (go_split_ands; exact hS.out _ _ (by assumption) hbA)
  clear hK K
  try simp only [qq1, qq2, qq3, Act.put, qq4, qq5, qq6]
  refine tkV 34 ?_
  try simp only [qq1, qq2, qq3, Act.put, qq4, qq5, qq6]
  refine tkV 35 ?_
  try simp only [qq1, qq2, qq3, Act.put, qq4, qq5, qq6]
  refine wpT_done (by kernel_rfl) ?_ _
  obtain ⟨x0, x1, x2, x3, x4, x5, x6, x7, HBF⟩ := hHeld
  have hbF := below_ext HBw.out HBF.out
  clear x0 x1 x2 x3 x4 x5 x6 x7
  go_wp2
  go_ret
  exact ⟨rfl, hbF⟩
def rowChk (P Q C : Int) (ys : List Int) (rows : List Row) (al zs : List Int) (i : Nat) : Bool := memG P Q (al.getD i 0) && (prodF P 1 (rows.getD i noRow).xs zs == al.getD i 0 * pw (ys.getD i 0) C P % P)
theorem prodF_mem {P Q : Int} (hP : 2 ≤ P) (hQ : 1 ≤ Q) : ∀ (xs es : List Int) (acc : Int), memG P Q acc = true → xs.all (memG P Q) = true → es.all (scB Q) = true → memG P Q (prodF P acc xs es) = true
  | [], es, acc, h, _, _ => by cases es <;> exact h
  | x :: xs, [], acc, h, _, _ => h
  | x :: xs, e :: es, acc, h, h1, h2 => by
    simp only [List.all_cons, Bool.and_eq_true] at h1 h2
    exact prodF_mem hP hQ xs es _ (mem_mul hP hQ h (mem_pw hP hQ (scB_lo h2.1) h1.1)) h1.2 h2.2
theorem checkB_rows {P Q G C : Int} {ys : List Int} {rows : List Row} {al zs : List Int} (hv : validR P Q G ys rows = true) (hl : al.length = rows.length) (hz : zs.length = rowN rows) (hzs : zs.all (scB Q) = true) (hc : scB Q C = true) :
    checkB P Q C ys rows al zs = true ↔ ∀ i, i < rows.length → rowChk P Q C ys rows al zs i = true := by
  obtain ⟨v1, v2, v3, v4, v5, v6, v7, v8⟩ := validR_parts hv
  obtain ⟨hp2, hp, hq3, hqp⟩ := validG_P v1
  have hC : 0 ≤ C ∧ C < Q := by simp [scB] at hc; exact hc
  have key : ∀ i, i < rows.length → (rowChk P Q C ys rows al zs i = true ↔ simF P Q C ys rows zs i = al.getD i 0) := by
    intro i hi
    have hy : memG P Q (ys.getD i 0) = true := all_get v5 (by omega)
    have hr := rowAll_get v8 hi
    simp only [rowB, Bool.and_eq_true] at hr
    have hm := prodF_mem (P := P) (Q := Q) hp2 (by omega) (rows.getD i noRow).xs zs 1 (mem_one hp2) hr.2 hzs
    have hu := pw_undo hp2 (by omega) hC.1 hC.2 hy
    unfold rowChk simF
    obtain ⟨p, hpp⟩ : ∃ p, prodF P 1 (rows.getD i noRow).xs zs = p := ⟨_, rfl⟩
    obtain ⟨u, hpu⟩ : ∃ u, pw (ys.getD i 0) C P = u := ⟨_, rfl⟩
    obtain ⟨t, hpt⟩ : ∃ t, pw (ys.getD i 0) ((Q - C) % Q) P = t := ⟨_, rfl⟩
    obtain ⟨a, ha⟩ : ∃ a, al.getD i 0 = a := ⟨_, rfl⟩
    have hmt : memG P Q t = true := by rw [← hpt]; exact mem_pw hp2 (by omega) (Int.emod_nonneg _ (by omega)) hy
    rw [hpu, hpt] at hu
    rw [hpp] at hm ⊢
    rw [hpu, hpt, ha]
    have p1 := memG_lo hm
    have p2 := memG_hi hm
    constructor
    · intro h
      simp only [Bool.and_eq_true, beq_iff_eq] at h
      have a1 := memG_lo h.1
      have a2 := memG_hi h.1
      rw [h.2, modL, Int.mul_assoc, ← modR, hu, Int.mul_one]
      exact Int.emod_eq_of_lt (by omega) a2
    · intro h
      have hma : memG P Q a = true := by rw [← h]; exact mem_mul hp2 (by omega) hm hmt
      simp only [Bool.and_eq_true, beq_iff_eq]
      refine ⟨hma, ?_⟩
      rw [← h, modL, Int.mul_assoc, Int.mul_comm t u, ← modR, hu, Int.mul_one]
      exact (Int.emod_eq_of_lt (by omega) p2).symm
  constructor
  · intro h i hi
    have hs := (checkB_parts h).2.2.2.2
    rw [key i hi, ← hs, simR_get hi]
  · intro h
    have hs : simR P Q C ys rows zs = al := by
      apply List.ext_getElem (by rw [simR_length, hl])
      intro i h1 h2
      have e1 := (key i (by rw [simR_length] at h1; exact h1)).1 (h i (by rw [simR_length] at h1; exact h1))
      have e2 := simR_get (P := P) (Q := Q) (c := C) (ys := ys) (zs := zs) (rows := rows) (show i < rows.length by rw [simR_length] at h1; exact h1)
      rw [List.getD_eq_getElem?_getD, List.getElem?_eq_getElem h1] at e2
      rw [List.getD_eq_getElem?_getD, List.getElem?_eq_getElem h2] at e1
      simp only [Option.getD_some] at e1 e2
      rw [e2, e1]
    simp only [checkB, Bool.and_eq_true, decide_eq_true_eq]
    exact ⟨hl, hz, hc, hzs, by rw [hs]; simp⟩
set_option maxHeartbeats 25600000 in
theorem rck_o (P Q G : Int) (Y : Option Addr) (ys : List Int) (n yc : Nat) (B : Option Addr) (rows : List Row) (bc : Nat) (A : Option Addr) (al : List Int) (na ca : Nat) (C : Int) (Z : Option Addr) (zs : List Int) (nz cz : Nat) (HVL : Hid (validR P Q G ys rows = true)) (hyn : Hid (ys.length = n)) (hbn : Hid (rows.length = n)) (han : Hid (al.length = na)) (hzn : Hid (zs.length = nz)) (hna : na < 1000000) (hnz : nz < 1000000) (hQ : Q < 9223372036854775808) (heq : na = n) (heq2 : nz = rowN rows) (HZS : Hid (zs.all (scB Q) = true)) (hc : scB Q C = true) (r : Bool) (hr : Hid (checkB P Q C ys rows al zs = r)) (w : World) (hY : Hid (Sl w Y ys)) (hB : Hid (Rw w B rows)) (hA : Hid (Sl w A al)) (hZ : Hid (Sl w Z zs)) :
    Calls Tryz.prog 149 #[gv P Q G, relV Y n yc B n bc, prvL A na ca C Z nz cz] w fun e' w' => e' = .returned (.bool r) ∧ Below w.heap.size w w' := by
  have HIFF : Hid (checkB P Q C ys rows al zs = true ↔ ∀ i, i < rows.length → rowChk P Q C ys rows al zs i = true) := Lib.hid (checkB_rows HVL.out (by rw [han.out, hbn.out, heq]) (by rw [hzn.out, heq2]) HZS.out hc)
  have hC : 0 ≤ C ∧ C < Q := by simp [scB] at hc; exact hc
  obtain ⟨hC0, hC1⟩ := hC
  obtain ⟨v1, v2, v3, v4, v5, v6, v7, v8⟩ := validR_parts HVL.out
  obtain ⟨hp2, hp, hq3, hqp⟩ := validG_P v1
  have HYM := Lib.hid v5
  have HRB : Hid (rows.all (rowB P Q nz) = true) := Lib.hid (by rw [heq2]; exact v8)
  have hn8 : n ≤ 8 := by rw [← hyn.out]; exact v3
  clear v1 v2 v3 v4 v5 v6 v7 v8
  obtain ⟨v1, v2, v3, v4, v5, v6, v7, v8⟩ := validR_parts HVL.out
  have hnp : 0 < n := by rw [← hyn.out]; omega
  obtain ⟨nu, hnu⟩ : ∃ k, rowN rows = k := ⟨_, rfl⟩
  have HN := Lib.hid hnu
  clear v1 v2 v3 v4 v5 v6 v7 v8 hnu
  have e1 : ((na : Int) != (n : Int)) = false := by simp; omega
  have e2 : ((nz : Int) != (nu : Int)) = false := by have := HN.out; simp; omega
  have HSC : Hid ([C].all (scB Q) = true) := Lib.hid (by simpa using hc)
  have HEQ := Lib.hid heq
  clear heq heq2 hc
  obtain ⟨w0, HW, HBw, kC⟩ := stz4 P Q G Y n yc B bc A na ca C Z nz cz w
  have kY := Lib.hid (show ∀ u : World, Hid (Below w0.heap.size w0 u) → Hid (Sl u Y ys) from fun u h => Lib.hid ((hY.out.below) (below_ext HBw.out h.out)))
  have kB := Lib.hid (show ∀ u : World, Hid (Below w0.heap.size w0 u) → Hid (Rw u B rows) from fun u h => Lib.hid ((hB.out.below) (below_ext HBw.out h.out)))
  have kA := Lib.hid (show ∀ u : World, Hid (Below w0.heap.size w0 u) → Hid (Sl u A al) from fun u h => Lib.hid ((hA.out.below) (below_ext HBw.out h.out)))
  have kZ := Lib.hid (show ∀ u : World, Hid (Below w0.heap.size w0 u) → Hid (Sl u Z zs) from fun u h => Lib.hid ((hZ.out.below) (below_ext HBw.out h.out)))
  have HB_0 : Hid (Below w0.heap.size w0 w0) := Lib.hid (Below.refl _ _)
  clear hY hB hA hZ
  go_enter Tryz.func149, Tryz.ntmps149
  go_wp2_with fail
  rw [HW.out]
  obtain ⟨zc0, zc1, zc2, zc3, zc4, zc5, zc6, zc7⟩ := kC.out _ HB_0
  clear zc0 zc1 zc2 zc3 zc4 zc5 zc6 zc7
  have hS := Lib.hid (show ∀ u1 u2 : World, Hid (Below w0.heap.size w0 u1) → Below u1.heap.size u1 u2 → (u2.cell? ⟨w.heap.size, 0, none⟩ = some (.int .i64 P) ∧ u2.cell? ⟨w.heap.size, 1, none⟩ = some (.int .i64 Q) ∧ u2.cell? ⟨w.heap.size, 2, none⟩ = some (.int .i64 G) ∧ u2.cell? ⟨w.heap.size + 1, 0, none⟩ = some (.slice Y n yc) ∧ u2.cell? ⟨w.heap.size + 1, 1, none⟩ = some (.slice B n bc) ∧ u2.cell? ⟨w.heap.size + 2, 0, none⟩ = some (.slice A na ca) ∧ u2.cell? ⟨w.heap.size + 2, 1, none⟩ = some (.int .i64 C) ∧ u2.cell? ⟨w.heap.size + 2, 2, none⟩ = some (.slice Z nz cz) ∧ Hid (Below w0.heap.size w0 u2)) from fun u1 u2 h1 h2 => by
    have h3 := Lib.hid (below_ext h1.out h2)
    obtain ⟨y0, y1, y2, y3, y4, y5, y6, y7⟩ := kC.out _ h3
    exact ⟨y0, y1, y2, y3, y4, y5, y6, y7, h3⟩)
  refine wp_region_T (S := fun w' => w'.cell? ⟨w.heap.size, 0, none⟩ = some (.int .i64 P) ∧ w'.cell? ⟨w.heap.size, 1, none⟩ = some (.int .i64 Q) ∧ w'.cell? ⟨w.heap.size, 2, none⟩ = some (.int .i64 G) ∧ w'.cell? ⟨w.heap.size + 1, 0, none⟩ = some (.slice Y n yc) ∧ w'.cell? ⟨w.heap.size + 1, 1, none⟩ = some (.slice B n bc) ∧ w'.cell? ⟨w.heap.size + 2, 0, none⟩ = some (.slice A na ca) ∧ w'.cell? ⟨w.heap.size + 2, 1, none⟩ = some (.int .i64 C) ∧ w'.cell? ⟨w.heap.size + 2, 2, none⟩ = some (.slice Z nz cz) ∧ Hid (Below w0.heap.size w0 w')) (E := []) (by kernel_rfl) (hS.out _ _ HB_0 ((Below.refl _ _).drew)) (fun hHeld => ?_)
  refine tkV 0 ?_
  try simp only [qq1, qq2, qq3, Act.put, qq4, qq5, qq6]
  refine tkV 1 ?_
  try simp only [qq1, qq2, qq3, Act.put, qq4, qq5, qq6]
  refine wpT_one (i := 2) (by kernel_rfl) rfl (fun K hK => ?_)
  go_simp
  (with_reducible refine (rvalid17_any P Q G Y ys n yc B rows n bc true HVL hyn hbn hQ _ ?_ ?_).mono ?_); (go_split_ands; exact kY.out _ (by assumption)); (go_split_ands; exact kB.out _ (by assumption)); rintro e wA ⟨rfl, hbA⟩
  refine hK.out _ _ ?_ (fun hHeld => ?_)
  · (go_split_ands; exact hS.out _ _ (by assumption) hbA)
  clear hK K
  try simp only [qq1, qq2, qq3, Act.put, qq4, qq5, qq6]
  refine tkV 3 ?_
  try simp only [qq1, qq2, qq3, Act.put, qq4, qq5, qq6]
  refine tkV 4 ?_
  try simp only [qq1, qq2, qq3, Act.put, qq4, qq5, qq6]
  refine tkV 5 ?_
  try simp only [qq1, qq2, qq3, Act.put, qq4, qq5, qq6]
  refine tkV 6 ?_
  try simp only [qq1, qq2, qq3, Act.put, qq4, qq5, qq6]
  refine tkV 7 ?_
  try simp only [qq1, qq2, qq3, Act.put, qq4, qq5, qq6]
  refine tkV 8 ?_
  try simp only [qq1, qq2, qq3, Act.put, qq4, qq5, qq6]
  refine tkV 9 ?_
  try simp only [qq1, qq2, qq3, Act.put, qq4, qq5, qq6]
  refine tkV 10 ?_
  try simp only [qq1, qq2, qq3, Act.put, qq4, qq5, qq6]
  refine tkV 11 ?_
  try simp only [qq1, qq2, qq3, Act.put, qq4, qq5, qq6]
  refine tkV 12 ?_
  try simp only [qq1, qq2, qq3, Act.put, qq4, qq5, qq6]
  refine tkV 13 ?_
  try simp only [qq1, qq2, qq3, Act.put, qq4, qq5, qq6]
  refine tkV 14 ?_
  try simp only [qq1, qq2, qq3, Act.put, qq4, qq5, qq6]
  refine tkV 15 ?_
  try simp only [qq1, qq2, qq3, Act.put, qq4, qq5, qq6]
  refine tkV 16 ?_
  try simp only [qq1, qq2, qq3, Act.put, qq4, qq5, qq6]
  refine tkV 17 ?_
  try simp only [qq1, qq2, qq3, Act.put, qq4, qq5, qq6]
  refine wpT_one (i := 18) (by kernel_rfl) rfl (fun K hK => ?_)
  go_simp
  (with_reducible refine (runknowns_any Y n yc B rows n bc nu hbn hnp HN _ ?_).mono ?_); (go_split_ands; exact kB.out _ (by assumption)); rintro e wA ⟨rfl, hbA⟩
  refine hK.out _ _ ?_ (fun hHeld => ?_)
  · (go_split_ands; exact hS.out _ _ (by assumption) hbA)
  clear hK K
  try simp only [qq1, qq2, qq3, Act.put, qq4, qq5, qq6]
  refine tkV 19 ?_
  try simp only [qq1, qq2, qq3, Act.put, qq4, qq5, qq6]
  refine tkV 20 ?_
  try simp only [qq1, qq2, qq3, Act.put, qq4, qq5, qq6]
  refine tkV 21 ?_
  try simp only [qq1, qq2, qq3, Act.put, qq4, qq5, qq6]
  refine tkV 22 ?_
  try simp only [qq1, qq2, qq3, Act.put, qq4, qq5, qq6]
  refine tkV 23 ?_
  try simp only [qq1, qq2, qq3, Act.put, qq4, qq5, qq6]
  refine tkV 24 ?_
  try simp only [qq1, qq2, qq3, Act.put, qq4, qq5, qq6]
  refine wpT_one (i := 25) (by kernel_rfl) rfl (fun K hK => ?_)
  go_simp
  (with_reducible refine (rscalars_any P Q G Z zs nz cz true HZS hzn hnz _ ?_).mono ?_); (go_split_ands; exact kZ.out _ (by assumption)); rintro e wA ⟨rfl, hbA⟩
  refine hK.out _ _ ?_ (fun hHeld => ?_)
  · (go_split_ands; exact hS.out _ _ (by assumption) hbA)
  clear hK K
  try simp only [qq1, qq2, qq3, Act.put, qq4, qq5, qq6]
  refine tkV 26 ?_
  try simp only [qq1, qq2, qq3, Act.put, qq4, qq5, qq6]
  refine tkV 27 ?_
  try simp only [qq1, qq2, qq3, Act.put, qq4, qq5, qq6]
  refine tkV 28 ?_
  try simp only [qq1, qq2, qq3, Act.put, qq4, qq5, qq6]
  refine tkV 29 ?_
  try simp only [qq1, qq2, qq3, Act.put, qq4, qq5, qq6]
  refine tkV 30 ?_
  try simp only [qq1, qq2, qq3, Act.put, qq4, qq5, qq6]
  refine tkV 31 ?_
  try simp only [qq1, qq2, qq3, Act.put, qq4, qq5, qq6]
  refine wpT_one (i := 32) (by kernel_rfl) rfl (fun K hK => ?_)
  go_simp
  refine hK.out _ _ ?_ (fun hHeld => ?_)
  · (go_split_ands; exact hS.out _ _ (by assumption) (below_box0 _ _))
  clear hK K
  try simp only [qq1, qq2, qq3, Act.put, qq4, qq5, qq6]
  refine wpT_one (i := 33) (by kernel_rfl) rfl (fun K hK => ?_)
  go_simp
  (with_reducible refine (rscalars_any P Q G (some ⟨wA.heap.size, 0, none⟩) [C] 1 1 true HSC (Lib.hid rfl) (by omega) _ (Lib.hid (sl_of_cells (cells1 wA _ C)))).mono ?_); rintro e wB ⟨rfl, hbA⟩
  refine hK.out _ _ ?_ (fun hHeld => ?_)
  · (go_split_ands; exact hS.out _ _ (by assumption) hbA)
  clear hK K
  try simp only [qq1, qq2, qq3, Act.put, qq4, qq5, qq6]
  refine tkV 34 ?_
  try simp only [qq1, qq2, qq3, Act.put, qq4, qq5, qq6]
  refine tkV 35 ?_
  try simp only [qq1, qq2, qq3, Act.put, qq4, qq5, qq6]
  refine wpT_done (by kernel_rfl) ?_ _
  obtain ⟨x0, x1, x2, x3, x4, x5, x6, x7, HB_1⟩ := hHeld
  go_wp2_with fail
  clear x0 x1 x2 x3 x4 x5 x6 x7 hS
  go_loopw [7] (fun i u => ∃ k : Nat, k ≤ n ∧ i = .int .i64 k ∧ Hid (∀ j, j < k → rowChk P Q C ys rows al zs j = true) ∧ Hid (Below w0.heap.size w0 u)) (fun i _ => n - (intOf i).toNat)
  case atStart => exact ⟨0, by omega, rfl, Lib.hid (fun j hj => absurd hj (Nat.not_lt_zero _)), HB_1⟩
  case round =>
    obtain ⟨k, hk, rfl, HALL, HBr⟩ := hrel
    obtain ⟨y0, y1, y2, y3, y4, y5, y6, y7⟩ := kC.out _ HBr
    by_cases hlt : k < n
    · have hka : k < al.length := by have := HEQ.out; have := han.out; omega
      have hltA : k < na := by have := HEQ.out; omega
      have hky : k < ys.length := by rw [hyn.out]; exact hlt
      have hkr : k < rows.length := by rw [hbn.out]; exact hlt
      obtain ⟨ba, oa, hAA, ia⟩ := (kA.out _ HBr).out k hka
      obtain ⟨by', oy, hYY, iy⟩ := (kY.out _ HBr).out k hky
      obtain ⟨⟨br, or', hBB, ir⟩, hok⟩ := (kB.out _ HBr).out k hkr
      subst hAA
      subst hYY
      subst hBB
      have hrc : rowChk P Q C ys rows al zs k = (memG P Q (al.getD k 0) && (prodF P 1 (rows.getD k noRow).xs zs == al.getD k 0 * pw (ys.getD k 0) C P % P)) := rfl
      have hmy := all_get HYM.out hky
      have hrb := rowAll_get HRB.out hkr
      have HHIT : Hid (rowChk P Q C ys rows al zs k = false → r = false) := Lib.hid (fun h => by
        rw [← hr.out]
        cases hcb : checkB P Q C ys rows al zs with
        | false => rfl
        | true =>
          have h2 := HIFF.out.1 hcb k hkr
          rw [h] at h2
          cases h2)
      have HNEXT : Hid (rowChk P Q C ys rows al zs k = true → ∀ j, j < k + 1 → rowChk P Q C ys rows al zs j = true) := Lib.hid (fun h j hj => by
        by_cases hjk : j = k
        · subst hjk; exact h
        · exact HALL.out j (by omega))
      obtain ⟨a, haa⟩ : ∃ a, al.getD k 0 = a := ⟨_, rfl⟩
      obtain ⟨y, hyy⟩ : ∃ a, ys.getD k 0 = a := ⟨_, rfl⟩
      obtain ⟨RR, hRR⟩ : ∃ R, rows.getD k noRow = R := ⟨_, rfl⟩
      rw [haa] at ia hrc
      rw [hyy] at iy hrc hmy
      rw [hRR] at ir hok hrc hrb
      obtain ⟨p, rn, rc, xs⟩ := RR
      simp only [rowB, Bool.and_eq_true, decide_eq_true_eq] at hrb
      obtain ⟨hrn, hmx⟩ := hrb
      subst hrn
      have HXL := Lib.hid hok.1
      have HXS : Hid (Sl wr p xs) := Lib.hid hok.2
      have HMX := Lib.hid hmx
      dsimp only [Row.val] at ir hrc
      have HMY := Lib.hid hmy
      have hs2 := Lib.hid (show ∀ u1 u2 : World, Hid (Below wr.heap.size wr u1) → Below u1.heap.size u1 u2 → (u2.cell? ⟨w.heap.size, 0, none⟩ = some (.int .i64 P) ∧ u2.cell? ⟨w.heap.size, 1, none⟩ = some (.int .i64 Q) ∧ u2.cell? ⟨w.heap.size, 2, none⟩ = some (.int .i64 G) ∧ u2.cell? ⟨w.heap.size + 1, 0, none⟩ = some (.slice (some ⟨by', oy, none⟩) n yc) ∧ u2.cell? ⟨w.heap.size + 1, 1, none⟩ = some (.slice (some ⟨br, or', none⟩) n bc) ∧ u2.cell? ⟨w.heap.size + 2, 0, none⟩ = some (.slice (some ⟨ba, oa, none⟩) na ca) ∧ u2.cell? ⟨w.heap.size + 2, 1, none⟩ = some (.int .i64 C) ∧ u2.cell? ⟨w.heap.size + 2, 2, none⟩ = some (.slice Z rn cz) ∧ u2.cell? ⟨ba, oa + k, none⟩ = some (.int .i64 a) ∧ u2.cell? ⟨by', oy + k, none⟩ = some (.int .i64 y) ∧ u2.cell? ⟨br, or' + k, none⟩ = some (.slice p rn rc) ∧ Hid (Below wr.heap.size wr u2)) from fun u1 u2 h1 h2 => by
        have h3 := below_ext h1.out h2
        exact ⟨cell_below y0 h3, cell_below y1 h3, cell_below y2 h3, cell_below y3 h3, cell_below y4 h3, cell_below y5 h3, cell_below y6 h3, cell_below y7 h3, cell_below ia h3, cell_below iy h3, cell_below ir h3, Lib.hid h3⟩)
      have kX := Lib.hid (show ∀ u : World, Hid (Below wr.heap.size wr u) → Hid (Sl u p xs) from fun u h => Lib.hid (HXS.out.below h.out))
      have kZ2 := Lib.hid (show ∀ u : World, Hid (Below wr.heap.size wr u) → Hid (Sl u Z zs) from fun u h => kZ.out _ (Lib.hid (below_ext HBr.out h.out)))
      have HBR0 : Hid (Below wr.heap.size wr wr) := Lib.hid (Below.refl _ _)
      have HRC := Lib.hid hrc
      clear haa hyy hRR hok hmx hmy hrc
      go_wp2_with fail
      clear y0 y1 y2 y3 y4 y5 y6 y7 ia iy ir
      obtain ⟨m, hm⟩ : ∃ m, memG P Q a = m := ⟨_, rfl⟩
      have HM := Lib.hid hm
      clear hm
      refine wp_region_T (S := fun w' => w'.cell? ⟨w.heap.size, 0, none⟩ = some (.int .i64 P) ∧ w'.cell? ⟨w.heap.size, 1, none⟩ = some (.int .i64 Q) ∧ w'.cell? ⟨w.heap.size, 2, none⟩ = some (.int .i64 G) ∧ w'.cell? ⟨w.heap.size + 1, 0, none⟩ = some (.slice (some ⟨by', oy, none⟩) n yc) ∧ w'.cell? ⟨w.heap.size + 1, 1, none⟩ = some (.slice (some ⟨br, or', none⟩) n bc) ∧ w'.cell? ⟨w.heap.size + 2, 0, none⟩ = some (.slice (some ⟨ba, oa, none⟩) na ca) ∧ w'.cell? ⟨w.heap.size + 2, 1, none⟩ = some (.int .i64 C) ∧ w'.cell? ⟨w.heap.size + 2, 2, none⟩ = some (.slice Z rn cz) ∧ w'.cell? ⟨ba, oa + k, none⟩ = some (.int .i64 a) ∧ w'.cell? ⟨by', oy + k, none⟩ = some (.int .i64 y) ∧ w'.cell? ⟨br, or' + k, none⟩ = some (.slice p rn rc) ∧ Hid (Below wr.heap.size wr w')) (E := []) (by kernel_rfl) (hs2.out _ _ HBR0 ((Below.refl _ _).drew)) (fun hHeld => ?_)
      refine tkV 0 ?_
      try simp only [qq1, qq2, qq3, Act.put, qq4, qq5, qq6]
      refine tkV 1 ?_
      try simp only [qq1, qq2, qq3, Act.put, qq4, qq5, qq6]
      refine tkV 2 ?_
      try simp only [qq1, qq2, qq3, Act.put, qq4, qq5, qq6]
      refine tkV 3 ?_
      try simp only [qq1, qq2, qq3, Act.put, qq4, qq5, qq6]
      refine tkV 4 ?_
      try simp only [qq1, qq2, qq3, Act.put, qq4, qq5, qq6]
      refine tkV 5 ?_
      try simp only [qq1, qq2, qq3, Act.put, qq4, qq5, qq6]
      refine wpT_one (i := 6) (by kernel_rfl) rfl (fun K hK => ?_)
      go_simp
      (with_reducible refine (rmember_any P Q G a m HM hp (by omega) hQ _).mono ?_); rintro e wA ⟨rfl, hbA⟩
      refine hK.out _ _ ?_ (fun hHeld => ?_)
      · exact hs2.out _ _ (hHeld.2.2.2.2.2.2.2.2.2.2.2) hbA
      clear hK K
      try simp only [qq1, qq2, qq3, Act.put, qq4, qq5, qq6]
      refine tkV 7 ?_
      try simp only [qq1, qq2, qq3, Act.put, qq4, qq5, qq6]
      refine wpT_done (by kernel_rfl) ?_ _
      obtain ⟨x0, x1, x2, x3, x4, x5, x6, x7, x8, x9, x10, HB6⟩ := hHeld
      clear x0 x1 x2 x3 x4 x5 x6 x7 x8 x9 x10
      have hbA' := HB6.out
      cases hmc : m with
      | false =>
        obtain rfl : r = false := HHIT.out (by rw [HRC.out, HM.out, hmc]; rfl)
        have hbF := below_ext HBw.out (below_ext HBr.out HB6.out)
        go_wp2
        go_ret
        exact ⟨rfl, hbF⟩
      | true =>
        have hma : memG P Q a = true := HM.out.trans hmc
        have a1 := memG_lo hma
        have a2 := memG_hi hma
        have b1 := memG_lo HMY.out
        have b2 := memG_hi HMY.out
        obtain ⟨u, hu⟩ : ∃ u, pw y C P = u := ⟨_, rfl⟩
        obtain ⟨u0, u1⟩ : 0 ≤ u ∧ u < P := by rw [← hu]; exact pw_lt _ _ _ (by omega)
        obtain ⟨v, hv'⟩ : ∃ v, a * u % P = v := ⟨_, rfl⟩
        obtain ⟨q, hq'⟩ : ∃ q, prodF P 1 xs zs = q := ⟨_, rfl⟩
        have HU := Lib.hid hu
        have HV := Lib.hid hv'
        have HQ := Lib.hid hq'
        have HRC2 : Hid (rowChk P Q C ys rows al zs k = (q == v)) := Lib.hid (by rw [HRC.out, hma, hu, hv', hq', Bool.true_and])
        clear hu hv' hq' hma hbA'
        go_wp2_with fail
        refine wp_region_T (S := fun w' => w'.cell? ⟨w.heap.size, 0, none⟩ = some (.int .i64 P) ∧ w'.cell? ⟨w.heap.size, 1, none⟩ = some (.int .i64 Q) ∧ w'.cell? ⟨w.heap.size, 2, none⟩ = some (.int .i64 G) ∧ w'.cell? ⟨w.heap.size + 1, 0, none⟩ = some (.slice (some ⟨by', oy, none⟩) n yc) ∧ w'.cell? ⟨w.heap.size + 1, 1, none⟩ = some (.slice (some ⟨br, or', none⟩) n bc) ∧ w'.cell? ⟨w.heap.size + 2, 0, none⟩ = some (.slice (some ⟨ba, oa, none⟩) na ca) ∧ w'.cell? ⟨w.heap.size + 2, 1, none⟩ = some (.int .i64 C) ∧ w'.cell? ⟨w.heap.size + 2, 2, none⟩ = some (.slice Z rn cz) ∧ w'.cell? ⟨ba, oa + k, none⟩ = some (.int .i64 a) ∧ w'.cell? ⟨by', oy + k, none⟩ = some (.int .i64 y) ∧ w'.cell? ⟨br, or' + k, none⟩ = some (.slice p rn rc) ∧ Hid (Below wr.heap.size wr w')) (E := []) (by kernel_rfl) (hs2.out _ _ HB6 ((Below.refl _ _).drew)) (fun hHeld => ?_)
        refine tkV 0 ?_
        try simp only [qq1, qq2, qq3, Act.put, qq4, qq5, qq6]
        refine tkV 1 ?_
        try simp only [qq1, qq2, qq3, Act.put, qq4, qq5, qq6]
        refine tkV 2 ?_
        try simp only [qq1, qq2, qq3, Act.put, qq4, qq5, qq6]
        refine tkV 3 ?_
        try simp only [qq1, qq2, qq3, Act.put, qq4, qq5, qq6]
        refine tkV 4 ?_
        try simp only [qq1, qq2, qq3, Act.put, qq4, qq5, qq6]
        refine tkV 5 ?_
        try simp only [qq1, qq2, qq3, Act.put, qq4, qq5, qq6]
        refine tkV 6 ?_
        try simp only [qq1, qq2, qq3, Act.put, qq4, qq5, qq6]
        refine tkV 7 ?_
        try simp only [qq1, qq2, qq3, Act.put, qq4, qq5, qq6]
        refine tkV 8 ?_
        try simp only [qq1, qq2, qq3, Act.put, qq4, qq5, qq6]
        refine tkV 9 ?_
        try simp only [qq1, qq2, qq3, Act.put, qq4, qq5, qq6]
        refine tkV 10 ?_
        try simp only [qq1, qq2, qq3, Act.put, qq4, qq5, qq6]
        refine tkV 11 ?_
        try simp only [qq1, qq2, qq3, Act.put, qq4, qq5, qq6]
        refine tkV 12 ?_
        try simp only [qq1, qq2, qq3, Act.put, qq4, qq5, qq6]
        refine tkV 13 ?_
        try simp only [qq1, qq2, qq3, Act.put, qq4, qq5, qq6]
        refine tkV 15 ?_
        try simp only [qq1, qq2, qq3, Act.put, qq4, qq5, qq6]
        refine tkV 16 ?_
        try simp only [qq1, qq2, qq3, Act.put, qq4, qq5, qq6]
        refine wpT_one (i := 14) (by kernel_rfl) rfl (fun K hK => ?_)
        go_simp
        (with_reducible refine (rpow_any y C P u HU (by omega) hp (by omega) b2 hC0 (by omega) _).mono ?_); rintro e wA ⟨rfl, rfl⟩
        refine hK.out _ _ ?_ (fun hHeld => ?_)
        · exact hs2.out _ _ (hHeld.2.2.2.2.2.2.2.2.2.2.2) (Below.refl _ _)
        clear hK K
        try simp only [qq1, qq2, qq3, Act.put, qq4, qq5, qq6]
        refine wpT_one (i := 17) (by kernel_rfl) rfl (fun K hK => ?_)
        go_simp
        (with_reducible refine (rmul_any a u P v HV hp (by omega) a2 u0 u1 _).mono ?_); rintro e wA ⟨rfl, rfl⟩
        refine hK.out _ _ ?_ (fun hHeld => ?_)
        · exact hs2.out _ _ (hHeld.2.2.2.2.2.2.2.2.2.2.2) (Below.refl _ _)
        clear hK K
        try simp only [qq1, qq2, qq3, Act.put, qq4, qq5, qq6]
        refine tkV 18 ?_
        try simp only [qq1, qq2, qq3, Act.put, qq4, qq5, qq6]
        refine wpT_done (by kernel_rfl) ?_ _
        obtain ⟨x0, x1, x2, x3, x4, x5, x6, x7, x8, x9, x10, HB8⟩ := hHeld
        clear x0 x1 x2 x3 x4 x5 x6 x7 x8 x9 x10
        go_wp2_with fail
        refine wp_region_T (S := fun w' => w'.cell? ⟨w.heap.size, 0, none⟩ = some (.int .i64 P) ∧ w'.cell? ⟨w.heap.size, 1, none⟩ = some (.int .i64 Q) ∧ w'.cell? ⟨w.heap.size, 2, none⟩ = some (.int .i64 G) ∧ w'.cell? ⟨w.heap.size + 1, 0, none⟩ = some (.slice (some ⟨by', oy, none⟩) n yc) ∧ w'.cell? ⟨w.heap.size + 1, 1, none⟩ = some (.slice (some ⟨br, or', none⟩) n bc) ∧ w'.cell? ⟨w.heap.size + 2, 0, none⟩ = some (.slice (some ⟨ba, oa, none⟩) na ca) ∧ w'.cell? ⟨w.heap.size + 2, 1, none⟩ = some (.int .i64 C) ∧ w'.cell? ⟨w.heap.size + 2, 2, none⟩ = some (.slice Z rn cz) ∧ w'.cell? ⟨ba, oa + k, none⟩ = some (.int .i64 a) ∧ w'.cell? ⟨by', oy + k, none⟩ = some (.int .i64 y) ∧ w'.cell? ⟨br, or' + k, none⟩ = some (.slice p rn rc) ∧ Hid (Below wr.heap.size wr w')) (E := []) (by kernel_rfl) (hs2.out _ _ HB8 ((Below.refl _ _).drew)) (fun hHeld => ?_)
        refine tkV 0 ?_
        try simp only [qq1, qq2, qq3, Act.put, qq4, qq5, qq6]
        refine tkV 1 ?_
        try simp only [qq1, qq2, qq3, Act.put, qq4, qq5, qq6]
        refine tkV 2 ?_
        try simp only [qq1, qq2, qq3, Act.put, qq4, qq5, qq6]
        refine tkV 3 ?_
        try simp only [qq1, qq2, qq3, Act.put, qq4, qq5, qq6]
        refine tkV 4 ?_
        try simp only [qq1, qq2, qq3, Act.put, qq4, qq5, qq6]
        refine tkV 5 ?_
        try simp only [qq1, qq2, qq3, Act.put, qq4, qq5, qq6]
        refine tkV 6 ?_
        try simp only [qq1, qq2, qq3, Act.put, qq4, qq5, qq6]
        refine tkV 7 ?_
        try simp only [qq1, qq2, qq3, Act.put, qq4, qq5, qq6]
        refine tkV 9 ?_
        try simp only [qq1, qq2, qq3, Act.put, qq4, qq5, qq6]
        refine wpT_one (i := 8) (by kernel_rfl) rfl (fun K hK => ?_)
        go_simp
        (with_reducible refine (rproduct_any P Q G p xs rn rc Z zs rn cz q HQ HXL hzn (Nat.le_refl _) (by omega) HMX HZS hp2 hp hQ _ ?_ ?_).mono ?_); (exact kX.out _ (hHeld.2.2.2.2.2.2.2.2.2.2.2)); (exact kZ2.out _ (hHeld.2.2.2.2.2.2.2.2.2.2.2)); rintro e wA ⟨rfl, hbA⟩
        refine hK.out _ _ ?_ (fun hHeld => ?_)
        · exact hs2.out _ _ (hHeld.2.2.2.2.2.2.2.2.2.2.2) hbA
        clear hK K
        try simp only [qq1, qq2, qq3, Act.put, qq4, qq5, qq6]
        refine tkV 10 ?_
        try simp only [qq1, qq2, qq3, Act.put, qq4, qq5, qq6]
        refine wpT_done (by kernel_rfl) ?_ _
        obtain ⟨x0, x1, x2, x3, x4, x5, x6, x7, x8, x9, x10, HB9⟩ := hHeld
        clear x0 x1 x2 x3 x4 x5 x6 x7 x8 x9 x10
        cases hqv : q == v with
        | false =>
          obtain rfl : r = false := HHIT.out (by rw [HRC2.out, hqv])
          have hne : (q != v) = true := by simp only [bne, hqv, Bool.not_false]
          have hbF := below_ext HBw.out (below_ext HBr.out HB9.out)
          go_wp2
          go_ret
          exact ⟨rfl, hbF⟩
        | true =>
          have hne : (q != v) = false := by simp only [bne, hqv, Bool.not_true]
          have HALL2 := Lib.hid (HNEXT.out (by rw [HRC2.out, hqv]))
          have HBn := Lib.hid (below_ext HBr.out HB9.out)
          go_wp2
          go_roundw
          case rel => exact ⟨k + 1, by omega, by go_num, HALL2, HBn⟩
          case measure => simp [intOf]; omega
    · obtain rfl : k = n := by omega
      obtain rfl : r = true := by
        rw [← hr.out]
        exact HIFF.out.2 (fun i hi => HALL.out i (by rw [hbn.out] at hi; exact hi))
      have hbF := below_ext HBw.out HBr.out
      go_wp2
      go_ret
      exact ⟨rfl, hbF⟩
theorem rcheck_w17 (P Q G : Int) (Y : Option Addr) (ys : List Int) (yn yc : Nat) (B : Option Addr) (rows : List Row) (bn bc : Nat) (A : Option Addr) (al : List Int) (na ca : Nat) (C : Int) (Z : Option Addr) (zs : List Int) (nz cz : Nat) (hyn : Hid (ys.length = yn)) (hbn : Hid (rows.length = bn)) (han : Hid (al.length = na)) (hzn : Hid (zs.length = nz)) (hna : na < 1000000) (hnz : nz < 1000000) (hQ : Q < 9223372036854775808) (r : Bool) (hr : Hid (chkL P Q G C ys rows al zs = r)) (w : World) (hY : Hid (Sl w Y ys)) (hB : Hid (Rw w B rows)) (hA : Hid (Sl w A al)) (hZ : Hid (Sl w Z zs)) :
    Calls Tryz.prog 149 #[gv P Q G, relV Y yn yc B bn bc, prvL A na ca C Z nz cz] w fun e' w' => e' = .returned (.bool r) ∧ Below w.heap.size w w' := by
  cases hg : validR P Q G ys rows with
  | false =>
    obtain rfl : r = false := by rw [← hr.out, chkL, hg]; rfl
    exact rck_v P Q G Y ys yn yc B rows bn bc A al na ca C Z zs nz cz hyn hbn han hzn hna hnz hQ (Lib.hid hg) w hY hB hA hZ
  | true =>
    have he : bn = yn := by rw [← hbn.out, ← hyn.out]; exact (validR_parts hg).2.2.2.1
    subst he
    have hr' : checkB P Q C ys rows al zs = r := by rw [← hr.out, chkL, hg]; rfl
    by_cases h1 : na = bn
    · by_cases h2 : nz = rowN rows
      · cases h3 : zs.all (scB Q) with
        | false =>
          obtain rfl : r = false := by rw [← hr']; unfold checkB; rw [h3]; simp
          exact rck_c P Q G Y ys bn yc B rows bc A al na ca C Z zs nz cz (Lib.hid hg) hyn hbn han hzn hna hnz hQ h1 h2 (Lib.hid h3) w hY hB hA hZ
        | true =>
          cases h4 : scB Q C with
          | false =>
            obtain rfl : r = false := by rw [← hr']; unfold checkB; rw [h4]; simp
            exact rck_d P Q G Y ys bn yc B rows bc A al na ca C Z zs nz cz (Lib.hid hg) hyn hbn han hzn hna hnz hQ h1 h2 (Lib.hid h3) h4 w hY hB hA hZ
          | true => exact rck_o P Q G Y ys bn yc B rows bc A al na ca C Z zs nz cz (Lib.hid hg) hyn hbn han hzn hna hnz hQ h1 h2 (Lib.hid h3) h4 r (Lib.hid hr') w hY hB hA hZ
      · obtain rfl : r = false := by rw [← hr']; unfold checkB; rw [hzn.out, decide_eq_false h2]; simp
        exact rck_b P Q G Y ys bn yc B rows bc A al na ca C Z zs nz cz (Lib.hid hg) hyn hbn han hzn hna hnz hQ h1 h2 w hY hB hA hZ
    · obtain rfl : r = false := by rw [← hr']; unfold checkB; rw [han.out, hbn.out, decide_eq_false h1]; simp
      exact rck_a P Q G Y ys bn yc B rows bc A al na ca C Z zs nz cz (Lib.hid hg) hyn hbn han hzn hna hnz hQ h1 w hY hB hA hZ
set_option maxHeartbeats 12800000 in
theorem rver_f (P Q G : Int) (Y : Option Addr) (ys : List Int) (yn yc : Nat) (B : Option Addr) (rows : List Row) (bn bc : Nat) (A : Option Addr) (al : List Int) (na ca : Nat) (C : Int) (Z : Option Addr) (zs : List Int) (nz cz : Nat) (hyn : Hid (ys.length = yn)) (hbn : Hid (rows.length = bn)) (han : Hid (al.length = na)) (hzn : Hid (zs.length = nz)) (hna : na < 1000000) (hnz : nz < 1000000) (hQ : Q < 9223372036854775808) (s : ByteArray) (hs : s.size ≤ 1000) (HC : Hid (chkL P Q G C ys rows al zs = false)) (w : World) (hY : Hid (Sl w Y ys)) (hB : Hid (Rw w B rows)) (hA : Hid (Sl w A al)) (hZ : Hid (Sl w Z zs)) :
    Calls Tryz.prog 84 #[gv P Q G, relV Y yn yc B bn bc, .string s, prvL A na ca C Z nz cz] w fun e' w' => e' = .returned (.bool false) ∧ Below w.heap.size w w' := by
  obtain ⟨w0, HW, HBw, kC⟩ := stz5 P Q G Y yn yc B bn bc A na ca C Z nz cz w
  have kY := Lib.hid (show ∀ u : World, Hid (Below w0.heap.size w0 u) → Hid (Sl u Y ys) from fun u h => Lib.hid ((hY.out.below) (below_ext HBw.out h.out)))
  have kB := Lib.hid (show ∀ u : World, Hid (Below w0.heap.size w0 u) → Hid (Rw u B rows) from fun u h => Lib.hid ((hB.out.below) (below_ext HBw.out h.out)))
  have kA := Lib.hid (show ∀ u : World, Hid (Below w0.heap.size w0 u) → Hid (Sl u A al) from fun u h => Lib.hid ((hA.out.below) (below_ext HBw.out h.out)))
  have kZ := Lib.hid (show ∀ u : World, Hid (Below w0.heap.size w0 u) → Hid (Sl u Z zs) from fun u h => Lib.hid ((hZ.out.below) (below_ext HBw.out h.out)))
  have HB_0 : Hid (Below w0.heap.size w0 w0) := Lib.hid (Below.refl _ _)
  clear hY hB hA hZ
  go_enter Tryz.func84, Tryz.ntmps84
  go_wp2_with fail
  rw [HW.out]
  obtain ⟨zc0, zc1, zc2, zc3, zc4, zc5, zc6, zc7⟩ := kC.out _ HB_0
  clear zc0 zc1 zc2 zc3 zc4 zc5 zc6 zc7
  have hS := Lib.hid (show ∀ u1 u2 : World, Hid (Below w0.heap.size w0 u1) → Below u1.heap.size u1 u2 → (u2.cell? ⟨w.heap.size, 0, none⟩ = some (.int .i64 P) ∧ u2.cell? ⟨w.heap.size, 1, none⟩ = some (.int .i64 Q) ∧ u2.cell? ⟨w.heap.size, 2, none⟩ = some (.int .i64 G) ∧ u2.cell? ⟨w.heap.size + 1, 0, none⟩ = some (.slice Y yn yc) ∧ u2.cell? ⟨w.heap.size + 1, 1, none⟩ = some (.slice B bn bc) ∧ u2.cell? ⟨w.heap.size + 2, 0, none⟩ = some (.slice A na ca) ∧ u2.cell? ⟨w.heap.size + 2, 1, none⟩ = some (.int .i64 C) ∧ u2.cell? ⟨w.heap.size + 2, 2, none⟩ = some (.slice Z nz cz) ∧ Hid (Below w0.heap.size w0 u2)) from fun u1 u2 h1 h2 => by
    have h3 := Lib.hid (below_ext h1.out h2)
    obtain ⟨y0, y1, y2, y3, y4, y5, y6, y7⟩ := kC.out _ h3
    exact ⟨y0, y1, y2, y3, y4, y5, y6, y7, h3⟩)
  refine wp_region_T (S := fun w' => w'.cell? ⟨w.heap.size, 0, none⟩ = some (.int .i64 P) ∧ w'.cell? ⟨w.heap.size, 1, none⟩ = some (.int .i64 Q) ∧ w'.cell? ⟨w.heap.size, 2, none⟩ = some (.int .i64 G) ∧ w'.cell? ⟨w.heap.size + 1, 0, none⟩ = some (.slice Y yn yc) ∧ w'.cell? ⟨w.heap.size + 1, 1, none⟩ = some (.slice B bn bc) ∧ w'.cell? ⟨w.heap.size + 2, 0, none⟩ = some (.slice A na ca) ∧ w'.cell? ⟨w.heap.size + 2, 1, none⟩ = some (.int .i64 C) ∧ w'.cell? ⟨w.heap.size + 2, 2, none⟩ = some (.slice Z nz cz) ∧ Hid (Below w0.heap.size w0 w')) (E := []) (by kernel_rfl) (hS.out _ _ HB_0 ((Below.refl _ _).drew)) (fun hHeld => ?_)
  refine tkV 0 ?_
  try simp only [qq1, qq2, qq3, Act.put, qq4, qq5, qq6]
  refine tkV 1 ?_
  try simp only [qq1, qq2, qq3, Act.put, qq4, qq5, qq6]
  refine tkV 2 ?_
  try simp only [qq1, qq2, qq3, Act.put, qq4, qq5, qq6]
  refine wpT_one (i := 3) (by kernel_rfl) rfl (fun K hK => ?_)
  go_simp
  (with_reducible refine (rcheck_w17 P Q G Y ys yn yc B rows bn bc A al na ca C Z zs nz cz hyn hbn han hzn hna hnz hQ false HC _ ?_ ?_ ?_ ?_).mono ?_); (go_split_ands; exact kY.out _ (by assumption)); (go_split_ands; exact kB.out _ (by assumption)); (go_split_ands; exact kA.out _ (by assumption)); (go_split_ands; exact kZ.out _ (by assumption)); rintro e wA ⟨rfl, hbA⟩
  refine hK.out _ _ ?_ (fun hHeld => ?_)
  · (go_split_ands; exact hS.out _ _ (by assumption) hbA)
  clear hK K
  try simp only [qq1, qq2, qq3, Act.put, qq4, qq5, qq6]
  refine tkV 4 ?_
  try simp only [qq1, qq2, qq3, Act.put, qq4, qq5, qq6]
  refine tkU 5 ?_
  try simp only [qq1, qq2, qq3, Act.put, qq4, qq5, qq6]
  refine tkU 6 ?_
  try simp only [qq1, qq2, qq3, Act.put, qq4, qq5, qq6]
  refine tkV 7 ?_
  try simp only [qq1, qq2, qq3, Act.put, qq4, qq5, qq6]
  refine tkV 8 ?_
  try simp only [qq1, qq2, qq3, Act.put, qq4, qq5, qq6]
  refine tkU 9 ?_
  try simp only [qq1, qq2, qq3, Act.put, qq4, qq5, qq6]
  refine tkU 10 ?_
  try simp only [qq1, qq2, qq3, Act.put, qq4, qq5, qq6]
  refine tkU 11 ?_
  try simp only [qq1, qq2, qq3, Act.put, qq4, qq5, qq6]
  refine tkU 12 ?_
  try simp only [qq1, qq2, qq3, Act.put, qq4, qq5, qq6]
  refine tkU 13 ?_
  try simp only [qq1, qq2, qq3, Act.put, qq4, qq5, qq6]
  refine tkU 14 ?_
  try simp only [qq1, qq2, qq3, Act.put, qq4, qq5, qq6]
  refine tkU 15 ?_
  try simp only [qq1, qq2, qq3, Act.put, qq4, qq5, qq6]
  refine tkU 16 ?_
  try simp only [qq1, qq2, qq3, Act.put, qq4, qq5, qq6]
  refine tkU 17 ?_
  try simp only [qq1, qq2, qq3, Act.put, qq4, qq5, qq6]
  refine tkV 18 ?_
  try simp only [qq1, qq2, qq3, Act.put, qq4, qq5, qq6]
  refine tkV 19 ?_
  try simp only [qq1, qq2, qq3, Act.put, qq4, qq5, qq6]
  refine wpT_done (by kernel_rfl) ?_ _
  obtain ⟨x0, x1, x2, x3, x4, x5, x6, x7, HBF⟩ := hHeld
  have hbF := below_ext HBw.out HBF.out
  clear x0 x1 x2 x3 x4 x5 x6 x7
  go_wp2
  go_ret
  exact ⟨rfl, hbF⟩
set_option maxHeartbeats 12800000 in
theorem rver_l (P Q G : Int) (Y : Option Addr) (ys : List Int) (yn yc : Nat) (B : Option Addr) (rows : List Row) (bn bc : Nat) (A : Option Addr) (al : List Int) (na ca : Nat) (C : Int) (Z : Option Addr) (zs : List Int) (nz cz : Nat) (hyn : Hid (ys.length = yn)) (hbn : Hid (rows.length = bn)) (han : Hid (al.length = na)) (hzn : Hid (zs.length = nz)) (hna : na < 1000000) (hnz : nz < 1000000) (hQ : Q < 9223372036854775808) (s : ByteArray) (hs : s.size ≤ 1000) (HC : Hid (chkL P Q G C ys rows al zs = true)) (hr : Hid (labB (bys s) = false)) (w : World) (hY : Hid (Sl w Y ys)) (hB : Hid (Rw w B rows)) (hA : Hid (Sl w A al)) (hZ : Hid (Sl w Z zs)) :
    Calls Tryz.prog 84 #[gv P Q G, relV Y yn yc B bn bc, .string s, prvL A na ca C Z nz cz] w fun e' w' => e' = .returned (.bool false) ∧ Below w.heap.size w w' := by
  obtain ⟨w0, HW, HBw, kC⟩ := stz5 P Q G Y yn yc B bn bc A na ca C Z nz cz w
  have kY := Lib.hid (show ∀ u : World, Hid (Below w0.heap.size w0 u) → Hid (Sl u Y ys) from fun u h => Lib.hid ((hY.out.below) (below_ext HBw.out h.out)))
  have kB := Lib.hid (show ∀ u : World, Hid (Below w0.heap.size w0 u) → Hid (Rw u B rows) from fun u h => Lib.hid ((hB.out.below) (below_ext HBw.out h.out)))
  have kA := Lib.hid (show ∀ u : World, Hid (Below w0.heap.size w0 u) → Hid (Sl u A al) from fun u h => Lib.hid ((hA.out.below) (below_ext HBw.out h.out)))
  have kZ := Lib.hid (show ∀ u : World, Hid (Below w0.heap.size w0 u) → Hid (Sl u Z zs) from fun u h => Lib.hid ((hZ.out.below) (below_ext HBw.out h.out)))
  have HB_0 : Hid (Below w0.heap.size w0 w0) := Lib.hid (Below.refl _ _)
  clear hY hB hA hZ
  go_enter Tryz.func84, Tryz.ntmps84
  go_wp2_with fail
  rw [HW.out]
  obtain ⟨zc0, zc1, zc2, zc3, zc4, zc5, zc6, zc7⟩ := kC.out _ HB_0
  clear zc0 zc1 zc2 zc3 zc4 zc5 zc6 zc7
  have hS := Lib.hid (show ∀ u1 u2 : World, Hid (Below w0.heap.size w0 u1) → Below u1.heap.size u1 u2 → (u2.cell? ⟨w.heap.size, 0, none⟩ = some (.int .i64 P) ∧ u2.cell? ⟨w.heap.size, 1, none⟩ = some (.int .i64 Q) ∧ u2.cell? ⟨w.heap.size, 2, none⟩ = some (.int .i64 G) ∧ u2.cell? ⟨w.heap.size + 1, 0, none⟩ = some (.slice Y yn yc) ∧ u2.cell? ⟨w.heap.size + 1, 1, none⟩ = some (.slice B bn bc) ∧ u2.cell? ⟨w.heap.size + 2, 0, none⟩ = some (.slice A na ca) ∧ u2.cell? ⟨w.heap.size + 2, 1, none⟩ = some (.int .i64 C) ∧ u2.cell? ⟨w.heap.size + 2, 2, none⟩ = some (.slice Z nz cz) ∧ Hid (Below w0.heap.size w0 u2)) from fun u1 u2 h1 h2 => by
    have h3 := Lib.hid (below_ext h1.out h2)
    obtain ⟨y0, y1, y2, y3, y4, y5, y6, y7⟩ := kC.out _ h3
    exact ⟨y0, y1, y2, y3, y4, y5, y6, y7, h3⟩)
  refine wp_region_T (S := fun w' => w'.cell? ⟨w.heap.size, 0, none⟩ = some (.int .i64 P) ∧ w'.cell? ⟨w.heap.size, 1, none⟩ = some (.int .i64 Q) ∧ w'.cell? ⟨w.heap.size, 2, none⟩ = some (.int .i64 G) ∧ w'.cell? ⟨w.heap.size + 1, 0, none⟩ = some (.slice Y yn yc) ∧ w'.cell? ⟨w.heap.size + 1, 1, none⟩ = some (.slice B bn bc) ∧ w'.cell? ⟨w.heap.size + 2, 0, none⟩ = some (.slice A na ca) ∧ w'.cell? ⟨w.heap.size + 2, 1, none⟩ = some (.int .i64 C) ∧ w'.cell? ⟨w.heap.size + 2, 2, none⟩ = some (.slice Z nz cz) ∧ Hid (Below w0.heap.size w0 w')) (E := []) (by kernel_rfl) (hS.out _ _ HB_0 ((Below.refl _ _).drew)) (fun hHeld => ?_)
  refine tkV 0 ?_
  try simp only [qq1, qq2, qq3, Act.put, qq4, qq5, qq6]
  refine tkV 1 ?_
  try simp only [qq1, qq2, qq3, Act.put, qq4, qq5, qq6]
  refine tkV 2 ?_
  try simp only [qq1, qq2, qq3, Act.put, qq4, qq5, qq6]
  refine wpT_one (i := 3) (by kernel_rfl) rfl (fun K hK => ?_)
  go_simp
  (with_reducible refine (rcheck_w17 P Q G Y ys yn yc B rows bn bc A al na ca C Z zs nz cz hyn hbn han hzn hna hnz hQ true HC _ ?_ ?_ ?_ ?_).mono ?_); (go_split_ands; exact kY.out _ (by assumption)); (go_split_ands; exact kB.out _ (by assumption)); (go_split_ands; exact kA.out _ (by assumption)); (go_split_ands; exact kZ.out _ (by assumption)); rintro e wA ⟨rfl, hbA⟩
  refine hK.out _ _ ?_ (fun hHeld => ?_)
  · (go_split_ands; exact hS.out _ _ (by assumption) hbA)
  clear hK K
  try simp only [qq1, qq2, qq3, Act.put, qq4, qq5, qq6]
  refine tkV 4 ?_
  try simp only [qq1, qq2, qq3, Act.put, qq4, qq5, qq6]
  refine tkV 5 ?_
  try simp only [qq1, qq2, qq3, Act.put, qq4, qq5, qq6]
  refine wpT_one (i := 6) (by kernel_rfl) rfl (fun K hK => ?_)
  go_simp
  (with_reducible refine (rlabel_any s hs false hr _).mono ?_); rintro e wB ⟨rfl, rfl⟩
  refine hK.out _ _ ?_ (fun hHeld => ?_)
  · (go_split_ands; exact ⟨by assumption, by assumption, by assumption, by assumption, by assumption, by assumption, by assumption, by assumption, by assumption⟩)
  clear hK K
  try simp only [qq1, qq2, qq3, Act.put, qq4, qq5, qq6]
  refine tkV 7 ?_
  try simp only [qq1, qq2, qq3, Act.put, qq4, qq5, qq6]
  refine tkV 8 ?_
  try simp only [qq1, qq2, qq3, Act.put, qq4, qq5, qq6]
  refine tkU 9 ?_
  try simp only [qq1, qq2, qq3, Act.put, qq4, qq5, qq6]
  refine tkU 10 ?_
  try simp only [qq1, qq2, qq3, Act.put, qq4, qq5, qq6]
  refine tkU 11 ?_
  try simp only [qq1, qq2, qq3, Act.put, qq4, qq5, qq6]
  refine tkU 12 ?_
  try simp only [qq1, qq2, qq3, Act.put, qq4, qq5, qq6]
  refine tkU 13 ?_
  try simp only [qq1, qq2, qq3, Act.put, qq4, qq5, qq6]
  refine tkU 14 ?_
  try simp only [qq1, qq2, qq3, Act.put, qq4, qq5, qq6]
  refine tkU 15 ?_
  try simp only [qq1, qq2, qq3, Act.put, qq4, qq5, qq6]
  refine tkU 16 ?_
  try simp only [qq1, qq2, qq3, Act.put, qq4, qq5, qq6]
  refine tkU 17 ?_
  try simp only [qq1, qq2, qq3, Act.put, qq4, qq5, qq6]
  refine tkV 18 ?_
  try simp only [qq1, qq2, qq3, Act.put, qq4, qq5, qq6]
  refine tkV 19 ?_
  try simp only [qq1, qq2, qq3, Act.put, qq4, qq5, qq6]
  refine wpT_done (by kernel_rfl) ?_ _
  obtain ⟨x0, x1, x2, x3, x4, x5, x6, x7, HBF⟩ := hHeld
  have hbF := below_ext HBw.out HBF.out
  clear x0 x1 x2 x3 x4 x5 x6 x7
  go_wp2
  go_ret
  exact ⟨rfl, hbF⟩
set_option maxHeartbeats 12800000 in
theorem rver_o (P Q G : Int) (Y : Option Addr) (ys : List Int) (yn yc : Nat) (B : Option Addr) (rows : List Row) (bn bc : Nat) (A : Option Addr) (al : List Int) (na ca : Nat) (C : Int) (Z : Option Addr) (zs : List Int) (nz cz : Nat) (hyn : Hid (ys.length = yn)) (hbn : Hid (rows.length = bn)) (han : Hid (al.length = na)) (hzn : Hid (zs.length = nz)) (hna : na < 1000000) (hnz : nz < 1000000) (hQ : Q < 9223372036854775808) (s : ByteArray) (hs : s.size ≤ 1000) (HC : Hid (chkL P Q G C ys rows al zs = true)) (hr : Hid (labB (bys s) = true)) (hb9 : bn ≤ 900) (okg : Hid (okL [P, Q, G])) (oky : Hid (okL ys)) (oka : Hid (okL al)) (okr : Hid (∀ k, k < rows.length → okL (rows.getD k noRow).xs)) (hQ1 : 2 ≤ Q) (hQ2 : Q < 2305843009213693952) (V : Int) (HV : Kp (chalV P Q G (bys s) ys rows al = V)) (w : World) (hY : Hid (Sl w Y ys)) (hB : Hid (Rw w B rows)) (hA : Hid (Sl w A al)) (hZ : Hid (Sl w Z zs)) :
    Calls Tryz.prog 84 #[gv P Q G, relV Y yn yc B bn bc, .string s, prvL A na ca C Z nz cz] w fun e' w' => e' = .returned (.bool (C == V)) ∧ Below w.heap.size w w' := by
  obtain ⟨w0, HW, HBw, kC⟩ := stz5 P Q G Y yn yc B bn bc A na ca C Z nz cz w
  have kY := Lib.hid (show ∀ u : World, Hid (Below w0.heap.size w0 u) → Hid (Sl u Y ys) from fun u h => Lib.hid ((hY.out.below) (below_ext HBw.out h.out)))
  have kB := Lib.hid (show ∀ u : World, Hid (Below w0.heap.size w0 u) → Hid (Rw u B rows) from fun u h => Lib.hid ((hB.out.below) (below_ext HBw.out h.out)))
  have kA := Lib.hid (show ∀ u : World, Hid (Below w0.heap.size w0 u) → Hid (Sl u A al) from fun u h => Lib.hid ((hA.out.below) (below_ext HBw.out h.out)))
  have kZ := Lib.hid (show ∀ u : World, Hid (Below w0.heap.size w0 u) → Hid (Sl u Z zs) from fun u h => Lib.hid ((hZ.out.below) (below_ext HBw.out h.out)))
  have HB_0 : Hid (Below w0.heap.size w0 w0) := Lib.hid (Below.refl _ _)
  clear hY hB hA hZ
  go_enter Tryz.func84, Tryz.ntmps84
  go_wp2_with fail
  rw [HW.out]
  obtain ⟨zc0, zc1, zc2, zc3, zc4, zc5, zc6, zc7⟩ := kC.out _ HB_0
  clear zc0 zc1 zc2 zc3 zc4 zc5 zc6 zc7
  have hS := Lib.hid (show ∀ u1 u2 : World, Hid (Below w0.heap.size w0 u1) → Below u1.heap.size u1 u2 → (u2.cell? ⟨w.heap.size, 0, none⟩ = some (.int .i64 P) ∧ u2.cell? ⟨w.heap.size, 1, none⟩ = some (.int .i64 Q) ∧ u2.cell? ⟨w.heap.size, 2, none⟩ = some (.int .i64 G) ∧ u2.cell? ⟨w.heap.size + 1, 0, none⟩ = some (.slice Y yn yc) ∧ u2.cell? ⟨w.heap.size + 1, 1, none⟩ = some (.slice B bn bc) ∧ u2.cell? ⟨w.heap.size + 2, 0, none⟩ = some (.slice A na ca) ∧ u2.cell? ⟨w.heap.size + 2, 1, none⟩ = some (.int .i64 C) ∧ u2.cell? ⟨w.heap.size + 2, 2, none⟩ = some (.slice Z nz cz) ∧ Hid (Below w0.heap.size w0 u2)) from fun u1 u2 h1 h2 => by
    have h3 := Lib.hid (below_ext h1.out h2)
    obtain ⟨y0, y1, y2, y3, y4, y5, y6, y7⟩ := kC.out _ h3
    exact ⟨y0, y1, y2, y3, y4, y5, y6, y7, h3⟩)
  refine wp_region_T (S := fun w' => w'.cell? ⟨w.heap.size, 0, none⟩ = some (.int .i64 P) ∧ w'.cell? ⟨w.heap.size, 1, none⟩ = some (.int .i64 Q) ∧ w'.cell? ⟨w.heap.size, 2, none⟩ = some (.int .i64 G) ∧ w'.cell? ⟨w.heap.size + 1, 0, none⟩ = some (.slice Y yn yc) ∧ w'.cell? ⟨w.heap.size + 1, 1, none⟩ = some (.slice B bn bc) ∧ w'.cell? ⟨w.heap.size + 2, 0, none⟩ = some (.slice A na ca) ∧ w'.cell? ⟨w.heap.size + 2, 1, none⟩ = some (.int .i64 C) ∧ w'.cell? ⟨w.heap.size + 2, 2, none⟩ = some (.slice Z nz cz) ∧ Hid (Below w0.heap.size w0 w')) (E := []) (by kernel_rfl) (hS.out _ _ HB_0 ((Below.refl _ _).drew)) (fun hHeld => ?_)
  refine tkV 0 ?_
  try simp only [qq1, qq2, qq3, Act.put, qq4, qq5, qq6]
  refine tkV 1 ?_
  try simp only [qq1, qq2, qq3, Act.put, qq4, qq5, qq6]
  refine tkV 2 ?_
  try simp only [qq1, qq2, qq3, Act.put, qq4, qq5, qq6]
  refine wpT_one (i := 3) (by kernel_rfl) rfl (fun K hK => ?_)
  go_simp
  (with_reducible refine (rcheck_w17 P Q G Y ys yn yc B rows bn bc A al na ca C Z zs nz cz hyn hbn han hzn hna hnz hQ true HC _ ?_ ?_ ?_ ?_).mono ?_); (go_split_ands; exact kY.out _ (by assumption)); (go_split_ands; exact kB.out _ (by assumption)); (go_split_ands; exact kA.out _ (by assumption)); (go_split_ands; exact kZ.out _ (by assumption)); rintro e wA ⟨rfl, hbA⟩
  refine hK.out _ _ ?_ (fun hHeld => ?_)
  · (go_split_ands; exact hS.out _ _ (by assumption) hbA)
  clear hK K
  try simp only [qq1, qq2, qq3, Act.put, qq4, qq5, qq6]
  refine tkV 4 ?_
  try simp only [qq1, qq2, qq3, Act.put, qq4, qq5, qq6]
  refine tkV 5 ?_
  try simp only [qq1, qq2, qq3, Act.put, qq4, qq5, qq6]
  refine wpT_one (i := 6) (by kernel_rfl) rfl (fun K hK => ?_)
  go_simp
  (with_reducible refine (rlabel_any s hs true hr _).mono ?_); rintro e wB ⟨rfl, rfl⟩
  refine hK.out _ _ ?_ (fun hHeld => ?_)
  · (go_split_ands; exact ⟨by assumption, by assumption, by assumption, by assumption, by assumption, by assumption, by assumption, by assumption, by assumption⟩)
  clear hK K
  try simp only [qq1, qq2, qq3, Act.put, qq4, qq5, qq6]
  refine tkV 7 ?_
  try simp only [qq1, qq2, qq3, Act.put, qq4, qq5, qq6]
  refine tkV 8 ?_
  try simp only [qq1, qq2, qq3, Act.put, qq4, qq5, qq6]
  refine tkV 9 ?_
  try simp only [qq1, qq2, qq3, Act.put, qq4, qq5, qq6]
  refine tkV 10 ?_
  try simp only [qq1, qq2, qq3, Act.put, qq4, qq5, qq6]
  refine tkV 11 ?_
  try simp only [qq1, qq2, qq3, Act.put, qq4, qq5, qq6]
  refine tkV 12 ?_
  try simp only [qq1, qq2, qq3, Act.put, qq4, qq5, qq6]
  refine tkV 13 ?_
  try simp only [qq1, qq2, qq3, Act.put, qq4, qq5, qq6]
  refine tkV 14 ?_
  try simp only [qq1, qq2, qq3, Act.put, qq4, qq5, qq6]
  refine tkV 15 ?_
  try simp only [qq1, qq2, qq3, Act.put, qq4, qq5, qq6]
  refine wpT_one (i := 16) (by kernel_rfl) rfl (fun K hK => ?_)
  go_simp
  (with_reducible refine (rchal17_ok P Q G Y ys yn yc B rows bn bc A al na ca s hs hr hyn hbn han hb9 okg oky oka okr hQ1 hQ2 V HV _ ?_ ?_ ?_).mono ?_); (go_split_ands; exact kY.out _ (by assumption)); (go_split_ands; exact kB.out _ (by assumption)); (go_split_ands; exact kA.out _ (by assumption)); rintro e wA ⟨rfl, hbA⟩
  refine hK.out _ _ ?_ (fun hHeld => ?_)
  · (go_split_ands; exact hS.out _ _ (by assumption) hbA)
  clear hK K
  try simp only [qq1, qq2, qq3, Act.put, qq4, qq5, qq6]
  refine tkV 17 ?_
  try simp only [qq1, qq2, qq3, Act.put, qq4, qq5, qq6]
  refine tkV 18 ?_
  try simp only [qq1, qq2, qq3, Act.put, qq4, qq5, qq6]
  refine tkV 19 ?_
  try simp only [qq1, qq2, qq3, Act.put, qq4, qq5, qq6]
  refine wpT_done (by kernel_rfl) ?_ _
  obtain ⟨x0, x1, x2, x3, x4, x5, x6, x7, HBF⟩ := hHeld
  have hbF := below_ext HBw.out HBF.out
  clear x0 x1 x2 x3 x4 x5 x6 x7
  go_wp2
  go_ret
  exact ⟨rfl, hbF⟩
theorem rver_any (P Q G : Int) (Y : Option Addr) (ys : List Int) (yn yc : Nat) (B : Option Addr) (rows : List Row) (bn bc : Nat) (A : Option Addr) (al : List Int) (na ca : Nat) (C : Int) (Z : Option Addr) (zs : List Int) (nz cz : Nat) (hyn : Hid (ys.length = yn)) (hbn : Hid (rows.length = bn)) (han : Hid (al.length = na)) (hzn : Hid (zs.length = nz)) (hna : na < 1000000) (hnz : nz < 1000000) (hQ : Q < 9223372036854775808) (s : ByteArray) (hs : s.size ≤ 1000) (r : Bool) (hr : Kp (verL P Q G C (bys s) ys rows al zs = r)) (w : World) (hY : Hid (Sl w Y ys)) (hB : Hid (Rw w B rows)) (hA : Hid (Sl w A al)) (hZ : Hid (Sl w Z zs)) :
    Calls Tryz.prog 84 #[gv P Q G, relV Y yn yc B bn bc, .string s, prvL A na ca C Z nz cz] w fun e' w' => e' = .returned (.bool r) ∧ Below w.heap.size w w' := by
  cases hc : chkL P Q G C ys rows al zs with
  | false =>
    obtain rfl : r = false := by rw [← hr.1, verL, hc]; rfl
    exact rver_f P Q G Y ys yn yc B rows bn bc A al na ca C Z zs nz cz hyn hbn han hzn hna hnz hQ s hs (Lib.hid hc) w hY hB hA hZ
  | true =>
    have hcc := hc
    simp only [chkL, Bool.and_eq_true] at hcc
    obtain ⟨hg, hcb⟩ := hcc
    obtain ⟨v1, v2, v3, v4, v5, v6, v7, v8⟩ := validR_parts hg
    obtain ⟨p1, p2, p3, p4⟩ := validG_P v1
    obtain ⟨okg, oky, okr⟩ := valid_ok hg hB.out
    have hb9 : bn ≤ 900 := by rw [← hbn.out]; omega
    have oka : okL al := by rw [← (checkB_parts hcb).2.2.2.2]; exact sim_ok17 p1 p2 (by omega)
    cases hlb : labB (bys s) with
    | false =>
      obtain rfl : r = false := by rw [← hr.1, verL, hlb, Bool.false_and, Bool.and_false]
      exact rver_l P Q G Y ys yn yc B rows bn bc A al na ca C Z zs nz cz hyn hbn han hzn hna hnz hQ s hs (Lib.hid hc) (Lib.hid hlb) w hY hB hA hZ
    | true =>
      obtain ⟨V, hV⟩ : ∃ V, chalV P Q G (bys s) ys rows al = V := ⟨_, rfl⟩
      obtain rfl : (C == V) = r := by
        rw [← hr.1, verL, hc, hlb, hV, Bool.true_and, Bool.true_and, Bool.eq_iff_iff]
        simp only [beq_iff_eq]
        exact eq_comm
      exact rver_o P Q G Y ys yn yc B rows bn bc A al na ca C Z zs nz cz hyn hbn han hzn hna hnz hQ s hs (Lib.hid hc) (Lib.hid hlb) hb9 (Lib.hid okg) (Lib.hid oky) (Lib.hid oka) (Lib.hid okr) (by omega) (by omega) V ⟨hV⟩ w hY hB hA hZ
set_option maxHeartbeats 1600000 in
theorem eqcheck_bad (P Q G : Int) (b : Nat) (n c : Nat) (hv0 : Hid (validG P Q G = false)) (hQ : Q < 9223372036854775808) (w : World) (hv : Hid (Vars w)) :
    Calls Tryz.prog 146 #[gv P Q G, .slice (some ⟨b, 0, none⟩) n c] w fun e' w' => e' = .returned (.int .i64 1) ∧ Below w.heap.size w w' := by
  have HB0 := Lib.hid (gbox_alloc w P Q G)
  have HV0 := Lib.hid (hv.out.below (below_box0 w (gObj P Q G)))
  go_enter Tryz.func146, Tryz.ntmps146
  go_wp2_with fail
  refine (valid_any P Q G false hv0 hQ _ HV0).mono ?_
  rintro e w1 ⟨rfl, hb0⟩
  have hb1 := below_ext (below_box0 _ _) hb0
  clear hb0
  go_wp2
  go_ret
  exact ⟨rfl, hb1⟩
set_option maxHeartbeats 1600000 in
theorem eqcheck_good (P Q G : Int) (b : Nat) (xs : List Int) (c : Nat) (hlen : xs.length < 1000) (r : Int) (hr : Hid ((if xs.all (memG P Q) = true then 0 else 2) = r)) (hv0 : Hid (validG P Q G = true)) (hQ : Q < 9223372036854775808) (w : World) (hv : Hid (Vars w)) (hc : Hid (Cells w b xs)) :
    Calls Tryz.prog 146 #[gv P Q G, .slice (some ⟨b, 0, none⟩) xs.length c] w fun e' w' => e' = .returned (.int .i64 r) ∧ Below w.heap.size w w' := by
  obtain ⟨hp2, hp, hq3, hqp⟩ := validG_P hv0.out
  have HB0 := Lib.hid (gbox_alloc w P Q G)
  have HV0 := Lib.hid (hv.out.below (below_box0 w (gObj P Q G)))
  have HC0 := Lib.hid (hc.out.below (below_box0 w (gObj P Q G)))
  obtain ⟨n, hn⟩ : ∃ n, xs.length = n := ⟨_, rfl⟩
  rw [hn] at hlen ⊢
  have HN := Lib.hid hn
  clear hn
  go_enter Tryz.func146, Tryz.ntmps146
  go_wp2_with fail
  refine (valid_any P Q G true hv0 hQ _ HV0).mono ?_
  rintro e w1 ⟨rfl, hb0⟩
  have HB1 := Lib.hid (below_ext (below_box0 _ _) hb0)
  have HB1x := Lib.hid hb0
  have HG1 := Lib.hid (HB0.out.below hb0)
  have HC1 := Lib.hid (HC0.out.below hb0)
  clear hb0
  go_wp2
  go_loopw [12] (fun i wr => ∃ k : Nat, k ≤ n ∧ i = .int .i64 k ∧ Hid (xs.all (memG P Q) = (xs.drop k).all (memG P Q)) ∧ Hid (Below w1.heap.size w1 wr)) (fun i _ => n - (intOf i).toNat)
  case atStart => exact ⟨0, by omega, rfl, Lib.hid rfl, Lib.hid (Below.refl _ _)⟩
  case round =>
    obtain ⟨k, hk, rfl, HR, HBr⟩ := hrel
    by_cases hlt : k < n
    · have hkl : k < xs.length := by rw [HN.out]; exact hlt
      have hi := HC1.out.below HBr.out k hkl
      obtain ⟨c0, c1, c2⟩ := HG1.out.below HBr.out
      cases hm : memG P Q (xs.getD k 0) with
      | true =>
        have HS : Hid (xs.all (memG P Q) = (xs.drop (k + 1)).all (memG P Q)) := Lib.hid (HR.out.trans (all_drop_step hkl hm))
        obtain ⟨x, hx⟩ : ∃ x, xs.getD k 0 = x := ⟨_, rfl⟩
        rw [hx] at hi hm
        have HM := Lib.hid hm
        clear hx hm HR hkl
        go_wp2_with fail
        refine (contains_any P Q G x true (Lib.hid (by rw [conG, hv0.out, HM.out]; rfl)) hQ _ (Lib.hid (HV0.out.below (below_ext HB1x.out HBr.out)))).mono ?_
        rintro e w2 ⟨rfl, hb0⟩
        have HB2 := Lib.hid (below_ext HBr.out hb0)
        clear hb0
        go_wp2
        go_roundw
        case rel => exact ⟨k + 1, by omega, by go_num, HS, HB2⟩
        case measure => simp [intOf]; omega
      | false =>
        obtain rfl : r = 2 := by rw [← hr.out, HR.out, all_drop_hit hkl hm]; rfl
        obtain ⟨x, hx⟩ : ∃ x, xs.getD k 0 = x := ⟨_, rfl⟩
        rw [hx] at hi hm
        have HM := Lib.hid hm
        clear hx hm HR hkl
        go_wp2_with fail
        refine (contains_any P Q G x false (Lib.hid (by rw [conG, hv0.out, HM.out]; rfl)) hQ _ (Lib.hid (HV0.out.below (below_ext HB1x.out HBr.out)))).mono ?_
        rintro e w2 ⟨rfl, hb0⟩
        have HB2 := Lib.hid (below_ext (below_ext HB1.out HBr.out) hb0)
        clear hb0
        go_wp2
        go_ret
        exact ⟨rfl, HB2.out⟩
    · obtain rfl : k = n := by omega
      obtain rfl : r = 0 := by rw [← hr.out, HR.out, ← HN.out]; simp
      have HB2 := Lib.hid (below_ext HB1.out HBr.out)
      clear HR
      go_wp2
      go_ret
      exact ⟨rfl, HB2.out⟩
theorem eqcheck_any (P Q G : Int) (b : Nat) (xs : List Int) (n c : Nat) (hn : Hid (xs.length = n)) (hlen : n < 1000) (r : Int) (hr : Hid (chkG P Q G xs = r)) (hQ : Q < 9223372036854775808) (w : World) (hv : Hid (Vars w)) (hc : Hid (Cells w b xs)) :
    Calls Tryz.prog 146 #[gv P Q G, .slice (some ⟨b, 0, none⟩) n c] w fun e' w' => e' = .returned (.int .i64 r) ∧ Below w.heap.size w w' := by
  cases hval : validG P Q G with
  | false =>
    obtain rfl : r = 1 := by rw [← hr.out, chkG, hval]; rfl
    exact eqcheck_bad P Q G b n c hval hQ w hv
  | true =>
    rw [← hn.out]
    refine eqcheck_good P Q G b xs c (by rw [hn.out]; exact hlen) r ?_ hval hQ w hv hc
    rw [← hr.out, chkG, if_pos hval]; exact rfl
def eqRows (A1 B1 : Option Addr) (a b : Int) : List Row := [⟨A1, 1, 1, [a]⟩, ⟨B1, 1, 1, [b]⟩]
def EqRel (a ya b yb : Int) (w : World) (e : Ending) (w' : World) : Prop := ∃ Y B A1 B1, e = .returned (relV Y 2 2 B 2 2) ∧ Sl w' Y [ya, yb] ∧ Rw w' B (eqRows A1 B1 a b) ∧ Below w.heap.size w w'
theorem five (w : World) (o1 o2 o3 o4 o5 : Obj) : let W := ((((w.alloc o1).alloc o2).alloc o3).alloc o4).alloc o5
    W.heap[w.heap.size]? = some o1 ∧ W.heap[w.heap.size + 1]? = some o2 ∧ W.heap[w.heap.size + 1 + 1]? = some o3 ∧ W.heap[w.heap.size + 1 + 1 + 1]? = some o4 ∧ W.heap[w.heap.size + 1 + 1 + 1 + 1]? = some o5 ∧ Below w.heap.size w W := by
  have e1 : (w.alloc o1).heap.size = w.heap.size + 1 := by simp
  have e2 : ((w.alloc o1).alloc o2).heap.size = w.heap.size + 1 + 1 := by simp
  have e3 : (((w.alloc o1).alloc o2).alloc o3).heap.size = w.heap.size + 1 + 1 + 1 := by simp
  have e4 : ((((w.alloc o1).alloc o2).alloc o3).alloc o4).heap.size = w.heap.size + 1 + 1 + 1 + 1 := by simp
  have b1 := below_box0 (w.alloc o1) o2
  have b2 := below_ext b1 (below_box0 _ o3)
  have b3 := below_ext b2 (below_box0 _ o4)
  have b4 := below_ext b3 (below_box0 _ o5)
  have c2 := below_ext (below_ext (below_box0 ((w.alloc o1).alloc o2) o3) (below_box0 _ o4)) (below_box0 _ o5)
  have c3 := below_ext (below_box0 (((w.alloc o1).alloc o2).alloc o3) o4) (below_box0 _ o5)
  have c4 := below_box0 ((((w.alloc o1).alloc o2).alloc o3).alloc o4) o5
  refine ⟨(b4.block _ (by omega)).trans (heap_alloc_new _ _), (c2.block _ (by omega)).trans ?_, (c3.block _ (by omega)).trans ?_, (c4.block _ (by omega)).trans ?_, ?_, below_ext (below_box0 w o1) b4⟩
  · rw [← e1]; exact heap_alloc_new _ _
  · rw [← e2]; exact heap_alloc_new _ _
  · rw [← e3]; exact heap_alloc_new _ _
  · rw [← e4]; exact heap_alloc_new _ _
theorem sl_blk {w : World} {g : Nat} {cs : Array Value} {T : TypeId} {xs : List Int} (h : w.heap[g]? = some (.cells cs T)) (hc : ∀ k, k < xs.length → cs[k]? = some (.int .i64 (xs.getD k 0))) : Sl w (some ⟨g, 0, none⟩) xs :=
  fun k hk => ⟨g, 0, rfl, by rw [Nat.zero_add, cell_blk h]; exact hc k hk⟩
theorem rw_two {w : World} {g : Nat} {T : TypeId} {A1 B1 : Option Addr} {a b : Int} (h : w.heap[g]? = some (.cells #[.slice A1 1 1, .slice B1 1 1] T)) (ha : Sl w A1 [a]) (hb : Sl w B1 [b]) : Rw w (some ⟨g, 0, none⟩) (eqRows A1 B1 a b) := fun k hk => by
  match k, hk with
  | 0, _ => exact ⟨⟨g, 0, rfl, by rw [cell_blk h]; rfl⟩, rfl, ha⟩
  | 1, _ => exact ⟨⟨g, 0, rfl, by rw [cell_blk h]; rfl⟩, rfl, hb⟩
set_option maxHeartbeats 3200000 in
theorem erelation_any (a ya b yb : Int) (w : World) : Calls Tryz.prog 148 #[.int .i64 a, .int .i64 ya, .int .i64 b, .int .i64 yb] w (EqRel a ya b yb w) := by
  go_enter Tryz.func148, Tryz.ntmps148
  go_wp2
  obtain ⟨h0, h1, h2, h3, h4, hb⟩ := five w (.cells #[.slice (some ⟨w.heap.size + 1, 0, none⟩) 2 2, .slice (some ⟨w.heap.size + 1 + 1 + 1 + 1, 0, none⟩) 2 2] 128) (.cells #[.int .i64 ya, .int .i64 yb] 3) (.cells #[.int .i64 a] 3) (.cells #[.int .i64 b] 3) (.cells #[.slice (some ⟨w.heap.size + 1 + 1, 0, none⟩) 1 1, .slice (some ⟨w.heap.size + 1 + 1 + 1, 0, none⟩) 1 1] 24)
  exact bodyPost_ret (v := relV (some ⟨w.heap.size + 1, 0, none⟩) 2 2 (some ⟨w.heap.size + 1 + 1 + 1 + 1, 0, none⟩) 2 2) (results_cell1 (p := 8) (ty := 128) rfl _ _ ⟨w.heap.size, 0, none⟩ _ rfl (run_loadVar_row _ _ _ _ _ _ _ h0 Tryz.underlying128 rfl (by kernel_rfl))) rfl
    ⟨_, _, some ⟨w.heap.size + 1 + 1, 0, none⟩, some ⟨w.heap.size + 1 + 1 + 1, 0, none⟩, rfl, sl_blk h1 (fun k hk => by match k, hk with | 0, _ => rfl | 1, _ => rfl), rw_two h4 (sl_blk h2 (fun k hk => by match k, hk with | 0, _ => rfl)) (sl_blk h3 (fun k hk => by match k, hk with | 0, _ => rfl)), hb⟩
set_option maxHeartbeats 3200000 in
theorem rerelation_any (a ya b yb : Int) (w : World) : Calls Tryz.prog 85 #[.int .i64 a, .int .i64 ya, .int .i64 b, .int .i64 yb] w (EqRel a ya b yb w) := by
  go_enter Tryz.func85, Tryz.ntmps85
  go_wp2
  obtain ⟨h0, h1, h2, h3, h4, hb⟩ := five w (.cells #[.slice (some ⟨w.heap.size + 1, 0, none⟩) 2 2, .slice (some ⟨w.heap.size + 1 + 1 + 1 + 1, 0, none⟩) 2 2] 128) (.cells #[.int .i64 ya, .int .i64 yb] 3) (.cells #[.int .i64 a] 3) (.cells #[.int .i64 b] 3) (.cells #[.slice (some ⟨w.heap.size + 1 + 1, 0, none⟩) 1 1, .slice (some ⟨w.heap.size + 1 + 1 + 1, 0, none⟩) 1 1] 24)
  exact bodyPost_ret (v := relV (some ⟨w.heap.size + 1, 0, none⟩) 2 2 (some ⟨w.heap.size + 1 + 1 + 1 + 1, 0, none⟩) 2 2) (results_cell1 (p := 8) (ty := 128) rfl _ _ ⟨w.heap.size, 0, none⟩ _ rfl (run_loadVar_row _ _ _ _ _ _ _ h0 Tryz.underlying128 rfl (by kernel_rfl))) rfl
    ⟨_, _, some ⟨w.heap.size + 1 + 1, 0, none⟩, some ⟨w.heap.size + 1 + 1 + 1, 0, none⟩, rfl, sl_blk h1 (fun k hk => by match k, hk with | 0, _ => rfl | 1, _ => rfl), rw_two h4 (sl_blk h2 (fun k hk => by match k, hk with | 0, _ => rfl)) (sl_blk h3 (fun k hk => by match k, hk with | 0, _ => rfl)), hb⟩
theorem cells4 (w : World) (T : TypeId) (a b c d : Int) : Cells (w.alloc (.cells #[.int .i64 a, .int .i64 b, .int .i64 c, .int .i64 d] T)) w.heap.size [a, b, c, d] := by
  intro k hk
  rw [World.cell?_alloc_at _ _ _ _ rfl]
  match k, hk with
  | 0, _ => rfl
  | 1, _ => rfl
  | 2, _ => rfl
  | 3, _ => rfl
def eqVer (P Q G a ya b yb C : Int) (lb al zs : List Int) : Bool := chkG P Q G [a, ya, b, yb] == 0 && verL P Q G C lb [ya, yb] (eqRows none none a b) al zs
theorem verL_addr {P Q G a b C : Int} {lb ys al zs : List Int} (A1 B1 : Option Addr) : verL P Q G C lb ys (eqRows A1 B1 a b) al zs = verL P Q G C lb ys (eqRows none none a b) al zs := rfl
set_option maxRecDepth 100000 in
theorem stz6 (P : Int) (Q : Int) (G : Int) (A : Option Addr) (na : Nat) (ca : Nat) (C : Int) (Z : Option Addr) (nz : Nat) (cz : Nat) (w : World) : ∃ w0, Hid (((w.alloc (gObj P Q G)).alloc (prObjL A na ca C Z nz cz)) = w0) ∧ Hid (Below w.heap.size w w0) ∧ Hid (∀ u : World, Hid (Below w0.heap.size w0 u) → u.cell? ⟨w.heap.size, 0, none⟩ = some (.int .i64 P) ∧ u.cell? ⟨w.heap.size, 1, none⟩ = some (.int .i64 Q) ∧ u.cell? ⟨w.heap.size, 2, none⟩ = some (.int .i64 G) ∧ u.cell? ⟨w.heap.size + 1, 0, none⟩ = some (.slice A na ca) ∧ u.cell? ⟨w.heap.size + 1, 1, none⟩ = some (.int .i64 C) ∧ u.cell? ⟨w.heap.size + 1, 2, none⟩ = some (.slice Z nz cz)) := by
  obtain ⟨w0, hW⟩ : ∃ W, ((w.alloc (gObj P Q G)).alloc (prObjL A na ca C Z nz cz)) = W := ⟨_, rfl⟩
  have HBw : Hid (Below w.heap.size w w0) := Lib.hid (by rw [← hW]; exact below_two (Below.refl _ _))
  have hc : w0.cell? ⟨w.heap.size, 0, none⟩ = some (.int .i64 P) ∧ w0.cell? ⟨w.heap.size, 1, none⟩ = some (.int .i64 Q) ∧ w0.cell? ⟨w.heap.size, 2, none⟩ = some (.int .i64 G) ∧ w0.cell? ⟨w.heap.size + 1, 0, none⟩ = some (.slice A na ca) ∧ w0.cell? ⟨w.heap.size + 1, 1, none⟩ = some (.int .i64 C) ∧ w0.cell? ⟨w.heap.size + 1, 2, none⟩ = some (.slice Z nz cz) := by rw [← hW]; exact ⟨cell_below (allocs_cell (by simp) (by rfl)) (below_box0 _ _), cell_below (allocs_cell (by simp) (by rfl)) (below_box0 _ _), cell_below (allocs_cell (by simp) (by rfl)) (below_box0 _ _), allocs_cell (by simp) (by rfl), allocs_cell (by simp) (by rfl), allocs_cell (by simp) (by rfl)⟩
  have kC := Lib.hid (show ∀ u : World, Hid (Below w0.heap.size w0 u) → u.cell? ⟨w.heap.size, 0, none⟩ = some (.int .i64 P) ∧ u.cell? ⟨w.heap.size, 1, none⟩ = some (.int .i64 Q) ∧ u.cell? ⟨w.heap.size, 2, none⟩ = some (.int .i64 G) ∧ u.cell? ⟨w.heap.size + 1, 0, none⟩ = some (.slice A na ca) ∧ u.cell? ⟨w.heap.size + 1, 1, none⟩ = some (.int .i64 C) ∧ u.cell? ⟨w.heap.size + 1, 2, none⟩ = some (.slice Z nz cz) from fun u h => ⟨cell_below hc.1 h.out, cell_below hc.2.1 h.out, cell_below hc.2.2.1 h.out, cell_below hc.2.2.2.1 h.out, cell_below hc.2.2.2.2.1 h.out, cell_below hc.2.2.2.2.2 h.out⟩)
  exact ⟨w0, Lib.hid hW, HBw, kC⟩
set_option maxHeartbeats 12800000 in
theorem eqvr_n (P Q G a ya b yb : Int) (A : Option Addr) (al : List Int) (na ca : Nat) (C : Int) (Z : Option Addr) (zs : List Int) (nz cz : Nat) (han : Hid (al.length = na)) (hzn : Hid (zs.length = nz)) (hna : na < 1000000) (hnz : nz < 1000000) (hQ : Q < 9223372036854775808) (s : ByteArray) (r : Int) (HCK : Hid (chkG P Q G [a, ya, b, yb] = r)) (hne : (r == 0) = false) (w : World) (hv : Hid (Vars w)) (hd : Hid (VarsD w)) (hA : Hid (Sl w A al)) (hZ : Hid (Sl w Z zs)) :
    Calls Tryz.prog 82 #[gv P Q G, .int .i64 a, .int .i64 ya, .int .i64 b, .int .i64 yb, .string s, prvL A na ca C Z nz cz] w fun e' w' => e' = .returned (.bool false) ∧ Below w.heap.size w w' := by
  have e0 : ((r : Int) == 0) = false := by simpa using hne
  obtain ⟨w0, HW, HBw, kC⟩ := stz6 P Q G A na ca C Z nz cz w
  have kV := Lib.hid (show ∀ u : World, Hid (Below w0.heap.size w0 u) → Hid (Vars u) from fun u h => Lib.hid ((hv.out.below) (below_ext HBw.out h.out)))
  have kA := Lib.hid (show ∀ u : World, Hid (Below w0.heap.size w0 u) → Hid (Sl u A al) from fun u h => Lib.hid ((hA.out.below) (below_ext HBw.out h.out)))
  have kZ := Lib.hid (show ∀ u : World, Hid (Below w0.heap.size w0 u) → Hid (Sl u Z zs) from fun u h => Lib.hid ((hZ.out.below) (below_ext HBw.out h.out)))
  have kD := Lib.hid (show ∀ u : World, Hid (Below w0.heap.size w0 u) → Hid (VarsD u) from fun u h => Lib.hid ((hd.out.below) (below_ext HBw.out h.out)))
  have HB_0 : Hid (Below w0.heap.size w0 w0) := Lib.hid (Below.refl _ _)
  clear hv hd hA hZ
  go_enter Tryz.func82, Tryz.ntmps82
  go_wp2_with fail
  rw [HW.out]
  obtain ⟨zc0, zc1, zc2, zc3, zc4, zc5⟩ := kC.out _ HB_0
  clear zc0 zc1 zc2 zc3 zc4 zc5
  have hS := Lib.hid (show ∀ u1 u2 : World, Hid (Below w0.heap.size w0 u1) → Below u1.heap.size u1 u2 → (u2.cell? ⟨w.heap.size, 0, none⟩ = some (.int .i64 P) ∧ u2.cell? ⟨w.heap.size, 1, none⟩ = some (.int .i64 Q) ∧ u2.cell? ⟨w.heap.size, 2, none⟩ = some (.int .i64 G) ∧ u2.cell? ⟨w.heap.size + 1, 0, none⟩ = some (.slice A na ca) ∧ u2.cell? ⟨w.heap.size + 1, 1, none⟩ = some (.int .i64 C) ∧ u2.cell? ⟨w.heap.size + 1, 2, none⟩ = some (.slice Z nz cz) ∧ Hid (Below w0.heap.size w0 u2)) from fun u1 u2 h1 h2 => by
    have h3 := Lib.hid (below_ext h1.out h2)
    obtain ⟨y0, y1, y2, y3, y4, y5⟩ := kC.out _ h3
    exact ⟨y0, y1, y2, y3, y4, y5, h3⟩)
  refine wp_region_T (S := fun w' => w'.cell? ⟨w.heap.size, 0, none⟩ = some (.int .i64 P) ∧ w'.cell? ⟨w.heap.size, 1, none⟩ = some (.int .i64 Q) ∧ w'.cell? ⟨w.heap.size, 2, none⟩ = some (.int .i64 G) ∧ w'.cell? ⟨w.heap.size + 1, 0, none⟩ = some (.slice A na ca) ∧ w'.cell? ⟨w.heap.size + 1, 1, none⟩ = some (.int .i64 C) ∧ w'.cell? ⟨w.heap.size + 1, 2, none⟩ = some (.slice Z nz cz) ∧ Hid (Below w0.heap.size w0 w')) (E := []) (by kernel_rfl) (hS.out _ _ HB_0 ((Below.refl _ _).drew)) (fun hHeld => ?_)
  refine tkV 0 ?_
  try simp only [qq1, qq2, qq3, Act.put, qq4, qq5, qq6]
  refine tkV 1 ?_
  try simp only [qq1, qq2, qq3, Act.put, qq4, qq5, qq6]
  refine tkV 2 ?_
  try simp only [qq1, qq2, qq3, Act.put, qq4, qq5, qq6]
  refine tkV 3 ?_
  try simp only [qq1, qq2, qq3, Act.put, qq4, qq5, qq6]
  refine tkV 4 ?_
  try simp only [qq1, qq2, qq3, Act.put, qq4, qq5, qq6]
  refine wpT_one (i := 5) (by kernel_rfl) rfl (fun K hK => ?_)
  go_simp
  refine hK.out _ _ ?_ (fun hHeld => ?_)
  · exact hS.out _ _ (hHeld.2.2.2.2.2.2) (below_box0 _ _)
  clear hK K
  try simp only [qq1, qq2, qq3, Act.put, qq4, qq5, qq6]
  refine wpT_one (i := 6) (by kernel_rfl) rfl (fun K hK => ?_)
  go_simp
  refine (eqcheck_any P Q G w0.heap.size [a, ya, b, yb] 4 4 (Lib.hid rfl) (by omega) r HCK hQ _ (kV.out _ (hHeld.2.2.2.2.2.2)) (Lib.hid (cells4 w0.drew _ a ya b yb))).mono ?_
  rintro e wA ⟨rfl, hbA⟩
  refine hK.out _ _ ?_ (fun hHeld => ?_)
  · exact hS.out _ _ (hHeld.2.2.2.2.2.2) hbA
  clear hK K
  try simp only [qq1, qq2, qq3, Act.put, qq4, qq5, qq6]
  refine tkV 7 ?_
  try simp only [qq1, qq2, qq3, Act.put, qq4, qq5, qq6]
  refine tkV 8 ?_
  try simp only [qq1, qq2, qq3, Act.put, qq4, qq5, qq6]
  refine tkU 9 ?_
  try simp only [qq1, qq2, qq3, Act.put, qq4, qq5, qq6]
  refine tkU 10 ?_
  try simp only [qq1, qq2, qq3, Act.put, qq4, qq5, qq6]
  refine tkU 11 ?_
  try simp only [qq1, qq2, qq3, Act.put, qq4, qq5, qq6]
  refine tkU 12 ?_
  try simp only [qq1, qq2, qq3, Act.put, qq4, qq5, qq6]
  refine tkU 13 ?_
  try simp only [qq1, qq2, qq3, Act.put, qq4, qq5, qq6]
  refine tkU 14 ?_
  try simp only [qq1, qq2, qq3, Act.put, qq4, qq5, qq6]
  refine tkU 15 ?_
  try simp only [qq1, qq2, qq3, Act.put, qq4, qq5, qq6]
  refine tkU 16 ?_
  try simp only [qq1, qq2, qq3, Act.put, qq4, qq5, qq6]
  refine tkU 17 ?_
  try simp only [qq1, qq2, qq3, Act.put, qq4, qq5, qq6]
  refine tkV 18 ?_
  try simp only [qq1, qq2, qq3, Act.put, qq4, qq5, qq6]
  refine tkV 19 ?_
  try simp only [qq1, qq2, qq3, Act.put, qq4, qq5, qq6]
  refine wpT_done (by kernel_rfl) ?_ _
  obtain ⟨x0, x1, x2, x3, x4, x5, HBF⟩ := hHeld
  have hbF := below_ext HBw.out HBF.out
  clear x0 x1 x2 x3 x4 x5
  go_wp2
  go_ret
  exact ⟨rfl, hbF⟩
set_option maxHeartbeats 12800000 in
theorem eqvr_y (P Q G a ya b yb : Int) (A : Option Addr) (al : List Int) (na ca : Nat) (C : Int) (Z : Option Addr) (zs : List Int) (nz cz : Nat) (han : Hid (al.length = na)) (hzn : Hid (zs.length = nz)) (hna : na < 1000000) (hnz : nz < 1000000) (hQ : Q < 9223372036854775808) (s : ByteArray) (hs : s.size ≤ 1000) (HCK : Hid (chkG P Q G [a, ya, b, yb] = 0)) (r : Bool) (HCL : Kp (verL P Q G C (bys s) [ya, yb] (eqRows none none a b) al zs = r)) (w : World) (hv : Hid (Vars w)) (hd : Hid (VarsD w)) (hA : Hid (Sl w A al)) (hZ : Hid (Sl w Z zs)) :
    Calls Tryz.prog 82 #[gv P Q G, .int .i64 a, .int .i64 ya, .int .i64 b, .int .i64 yb, .string s, prvL A na ca C Z nz cz] w fun e' w' => e' = .returned (.bool r) ∧ Below w.heap.size w w' := by
  obtain ⟨w0, HW, HBw, kC⟩ := stz6 P Q G A na ca C Z nz cz w
  have kV := Lib.hid (show ∀ u : World, Hid (Below w0.heap.size w0 u) → Hid (Vars u) from fun u h => Lib.hid ((hv.out.below) (below_ext HBw.out h.out)))
  have kA := Lib.hid (show ∀ u : World, Hid (Below w0.heap.size w0 u) → Hid (Sl u A al) from fun u h => Lib.hid ((hA.out.below) (below_ext HBw.out h.out)))
  have kZ := Lib.hid (show ∀ u : World, Hid (Below w0.heap.size w0 u) → Hid (Sl u Z zs) from fun u h => Lib.hid ((hZ.out.below) (below_ext HBw.out h.out)))
  have kD := Lib.hid (show ∀ u : World, Hid (Below w0.heap.size w0 u) → Hid (VarsD u) from fun u h => Lib.hid ((hd.out.below) (below_ext HBw.out h.out)))
  have HB_0 : Hid (Below w0.heap.size w0 w0) := Lib.hid (Below.refl _ _)
  clear hv hd hA hZ
  go_enter Tryz.func82, Tryz.ntmps82
  go_wp2_with fail
  rw [HW.out]
  obtain ⟨zc0, zc1, zc2, zc3, zc4, zc5⟩ := kC.out _ HB_0
  clear zc0 zc1 zc2 zc3 zc4 zc5
  have hS := Lib.hid (show ∀ u1 u2 : World, Hid (Below w0.heap.size w0 u1) → Below u1.heap.size u1 u2 → (u2.cell? ⟨w.heap.size, 0, none⟩ = some (.int .i64 P) ∧ u2.cell? ⟨w.heap.size, 1, none⟩ = some (.int .i64 Q) ∧ u2.cell? ⟨w.heap.size, 2, none⟩ = some (.int .i64 G) ∧ u2.cell? ⟨w.heap.size + 1, 0, none⟩ = some (.slice A na ca) ∧ u2.cell? ⟨w.heap.size + 1, 1, none⟩ = some (.int .i64 C) ∧ u2.cell? ⟨w.heap.size + 1, 2, none⟩ = some (.slice Z nz cz) ∧ Hid (Below w0.heap.size w0 u2)) from fun u1 u2 h1 h2 => by
    have h3 := Lib.hid (below_ext h1.out h2)
    obtain ⟨y0, y1, y2, y3, y4, y5⟩ := kC.out _ h3
    exact ⟨y0, y1, y2, y3, y4, y5, h3⟩)
  refine wp_region_T (S := fun w' => w'.cell? ⟨w.heap.size, 0, none⟩ = some (.int .i64 P) ∧ w'.cell? ⟨w.heap.size, 1, none⟩ = some (.int .i64 Q) ∧ w'.cell? ⟨w.heap.size, 2, none⟩ = some (.int .i64 G) ∧ w'.cell? ⟨w.heap.size + 1, 0, none⟩ = some (.slice A na ca) ∧ w'.cell? ⟨w.heap.size + 1, 1, none⟩ = some (.int .i64 C) ∧ w'.cell? ⟨w.heap.size + 1, 2, none⟩ = some (.slice Z nz cz) ∧ Hid (Below w0.heap.size w0 w')) (E := []) (by kernel_rfl) (hS.out _ _ HB_0 ((Below.refl _ _).drew)) (fun hHeld => ?_)
  refine tkV 0 ?_
  try simp only [qq1, qq2, qq3, Act.put, qq4, qq5, qq6]
  refine tkV 1 ?_
  try simp only [qq1, qq2, qq3, Act.put, qq4, qq5, qq6]
  refine tkV 2 ?_
  try simp only [qq1, qq2, qq3, Act.put, qq4, qq5, qq6]
  refine tkV 3 ?_
  try simp only [qq1, qq2, qq3, Act.put, qq4, qq5, qq6]
  refine tkV 4 ?_
  try simp only [qq1, qq2, qq3, Act.put, qq4, qq5, qq6]
  refine wpT_one (i := 5) (by kernel_rfl) rfl (fun K hK => ?_)
  go_simp
  refine hK.out _ _ ?_ (fun hHeld => ?_)
  · exact hS.out _ _ (hHeld.2.2.2.2.2.2) (below_box0 _ _)
  clear hK K
  try simp only [qq1, qq2, qq3, Act.put, qq4, qq5, qq6]
  refine wpT_one (i := 6) (by kernel_rfl) rfl (fun K hK => ?_)
  go_simp
  refine (eqcheck_any P Q G w0.heap.size [a, ya, b, yb] 4 4 (Lib.hid rfl) (by omega) 0 HCK hQ _ (kV.out _ (hHeld.2.2.2.2.2.2)) (Lib.hid (cells4 w0.drew _ a ya b yb))).mono ?_
  rintro e wA ⟨rfl, hbA⟩
  refine hK.out _ _ ?_ (fun hHeld => ?_)
  · exact hS.out _ _ (hHeld.2.2.2.2.2.2) hbA
  clear hK K
  try simp only [qq1, qq2, qq3, Act.put, qq4, qq5, qq6]
  refine tkV 7 ?_
  try simp only [qq1, qq2, qq3, Act.put, qq4, qq5, qq6]
  refine tkV 8 ?_
  try simp only [qq1, qq2, qq3, Act.put, qq4, qq5, qq6]
  refine tkV 9 ?_
  try simp only [qq1, qq2, qq3, Act.put, qq4, qq5, qq6]
  refine tkV 10 ?_
  try simp only [qq1, qq2, qq3, Act.put, qq4, qq5, qq6]
  refine tkV 11 ?_
  try simp only [qq1, qq2, qq3, Act.put, qq4, qq5, qq6]
  refine tkV 12 ?_
  try simp only [qq1, qq2, qq3, Act.put, qq4, qq5, qq6]
  refine tkV 13 ?_
  try simp only [qq1, qq2, qq3, Act.put, qq4, qq5, qq6]
  refine tkV 15 ?_
  try simp only [qq1, qq2, qq3, Act.put, qq4, qq5, qq6]
  refine tkV 16 ?_
  try simp only [qq1, qq2, qq3, Act.put, qq4, qq5, qq6]
  refine wpT_one (i := 14) (by kernel_rfl) rfl (fun K hK => ?_)
  go_simp
  refine (erelation_any a ya b yb _).mono ?_
  intro e wB hR
  obtain ⟨Y, B, A1, B1, rfl, hY, hB, hbA⟩ := hR
  refine hK.out _ _ ?_ (fun hHeld => ?_)
  · exact hS.out _ _ (hHeld.2.2.2.2.2.2) hbA
  clear hK K
  try simp only [qq1, qq2, qq3, Act.put, qq4, qq5, qq6]
  refine wpT_one (i := 17) (by kernel_rfl) rfl (fun K hK => ?_)
  go_simp
  refine (lver_any P Q G Y [ya, yb] 2 2 B (eqRows A1 B1 a b) 2 2 A al na ca C Z zs nz cz (Lib.hid rfl) (Lib.hid rfl) han hzn hna hnz hQ s hs r ⟨(verL_addr A1 B1).trans HCL.1⟩ _ (kV.out _ (hHeld.2.2.2.2.2.2)) (kD.out _ (hHeld.2.2.2.2.2.2)) (Lib.hid hY) (Lib.hid hB) (kA.out _ (hHeld.2.2.2.2.2.2)) (kZ.out _ (hHeld.2.2.2.2.2.2))).mono ?_
  rintro e wC ⟨rfl, hbA⟩
  refine hK.out _ _ ?_ (fun hHeld => ?_)
  · exact hS.out _ _ (hHeld.2.2.2.2.2.2) hbA
  clear hK K
  try simp only [qq1, qq2, qq3, Act.put, qq4, qq5, qq6]
  refine tkV 18 ?_
  try simp only [qq1, qq2, qq3, Act.put, qq4, qq5, qq6]
  refine tkV 19 ?_
  try simp only [qq1, qq2, qq3, Act.put, qq4, qq5, qq6]
  refine wpT_done (by kernel_rfl) ?_ _
  obtain ⟨x0, x1, x2, x3, x4, x5, HBF⟩ := hHeld
  have hbF := below_ext HBw.out HBF.out
  clear x0 x1 x2 x3 x4 x5
  go_wp2
  go_ret
  exact ⟨rfl, hbF⟩
theorem eqvr_any (P Q G a ya b yb : Int) (A : Option Addr) (al : List Int) (na ca : Nat) (C : Int) (Z : Option Addr) (zs : List Int) (nz cz : Nat) (han : Hid (al.length = na)) (hzn : Hid (zs.length = nz)) (hna : na < 1000000) (hnz : nz < 1000000) (hQ : Q < 9223372036854775808) (s : ByteArray) (hs : s.size ≤ 1000) (r : Bool) (hr : Kp (eqVer P Q G a ya b yb C (bys s) al zs = r)) (w : World) (hv : Hid (Vars w)) (hd : Hid (VarsD w)) (hA : Hid (Sl w A al)) (hZ : Hid (Sl w Z zs)) :
    Calls Tryz.prog 82 #[gv P Q G, .int .i64 a, .int .i64 ya, .int .i64 b, .int .i64 yb, .string s, prvL A na ca C Z nz cz] w fun e' w' => e' = .returned (.bool r) ∧ Below w.heap.size w w' := by
  obtain ⟨k, hk⟩ : ∃ k, chkG P Q G [a, ya, b, yb] = k := ⟨_, rfl⟩
  have hr' := hr.1
  rw [eqVer, hk] at hr'
  cases h0 : (k == 0) with
  | false =>
    obtain rfl : r = false := by rw [← hr', h0]; rfl
    exact eqvr_n P Q G a ya b yb A al na ca C Z zs nz cz han hzn hna hnz hQ s k (Lib.hid hk) h0 w hv hd hA hZ
  | true =>
    obtain rfl : k = 0 := by simpa using h0
    exact eqvr_y P Q G a ya b yb A al na ca C Z zs nz cz han hzn hna hnz hQ s hs (Lib.hid hk) r ⟨by rw [← hr']; simp⟩ w hv hd hA hZ
set_option maxHeartbeats 3200000 in
theorem fa_v (P Q G a ya b yb : Int) (HV : Hid (validG P Q G = false)) (hQ : Q < 9223372036854775808) (w : World) :
    Calls Tryz.prog 83 #[gv P Q G, .int .i64 a, .int .i64 ya, .int .i64 b, .int .i64 yb] w fun e' w' => e' = .returned (.int .i64 1) ∧ Below w.heap.size w w' := by
  obtain ⟨w0, HW, HBw, kC⟩ := stz0 P Q G w
  have HB_0 : Hid (Below w0.heap.size w0 w0) := Lib.hid (Below.refl _ _)
  go_enter Tryz.func83, Tryz.ntmps83
  go_wp2_with fail
  rw [HW.out]
  obtain ⟨zc0, zc1, zc2⟩ := kC.out _ HB_0
  go_wp2_with fail
  refine (rvalid_any P Q G false HV hQ _).mono ?_
  rintro e w1 ⟨rfl, hb0⟩
  have HB_1 := Lib.hid (below_ext HB_0.out hb0)
  clear zc0 zc1 zc2
  clear hb0
  obtain ⟨zc0, zc1, zc2⟩ := kC.out _ HB_1
  have hbF := below_ext HBw.out HB_1.out
  go_wp2
  go_ret
  exact ⟨rfl, hbF⟩
set_option maxHeartbeats 3200000 in
theorem fa_0 (P Q G a ya b yb : Int) (HV : Hid (validG P Q G = true)) (HM0 : Hid (memG P Q a = false)) (hQ : Q < 9223372036854775808) (w : World) :
    Calls Tryz.prog 83 #[gv P Q G, .int .i64 a, .int .i64 ya, .int .i64 b, .int .i64 yb] w fun e' w' => e' = .returned (.int .i64 2) ∧ Below w.heap.size w w' := by
  obtain ⟨hp2, hp, hq3, hqp⟩ := validG_P HV.out
  obtain ⟨w0, HW, HBw, kC⟩ := stz0 P Q G w
  have HB_0 : Hid (Below w0.heap.size w0 w0) := Lib.hid (Below.refl _ _)
  go_enter Tryz.func83, Tryz.ntmps83
  go_wp2_with fail
  rw [HW.out]
  obtain ⟨zc0, zc1, zc2⟩ := kC.out _ HB_0
  go_wp2_with fail
  refine (rvalid_any P Q G true HV hQ _).mono ?_
  rintro e w1 ⟨rfl, hb0⟩
  have HB_1 := Lib.hid (below_ext HB_0.out hb0)
  clear zc0 zc1 zc2
  clear hb0
  obtain ⟨zc0, zc1, zc2⟩ := kC.out _ HB_1
  go_wp2_with fail
  refine (rmember_any P Q G a false HM0 hp (by omega) hQ _).mono ?_
  rintro e w2 ⟨rfl, hb0⟩
  have HB_2 := Lib.hid (below_ext HB_1.out hb0)
  clear zc0 zc1 zc2
  clear hb0
  obtain ⟨zc0, zc1, zc2⟩ := kC.out _ HB_2
  have hbF := below_ext HBw.out HB_2.out
  go_wp2
  go_ret
  exact ⟨rfl, hbF⟩
set_option maxHeartbeats 3200000 in
theorem fa_1 (P Q G a ya b yb : Int) (HV : Hid (validG P Q G = true)) (HM0 : Hid (memG P Q a = true)) (HM1 : Hid (memG P Q ya = false)) (hQ : Q < 9223372036854775808) (w : World) :
    Calls Tryz.prog 83 #[gv P Q G, .int .i64 a, .int .i64 ya, .int .i64 b, .int .i64 yb] w fun e' w' => e' = .returned (.int .i64 2) ∧ Below w.heap.size w w' := by
  obtain ⟨hp2, hp, hq3, hqp⟩ := validG_P HV.out
  obtain ⟨w0, HW, HBw, kC⟩ := stz0 P Q G w
  have HB_0 : Hid (Below w0.heap.size w0 w0) := Lib.hid (Below.refl _ _)
  go_enter Tryz.func83, Tryz.ntmps83
  go_wp2_with fail
  rw [HW.out]
  obtain ⟨zc0, zc1, zc2⟩ := kC.out _ HB_0
  go_wp2_with fail
  refine (rvalid_any P Q G true HV hQ _).mono ?_
  rintro e w1 ⟨rfl, hb0⟩
  have HB_1 := Lib.hid (below_ext HB_0.out hb0)
  clear zc0 zc1 zc2
  clear hb0
  obtain ⟨zc0, zc1, zc2⟩ := kC.out _ HB_1
  go_wp2_with fail
  refine (rmember_any P Q G a true HM0 hp (by omega) hQ _).mono ?_
  rintro e w2 ⟨rfl, hb0⟩
  have HB_2 := Lib.hid (below_ext HB_1.out hb0)
  clear zc0 zc1 zc2
  clear hb0
  obtain ⟨zc0, zc1, zc2⟩ := kC.out _ HB_2
  go_wp2_with fail
  refine (rmember_any P Q G ya false HM1 hp (by omega) hQ _).mono ?_
  rintro e w3 ⟨rfl, hb0⟩
  have HB_3 := Lib.hid (below_ext HB_2.out hb0)
  clear zc0 zc1 zc2
  clear hb0
  obtain ⟨zc0, zc1, zc2⟩ := kC.out _ HB_3
  have hbF := below_ext HBw.out HB_3.out
  go_wp2
  go_ret
  exact ⟨rfl, hbF⟩
set_option maxHeartbeats 3200000 in
theorem fa_2 (P Q G a ya b yb : Int) (HV : Hid (validG P Q G = true)) (HM0 : Hid (memG P Q a = true)) (HM1 : Hid (memG P Q ya = true)) (HM2 : Hid (memG P Q b = false)) (hQ : Q < 9223372036854775808) (w : World) :
    Calls Tryz.prog 83 #[gv P Q G, .int .i64 a, .int .i64 ya, .int .i64 b, .int .i64 yb] w fun e' w' => e' = .returned (.int .i64 2) ∧ Below w.heap.size w w' := by
  obtain ⟨hp2, hp, hq3, hqp⟩ := validG_P HV.out
  obtain ⟨w0, HW, HBw, kC⟩ := stz0 P Q G w
  have HB_0 : Hid (Below w0.heap.size w0 w0) := Lib.hid (Below.refl _ _)
  go_enter Tryz.func83, Tryz.ntmps83
  go_wp2_with fail
  rw [HW.out]
  obtain ⟨zc0, zc1, zc2⟩ := kC.out _ HB_0
  go_wp2_with fail
  refine (rvalid_any P Q G true HV hQ _).mono ?_
  rintro e w1 ⟨rfl, hb0⟩
  have HB_1 := Lib.hid (below_ext HB_0.out hb0)
  clear zc0 zc1 zc2
  clear hb0
  obtain ⟨zc0, zc1, zc2⟩ := kC.out _ HB_1
  go_wp2_with fail
  refine (rmember_any P Q G a true HM0 hp (by omega) hQ _).mono ?_
  rintro e w2 ⟨rfl, hb0⟩
  have HB_2 := Lib.hid (below_ext HB_1.out hb0)
  clear zc0 zc1 zc2
  clear hb0
  obtain ⟨zc0, zc1, zc2⟩ := kC.out _ HB_2
  go_wp2_with fail
  refine (rmember_any P Q G ya true HM1 hp (by omega) hQ _).mono ?_
  rintro e w3 ⟨rfl, hb0⟩
  have HB_3 := Lib.hid (below_ext HB_2.out hb0)
  clear zc0 zc1 zc2
  clear hb0
  obtain ⟨zc0, zc1, zc2⟩ := kC.out _ HB_3
  go_wp2_with fail
  refine (rmember_any P Q G b false HM2 hp (by omega) hQ _).mono ?_
  rintro e w4 ⟨rfl, hb0⟩
  have HB_4 := Lib.hid (below_ext HB_3.out hb0)
  clear zc0 zc1 zc2
  clear hb0
  obtain ⟨zc0, zc1, zc2⟩ := kC.out _ HB_4
  have hbF := below_ext HBw.out HB_4.out
  go_wp2
  go_ret
  exact ⟨rfl, hbF⟩
set_option maxHeartbeats 3200000 in
theorem fa_3 (P Q G a ya b yb : Int) (HV : Hid (validG P Q G = true)) (HM0 : Hid (memG P Q a = true)) (HM1 : Hid (memG P Q ya = true)) (HM2 : Hid (memG P Q b = true)) (HM3 : Hid (memG P Q yb = false)) (hQ : Q < 9223372036854775808) (w : World) :
    Calls Tryz.prog 83 #[gv P Q G, .int .i64 a, .int .i64 ya, .int .i64 b, .int .i64 yb] w fun e' w' => e' = .returned (.int .i64 2) ∧ Below w.heap.size w w' := by
  obtain ⟨hp2, hp, hq3, hqp⟩ := validG_P HV.out
  obtain ⟨w0, HW, HBw, kC⟩ := stz0 P Q G w
  have HB_0 : Hid (Below w0.heap.size w0 w0) := Lib.hid (Below.refl _ _)
  go_enter Tryz.func83, Tryz.ntmps83
  go_wp2_with fail
  rw [HW.out]
  obtain ⟨zc0, zc1, zc2⟩ := kC.out _ HB_0
  go_wp2_with fail
  refine (rvalid_any P Q G true HV hQ _).mono ?_
  rintro e w1 ⟨rfl, hb0⟩
  have HB_1 := Lib.hid (below_ext HB_0.out hb0)
  clear zc0 zc1 zc2
  clear hb0
  obtain ⟨zc0, zc1, zc2⟩ := kC.out _ HB_1
  go_wp2_with fail
  refine (rmember_any P Q G a true HM0 hp (by omega) hQ _).mono ?_
  rintro e w2 ⟨rfl, hb0⟩
  have HB_2 := Lib.hid (below_ext HB_1.out hb0)
  clear zc0 zc1 zc2
  clear hb0
  obtain ⟨zc0, zc1, zc2⟩ := kC.out _ HB_2
  go_wp2_with fail
  refine (rmember_any P Q G ya true HM1 hp (by omega) hQ _).mono ?_
  rintro e w3 ⟨rfl, hb0⟩
  have HB_3 := Lib.hid (below_ext HB_2.out hb0)
  clear zc0 zc1 zc2
  clear hb0
  obtain ⟨zc0, zc1, zc2⟩ := kC.out _ HB_3
  go_wp2_with fail
  refine (rmember_any P Q G b true HM2 hp (by omega) hQ _).mono ?_
  rintro e w4 ⟨rfl, hb0⟩
  have HB_4 := Lib.hid (below_ext HB_3.out hb0)
  clear zc0 zc1 zc2
  clear hb0
  obtain ⟨zc0, zc1, zc2⟩ := kC.out _ HB_4
  go_wp2_with fail
  refine (rmember_any P Q G yb false HM3 hp (by omega) hQ _).mono ?_
  rintro e w5 ⟨rfl, hb0⟩
  have HB_5 := Lib.hid (below_ext HB_4.out hb0)
  clear zc0 zc1 zc2
  clear hb0
  obtain ⟨zc0, zc1, zc2⟩ := kC.out _ HB_5
  have hbF := below_ext HBw.out HB_5.out
  go_wp2
  go_ret
  exact ⟨rfl, hbF⟩
set_option maxHeartbeats 3200000 in
theorem fa_4 (P Q G a ya b yb : Int) (HV : Hid (validG P Q G = true)) (HM0 : Hid (memG P Q a = true)) (HM1 : Hid (memG P Q ya = true)) (HM2 : Hid (memG P Q b = true)) (HM3 : Hid (memG P Q yb = true)) (hQ : Q < 9223372036854775808) (w : World) :
    Calls Tryz.prog 83 #[gv P Q G, .int .i64 a, .int .i64 ya, .int .i64 b, .int .i64 yb] w fun e' w' => e' = .returned (.int .i64 0) ∧ Below w.heap.size w w' := by
  obtain ⟨hp2, hp, hq3, hqp⟩ := validG_P HV.out
  obtain ⟨w0, HW, HBw, kC⟩ := stz0 P Q G w
  have HB_0 : Hid (Below w0.heap.size w0 w0) := Lib.hid (Below.refl _ _)
  go_enter Tryz.func83, Tryz.ntmps83
  go_wp2_with fail
  rw [HW.out]
  obtain ⟨zc0, zc1, zc2⟩ := kC.out _ HB_0
  go_wp2_with fail
  refine (rvalid_any P Q G true HV hQ _).mono ?_
  rintro e w1 ⟨rfl, hb0⟩
  have HB_1 := Lib.hid (below_ext HB_0.out hb0)
  clear zc0 zc1 zc2
  clear hb0
  obtain ⟨zc0, zc1, zc2⟩ := kC.out _ HB_1
  go_wp2_with fail
  refine (rmember_any P Q G a true HM0 hp (by omega) hQ _).mono ?_
  rintro e w2 ⟨rfl, hb0⟩
  have HB_2 := Lib.hid (below_ext HB_1.out hb0)
  clear zc0 zc1 zc2
  clear hb0
  obtain ⟨zc0, zc1, zc2⟩ := kC.out _ HB_2
  go_wp2_with fail
  refine (rmember_any P Q G ya true HM1 hp (by omega) hQ _).mono ?_
  rintro e w3 ⟨rfl, hb0⟩
  have HB_3 := Lib.hid (below_ext HB_2.out hb0)
  clear zc0 zc1 zc2
  clear hb0
  obtain ⟨zc0, zc1, zc2⟩ := kC.out _ HB_3
  go_wp2_with fail
  refine (rmember_any P Q G b true HM2 hp (by omega) hQ _).mono ?_
  rintro e w4 ⟨rfl, hb0⟩
  have HB_4 := Lib.hid (below_ext HB_3.out hb0)
  clear zc0 zc1 zc2
  clear hb0
  obtain ⟨zc0, zc1, zc2⟩ := kC.out _ HB_4
  go_wp2_with fail
  refine (rmember_any P Q G yb true HM3 hp (by omega) hQ _).mono ?_
  rintro e w5 ⟨rfl, hb0⟩
  have HB_5 := Lib.hid (below_ext HB_4.out hb0)
  clear zc0 zc1 zc2
  clear hb0
  obtain ⟨zc0, zc1, zc2⟩ := kC.out _ HB_5
  have hbF := below_ext HBw.out HB_5.out
  go_wp2
  go_ret
  exact ⟨rfl, hbF⟩
theorem rfault18_any (P Q G a ya b yb r : Int) (hr : Hid (chkG P Q G [a, ya, b, yb] = r)) (hQ : Q < 9223372036854775808) (w : World) :
    Calls Tryz.prog 83 #[gv P Q G, .int .i64 a, .int .i64 ya, .int .i64 b, .int .i64 yb] w fun e' w' => e' = .returned (.int .i64 r) ∧ Below w.heap.size w w' := by
  have hr' := hr.out
  unfold chkG at hr'
  cases hv : validG P Q G with
  | false =>
    obtain rfl : r = 1 := by rw [← hr', hv]; rfl
    exact fa_v P Q G a ya b yb (Lib.hid hv) hQ w
  | true =>
    rw [hv, if_pos rfl] at hr'
    simp only [List.all_cons, List.all_nil, Bool.and_true] at hr'
    cases h0 : memG P Q a with
    | false =>
      obtain rfl : r = 2 := by rw [← hr', h0]; rfl
      exact fa_0 P Q G a ya b yb (Lib.hid hv) (Lib.hid h0) hQ w
    | true =>
      cases h1 : memG P Q ya with
      | false =>
        obtain rfl : r = 2 := by rw [← hr', h0, h1]; rfl
        exact fa_1 P Q G a ya b yb (Lib.hid hv) (Lib.hid h0) (Lib.hid h1) hQ w
      | true =>
        cases h2 : memG P Q b with
        | false =>
          obtain rfl : r = 2 := by rw [← hr', h0, h1, h2]; rfl
          exact fa_2 P Q G a ya b yb (Lib.hid hv) (Lib.hid h0) (Lib.hid h1) (Lib.hid h2) hQ w
        | true =>
          cases h3 : memG P Q yb with
          | false =>
            obtain rfl : r = 2 := by rw [← hr', h0, h1, h2, h3]; rfl
            exact fa_3 P Q G a ya b yb (Lib.hid hv) (Lib.hid h0) (Lib.hid h1) (Lib.hid h2) (Lib.hid h3) hQ w
          | true =>
            obtain rfl : r = 0 := by rw [← hr', h0, h1, h2, h3]; rfl
            exact fa_4 P Q G a ya b yb (Lib.hid hv) (Lib.hid h0) (Lib.hid h1) (Lib.hid h2) (Lib.hid h3) hQ w
end Go.Proofs.YtjnoaejikapmdaaGreatDoor
namespace Go.Proofs.YtjnoaejikapmdaaGreatDoor
open Go.RowKit SpM
set_option linter.unusedVariables false
def InvOut (a m : Int) (w : World) (e : Ending) (w' : World) : Prop :=
  ∃ x : Int, e = .returned (.tuple #[.int .i64 x, .int .i64 0]) ∧ 0 ≤ x ∧ x < m ∧ x * a % m = 1 ∧ ∃ n, w' = w.drewN n
set_option maxHeartbeats 800000 in
theorem winv_ok (a m : Int) (h1 : 2 ≤ m) (h2 : m < 2305843009213693952) (ha0 : 0 ≤ a) (ha : a < m) (hu : Hid (∀ d, d ∣ a → d ∣ m → 0 < d → d = 1)) (w : World) :
    Calls Tryz.prog 151 #[.int .i64 a, .int .i64 m] w (InvOut a m w) := by
  have hc := Lib.hid (chk_ok (by omega) h2 ha0 ha ha0 ha)
  go_enter Tryz.func151, Tryz.ntmps151
  go_wp2_with (go_at_call 128; refine (check_any _ _ _ _).mono ?_; rintro e w' ⟨rfl, rfl⟩; rw [hc.out])
  refine (euclid_any a m (by omega) h2 ha0 ha _).mono ?_
  rintro e w' ⟨d, x, k, rfl, hx0, hx1, hd1, hd2, hd0, hd, hk, n, rfl⟩
  obtain rfl : d = 1 := hu.out d hd1 hd2 hd0
  have HX : Hid (x * a % m = 1) := Lib.hid (by rw [hk, Int.add_mul_emod_self_left]; exact emod_one_of h1)
  clear hk hd1 hd2 hd0 hd
  go_wp2
  go_ret2
  exact ⟨x, rfl, hx0, hx1, HX.out, n, rfl⟩
def GInvOut (a P : Int) (w : World) (e : Ending) (w' : World) : Prop :=
  ∃ x : Int, e = .returned (.tuple #[.int .i64 x, .int .i64 0]) ∧ 0 ≤ x ∧ x < P ∧ x * a % P = 1 ∧ Below w.heap.size w w'
set_option maxHeartbeats 1600000 in
theorem ginv_ok (P Q G a : Int) (hr : Hid (chkG P Q G [a] = 0)) (hQ : Q < 9223372036854775808) (w : World) (hv : Hid (Vars w)) :
    Calls Tryz.prog 86 #[gv P Q G, .int .i64 a] w (GInvOut a P w) := by
  obtain ⟨hval, hall⟩ := chkG_zero hr.out
  obtain ⟨hp2, hp, hq3, hqp⟩ := validG_P hval
  simp only [List.all_cons, List.all_nil, Bool.and_true] at hall
  have la := memG_lo hall
  have ha := memG_hi hall
  have hu : Hid (∀ d, d ∣ a → d ∣ P → 0 < d → d = 1) := Lib.hid (fun d h1 h2 h3 => unit_of_mem hp2 (by omega) hall h1 h2 h3)
  clear hall hval
  have HV1 := Lib.hid (hv.out.below (below_two (w := w) (o1 := gObj P Q G) (o2 := .cells #[.int .i64 a] 3) (Below.refl _ _)))
  have HC := Lib.hid (cells1' w (gObj P Q G) 3 a)
  have HB0 := Lib.hid ((gbox_alloc w P Q G).below (below_box0 (w.alloc (gObj P Q G)) (.cells #[.int .i64 a] 3)))
  go_enter Tryz.func86, Tryz.ntmps86
  go_wp2_with fail
  refine (gcheck_any P Q G _ [a] 1 1 (Lib.hid rfl) (by decide) 0 hr (by omega) _ HV1 HC).mono ?_
  rintro e w1 ⟨rfl, hb0⟩
  have hb1 := below_two hb0
  obtain ⟨c0, c1, c2⟩ := HB0.out.below hb0
  clear hb0
  go_wp2_with fail
  refine (winv_ok a P hp2 hp (by omega) ha hu _).mono ?_
  rintro e w2 ⟨x, rfl, hx0, hx1, hx, n, rfl⟩
  have HX := Lib.hid hx
  clear hx
  go_wp2
  go_ret2
  exact ⟨x, rfl, hx0, hx1, HX.out, below_drawN hb1 _⟩
end Go.Proofs.YtjnoaejikapmdaaGreatDoor
namespace Go.Proofs.YtjnoaejikapmdaaGreatDoor
open Go.RowKit SpM
set_option linter.unusedVariables false
set_option linter.unusedSimpArgs false
set_option maxRecDepth 100000
abbrev esV (E1 E2 : Int) (A : Option Addr) (na ca : Nat) (C : Int) (Z : Option Addr) (nz cz : Nat) : Value := .agg #[.int .i64 E1, .int .i64 E2, .slice A na ca, .int .i64 C, .slice Z nz cz]
abbrev esO (E1 E2 : Int) (A : Option Addr) (na ca : Nat) (C : Int) (Z : Option Addr) (nz cz : Nat) : Obj := .cells #[.int .i64 E1, .int .i64 E2, .slice A na ca, .int .i64 C, .slice Z nz cz] 52
def IB2 (w : World) (g : Nat) (a b : Int) : Prop := w.heap[g]? = some (.cells #[.int .i64 a, .int .i64 b] 3)
theorem blk_below {w w' : World} {g : Nat} {o : Obj} (h : w.heap[g]? = some o) (hb : Below w.heap.size w w') : w'.heap[g]? = some o := by
  have hl : g < w.heap.size := (Array.getElem?_eq_some_iff.1 h).1
  exact (hb.block g hl).trans h
theorem IB2.below {w w' : World} {g : Nat} {a b : Int} (h : IB2 w g a b) (hb : Below w.heap.size w w') : IB2 w' g a b := blk_below h hb
def RB2 (w : World) (g gA gB : Nat) : Prop := w.heap[g]? = some (.cells #[.slice (some ⟨gA, 0, none⟩) 2 2, .slice (some ⟨gB, 0, none⟩) 2 2] 24)
theorem RB2.below {w w' : World} {g gA gB : Nat} (h : RB2 w g gA gB) (hb : Below w.heap.size w w') : RB2 w' g gA gB := blk_below h hb
def EsBlk (ps a b c d : Int) (gY gA gB gR : Nat) (w : World) : Prop := IB2 w gY ps 1 ∧ IB2 w gA a b ∧ IB2 w gB c d ∧ RB2 w gR gA gB
theorem EsBlk.below {ps a b c d : Int} {gY gA gB gR : Nat} {w w' : World} (h : EsBlk ps a b c d gY gA gB gR w) (hb : Below w.heap.size w w') : EsBlk ps a b c d gY gA gB gR w' :=
  ⟨h.1.below hb, h.2.1.below hb, h.2.2.1.below hb, h.2.2.2.below hb⟩
def RNil (w : World) (g : Nat) : Prop := w.heap[g]? = some (.cells #[.slice none 0 0, .slice none 0 0] 128)
theorem RNil.below {w w' : World} {g : Nat} (h : RNil w g) (hb : Below w.heap.size w w') : RNil w' g := blk_below h hb
end Go.Proofs.YtjnoaejikapmdaaGreatDoor
