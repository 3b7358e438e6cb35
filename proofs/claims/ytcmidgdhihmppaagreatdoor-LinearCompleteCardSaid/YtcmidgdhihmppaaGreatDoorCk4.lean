/- Contracts and lemmas: RdgE, DigG, TrB, TrC, TrD, TrE, TrF, LcA, LinD, LinE, LinF, LcB, LinG. -/
import Derived.Laws.AppendOwnNone
import Derived.Deep.RegionHeld3
import Derived.Deep.AppendLies
import Derived.Test.YtcmidgdhihmppaaGreatDoorCk3
namespace Go.Proofs.YtcmidgdhihmppaaGreatDoor
open Go.RowKit SpM
set_option linter.unusedVariables false
set_option linter.unusedSimpArgs false
set_option maxRecDepth 100000
theorem yields_row {P : Program} {S : World → Prop} {o : Oper} {a : Act} (ty : TypeId) (x : Operand) (ho : o.op = .load ty x)
    (g : Nat) (hx : a.eval x = .pointer (some ⟨g, 0, none⟩)) (t : TypeId) (cs : Array Value) (fr : Nat × Nat) (d : TypeDesc) (hg : ∀ w, S w → w.heap[g]? = some (.cells cs t fr))
    (hu : P.underlying ty = some d) (hd : (match d with | .struct _ | .array _ _ => true | _ => false) = true) (hi : (P.info? ty).map (·.size) = some cs.size) :
    ∀ w, S w → (execOp a.eval o).run P w = .ok (.value (.agg cs)) w := fun w hw => by
  unfold execOp
  simp only [ho, hx, Instr.loadAt, Instr.sureAddr, Sem.run_bind, Sem.run_pure, Result.andThen_ok, run_loadVar_row w g t ty cs fr d (hg w hw) hu hd hi]
set_option maxHeartbeats 3200000 in
theorem rtagged_any (s : ByteArray) (hs1 : 1 ≤ s.size) (hs2 : s.size ≤ 100) (b o c : Nat) (l : List Int) (n : Nat) (hn : Hid (l.length = n)) (hn0 : 0 < n) (hbig : n ≤ 900000) (hby : Hid (bytesB l = true)) (w : World) (hs : Hid (Sk .u8 w (some ⟨b, o, none⟩) l)) :
    Calls Tryz.prog 95 #[.string s, .slice (some ⟨b, o, none⟩) n c] w fun e w' => e = .returned (.agg (arr .u8 (tagged (bys s) l))) ∧ Below w.heap.size w w' := by
  obtain ⟨i0, hi, hz0, hz1, hz2⟩ := info_parts byteInfo
  obtain ⟨W, hW⟩ : ∃ W, w.alloc (.cells #[.int .u8 0, .int .u8 0, .int .u8 0, .int .u8 0, .int .u8 0, .int .u8 0, .int .u8 0, .int .u8 0, .int .u8 0, .int .u8 0, .int .u8 0, .int .u8 0, .int .u8 0, .int .u8 0, .int .u8 0, .int .u8 0, .int .u8 0, .int .u8 0, .int .u8 0, .int .u8 0, .int .u8 0, .int .u8 0, .int .u8 0, .int .u8 0, .int .u8 0, .int .u8 0, .int .u8 0, .int .u8 0, .int .u8 0, .int .u8 0, .int .u8 0, .int .u8 0] 37) = W := ⟨_, rfl⟩
  have HBX : Hid (Below w.heap.size w W) := Lib.hid (by rw [← hW]; exact below_box0 _ _)
  have HR0 : Hid (Blk .u8 37 W w.heap.size (zer 32)) := Lib.hid (by
    rw [← hW, zarrh]
    exact Blk.new _ _)
  have HSZ : Hid (W.heap.size = w.heap.size + 1) := Lib.hid (by rw [← hW]; simp)
  have HS := Lib.hid (hs.out.below HBX.out)
  have HW := Lib.hid hW
  have hcv := fun w => run_bytes_of_string (P := Tryz.prog) w 9 114 5 s Tryz.underlying9 Tryz.underlying114 Tryz.underlying5
  clear hW hs
  go_enter Tryz.func95, Tryz.ntmps95
  go_wp2_with fail
  rw [HW.out]
  clear hcv HW
  obtain ⟨Wc, hWc⟩ : ∃ u, (W.alloc (.cells (bytesRow s (grownCap W s.size 0 5)) 5 ((bytesRow s (grownCap W s.size 0 5)).size, (bytesRow s (grownCap W s.size 0 5)).size + 1))).drew = u := ⟨_, rfl⟩
  have HBc : Hid (Below W.heap.size W Wc) := Lib.hid (by rw [← hWc]; exact (below_box0 _ _).drew)
  have HSc : Hid (Sk .u8 Wc (some ⟨w.heap.size + 1, 0, none⟩) (bys s)) := Lib.hid (by
    rw [← hWc, ← HSZ.out]
    exact bys_sk (heap_alloc_new W _))
  obtain ⟨gc, hgc⟩ : ∃ g, grownCap W s.size 0 5 = g := ⟨_, rfl⟩
  rw [hWc, hgc]
  clear hWc hgc
  refine (rsum_any (w.heap.size + 1) 0 gc (bys s) s.size (Lib.hid (bys_len s)) (by omega) (by omega) (Lib.hid (bys_bytes s)) _ HSc).mono ?_
  rintro e w1 ⟨rfl, hb1⟩
  have HB1 := Lib.hid (below_ext HBc.out hb1)
  clear hb1 HSc HBc
  obtain ⟨t, ht⟩ : ∃ t, sha (bys s) = t := ⟨_, rfl⟩
  have htl : t.length = 32 := by rw [← ht]; exact sha_len _
  have htb : bytesB t = true := by rw [← ht]; exact sha_bytes _
  have HT : Kp (sha (bys s) = t) := ⟨ht⟩
  have HTL := Lib.hid htl
  have HTB := Lib.hid htb
  rw [ht]
  clear ht htl htb
  go_upto_region 2 with ((with_reducible show wpList _ _ _ (⟨none, _, _, _, _, _⟩ :: _) _ _); refine wpList_store_row rfl 37 _ _ rfl w1.heap.size (arr .u8 t) rfl rfl _ _ (heap_alloc_new _ _) (hash_info HTL.out) (arrs_sz (l := zer 32) rfl HTL.out) (arr_one _) ?_)
  rw [World.setRow_alloc_new]
  simp only [Act.put]
  have HB2 := Lib.hid (below_ext HB1.out (below_box0 w1 (.cells (arr .u8 t) 37)))
  have HT2 : Hid (Blk .u8 37 (w1.alloc (.cells (arr .u8 t) 37)) w1.heap.size t) := Lib.hid (Blk.new _ _)
  obtain ⟨W2, hW2⟩ : ∃ u, w1.alloc (.cells (arr .u8 t) 37) = u := ⟨_, rfl⟩
  have HSN : Hid (w1.heap.size < W2.heap.size) := Lib.hid (by rw [← hW2]; simp)
  rw [hW2] at HB2 HT2 ⊢
  clear hW2 HB1
  obtain ⟨gt, hgt⟩ : ∃ g, w1.heap.size = g := ⟨_, rfl⟩
  rw [hgt] at HT2 HSN ⊢
  clear hgt
  have HBd := Lib.hid ((Below.refl W2.heap.size W2).drew)
  have HTd := Lib.hid (HT2.out.below HBd.out)
  have HB3 := Lib.hid (below_ext HB2.out HBd.out)
  obtain ⟨Wd, hWd⟩ : ∃ u, W2.drew = u := ⟨_, rfl⟩
  refine wp_region_T (S := fun w' => w'.heap[gt]? = some (.cells (arr .u8 t) 37 (0, 0))) (E := [5, 6, 7]) (by kernel_rfl) (HTd.out) (fun hHeld => ?_)
  refine wpT_take (i := 0) (oi := _) (v := (.agg (arr .u8 t))) rfl (by kernel_rfl) (by kernel_rfl) (by kernel_rfl) (by kernel_rfl) (fun _ _ _ h => h) (Or.inl ⟨by rfl, yields_row 37 _ rfl gt rfl _ _ _ _ (fun _ h => h) Tryz.underlying37 rfl (hash_info HTL.out)⟩) (by assumption) ?_
  try simp only [List.getElem_toArray, List.getElem_cons_zero, List.getElem_cons_succ, Act.put, List.setIfInBounds_toArray, List.set_cons_zero, List.set_cons_succ]
  refine wpT_take (i := 2) (oi := _) (v := (.agg (arr .u8 t))) rfl (by kernel_rfl) (by kernel_rfl) (by kernel_rfl) (by kernel_rfl) (fun _ _ _ h => h) (Or.inl ⟨by rfl, yields_row 37 _ rfl gt rfl _ _ _ _ (fun _ h => h) Tryz.underlying37 rfl (hash_info HTL.out)⟩) (by assumption) ?_
  try simp only [List.getElem_toArray, List.getElem_cons_zero, List.getElem_cons_succ, Act.put, List.setIfInBounds_toArray, List.set_cons_zero, List.set_cons_succ]
  refine wpT_take (i := 4) (oi := _) (v := ?_) rfl (by kernel_rfl) (by kernel_rfl) (by kernel_rfl) (by kernel_rfl) (fun _ _ _ h => h) (Or.inl ⟨by rfl, ?_⟩) (by assumption) ?_
  rotate_left; (intro wS hSw; (try dsimp only at hSw); go_simp <;> with_reducible rfl)
  try simp only [List.getElem_toArray, List.getElem_cons_zero, List.getElem_cons_succ, Act.put, List.setIfInBounds_toArray, List.set_cons_zero, List.set_cons_succ]
  refine wpT_one (i := 1) (by kernel_rfl) rfl (fun K hK => ?_)
  go_simp
  try rw [hWd]
  rw [hWd] at HBd HTd HB3
  refine (rjoin_nil t HTL _).mono ?_
  rintro e w3 ⟨v3, rfl, ho3, hb3⟩
  refine hK.out _ _ ?_ (fun hHeld => ?_)
  · exact HTd.out.below hb3
  clear hK K
  try simp only [List.getElem_toArray, List.getElem_cons_zero, List.getElem_cons_succ, Act.put, List.setIfInBounds_toArray, List.set_cons_zero, List.set_cons_succ]
  refine wpT_one (i := 3) (by kernel_rfl) rfl (fun K hK => ?_)
  go_simp
  obtain ⟨g3, cap3, e3, hg3, -, -, hsk3⟩ := ho3.cells (by have := HTL.out; omega)
  rw [HTL.out] at e3
  subst e3
  have HS3 := Lib.hid hsk3
  refine (rjoin_any g3 0 cap3 t 32 HTL (by decide) (by decide) t HTL _ HS3).mono ?_
  rintro e w4 ⟨v4, rfl, ho4, hb4⟩
  have HB4 := Lib.hid (below_ext hb3 hb4)
  have hbz4 := HB4.out.size
  have hrow4 := ho4.row (n := 64) (by rw [List.length_append, HTL.out])
  refine hK.out _ _ ?_ (fun hHeld => ?_)
  · exact (HTd.out.below hb3).below hb4
  clear hK K
  try simp only [List.getElem_toArray, List.getElem_cons_zero, List.getElem_cons_succ, Act.put, List.setIfInBounds_toArray, List.set_cons_zero, List.set_cons_succ]
  refine wpT_pass (i := 5) (by kernel_rfl) (by simp) rfl (fun K hK => ?_)
  have HS4 := Lib.hid ((HS.out.below HB3.out).below HB4.out)
  refine step_append_lies _ (by rfl) _ _ _ (by rfl) (w3.heap.size) 5 i0 _ 1 1 Tryz.underlying114 hi hz0 hz1 hz2 rfl (by omega) v4 64 ((t ++ t).map (.int .u8)) (by rfl) (hrow4) ⟨b, o, none⟩ n c (l.map (.int .u8)) (by rfl) (by simp [hn.out]) (HS4.out.news) (ints_oneCell .u8 _) (by omega) (by unfold maxLen; omega) (by omega) (by have := hb4.size; omega) (w4.heap.size) (rfl) ?_
  intro g5 cap5 w5 hown5 hgrow5 hat5 hlt5
  have HB5 := Lib.hid (Below.grown HB4.out hgrow5 (by omega) (fun j hj => by have := (World.ownsRow.lt hrow4 j hj).1; have := hb3.size; omega))
  have HO5 : Hid (OwnK .u8 5 w5 w3.heap.size (.slice (some ⟨g5, 0, none⟩) (64 + n) cap5) (t ++ t ++ l)) := Lib.hid (OwnK.app (by rw [List.length_append, HTL.out]) hn.out.symm hown5)
  refine hK.out _ _ ?_
  clear hK K
  try simp only [List.getElem_toArray, List.getElem_cons_zero, List.getElem_cons_succ, Act.put, List.setIfInBounds_toArray, List.set_cons_zero, List.set_cons_succ]
  refine wpT_pass (i := 6) (by kernel_rfl) (by simp) rfl (fun K hK => ?_)
  go_simp
  have hsk5 := HO5.out.skAt (by simp [hn.out]; omega)
  refine (rsum_any g5 0 cap5 (t ++ t ++ l) (64 + n) (Lib.hid (by simp [hn.out, HTL.out]; omega)) (by omega) (by omega) (Lib.hid (by rw [bytesB_app, bytesB_app, HTB.out, hby.out]; rfl)) _ (Lib.hid hsk5)).mono ?_
  rintro e w6 ⟨rfl, hb6⟩
  have HB6 := Lib.hid (HB5.out.trans (hb6.mono HB5.out.size))
  refine hK.out _ _ ?_
  clear hK K
  try simp only [List.getElem_toArray, List.getElem_cons_zero, List.getElem_cons_succ, Act.put, List.setIfInBounds_toArray, List.set_cons_zero, List.set_cons_succ]
  refine wpT_pass (i := 7) (by kernel_rfl) (by simp) rfl (fun K hK => ?_)
  rw [show (if Region.wanted _ _ = true then _ else _ : Prop) = _ from if_pos rfl]
  refine wp_store_row 37 _ _ rfl w.heap.size (arr .u8 (sha (t ++ t ++ l))) rfl rfl 37 _ (((HR0.out.below HB3.out)).below HB6.out) (hash_info (sha_len _)) (arrs_sz rfl (sha_len _)) (arr_one _) ?_
  refine hK.out _ _ ?_
  clear hK K
  try simp only [List.getElem_toArray, List.getElem_cons_zero, List.getElem_cons_succ, Act.put, List.setIfInBounds_toArray, List.set_cons_zero, List.set_cons_succ]
  refine wpT_done (by kernel_rfl) ?_ _
  have HRR : Hid (Blk .u8 37 (w6.setRow w.heap.size (arr .u8 (sha (t ++ t ++ l)))) w.heap.size (sha (t ++ t ++ l))) := Lib.hid ((HR0.out.below HB3.out).below HB6.out).setRow
  have HBF : Hid (Below w.heap.size w (w6.setRow w.heap.size (arr .u8 (sha (t ++ t ++ l))))) := Lib.hid (below_setRow' (below_ext HBX.out (below_ext HB3.out HB6.out)) (Nat.le_refl _))
  have HTG : Kp (tagged (bys s) l = sha (t ++ t ++ l)) := ⟨by rw [tagged, HT.out]⟩
  obtain ⟨R, hR⟩ : ∃ R, sha (t ++ t ++ l) = R := ⟨_, rfl⟩
  have hRl : R.length = 32 := by rw [← hR]; exact sha_len _
  rw [hR] at HRR HBF HTG ⊢
  obtain ⟨w8, hw8⟩ : ∃ u, w6.setRow w.heap.size (arr .u8 R) = u := ⟨_, rfl⟩
  rw [hw8] at HRR HBF ⊢
  have HI : Kp ((Tryz.prog.info? 37).map (·.size) = some (arr .u8 R).size) := ⟨hash_info hRl⟩
  clear hR hRl hw8
  go_wp2
  exact bodyPost_ret (v := .agg (arr .u8 R)) (results_cell_row (p := 4) (ty := 37) rfl _ _ w.heap.size _ _ _ _ rfl HRR.out Tryz.underlying37 rfl HI.out) rfl ⟨by rw [HTG.out], HBF.out⟩
end Go.Proofs.YtcmidgdhihmppaaGreatDoor
namespace Go.Proofs.YtcmidgdhihmppaaGreatDoor
open Go.RowKit SpM
set_option linter.unusedVariables false
set_option linter.unusedSimpArgs false
set_option maxRecDepth 100000
/-- the number of the first k bytes. -/
def numL (m : Int) (h : List Int) : Nat → Int
  | 0 => 0
  | k + 1 => (numL m h k * 256 + h.getD k 0) % m
def numv (m : Int) (h : List Int) : Int := numL m h 16
theorem numL_lo {m : Int} {h : List Int} (hm : 1 ≤ m) (k : Nat) : 0 ≤ numL m h k ∧ numL m h k < m := by
  cases k with
  | zero => exact ⟨Int.le_refl _, by simp [numL]; omega⟩
  | succ k => exact ⟨Int.emod_nonneg _ (by omega), Int.emod_lt_of_pos _ (by omega)⟩
theorem dbl_step {acc m a : Int} {j : Nat} (h : acc * 2 ^ j % m = a) : acc * 2 ^ (j + 1) % m = (a + a) % m := by
  rw [← h, Int.pow_succ, ← Int.mul_assoc, Int.mul_comm _ 2, Int.add_emod_emod, Int.emod_add_emod]
  congr 1
  omega
theorem num_step {acc m a c : Int} (h : acc * 2 ^ 8 % m = a) : (a + c % m) % m = (acc * 256 + c) % m := by
  rw [← h, Int.add_emod_emod, Int.emod_add_emod]
  rfl
theorem num_step2 {acc m c : Int} : (acc * (256 % m) % m + c) % m = (acc * 256 + c) % m := by
  have e : acc * (256 % m) % m = acc * 256 % m := by
    rw [Int.mul_emod acc (256 % m), Int.emod_emod_of_dvd _ (Int.dvd_refl m), ← Int.mul_emod]
  rw [e, Int.emod_add_emod]
set_option maxHeartbeats 1600000 in
theorem number_any (h : List Int) (hh : Hid (h.length = 32)) (hb : Hid (bytesB h = true)) (m : Int) (h1 : 1 ≤ m) (h2 : m < 2305843009213693952) (w : World) :
    Calls Tryz.prog 116 #[.agg (arr .u8 h), .int .i64 m] w fun e w' => e = .returned (.tuple #[.int .i64 (numv m h), .int .i64 0]) ∧ Below w.heap.size w w' := by
  obtain ⟨W, hW⟩ : ∃ W, w.alloc (.cells (arr .u8 h) 37) = W := ⟨_, rfl⟩
  have HBX : Hid (Below w.heap.size w W) := Lib.hid (by rw [← hW]; exact below_box0 _ _)
  have HR0 : Hid (Blk .u8 37 W w.heap.size h) := Lib.hid (by rw [← hW]; exact Blk.new _ _)
  have HW := Lib.hid hW
  clear hW
  have hm0 : ((m : Int) == 0) = false := by simp; omega
  have hm1 : ¬ m < 1 := by omega
  have hm2 : ¬ 2305843009213693952 ≤ m := by omega
  go_enter Tryz.func116, Tryz.ntmps116
  go_wp2
  rw [HW.out]
  go_loopw [6, 17] (fun p i u => ∃ (k : Nat) (acc : Int), k ≤ 16 ∧ i = .int .i64 k ∧ p = .int .i64 acc ∧ Hid (numL m h k = acc) ∧ Hid (Below W.heap.size W u)) (fun _ i _ => 16 - (intOf i).toNat)
  case atStart => exact ⟨0, 0, by omega, rfl, rfl, Lib.hid rfl, Lib.hid (Below.refl _ _)⟩
  case round =>
    obtain ⟨k, acc, hk, rfl, rfl, HN, HBr⟩ := hrel
    have ha := numL_lo (m := m) (h := h) h1 k
    rw [HN.out] at ha
    obtain ⟨a0, a1⟩ := ha
    by_cases hlt : k < 16
    · have hc := (HR0.out.below HBr.out).cell (j := k) (by have := hh.out; omega)
      obtain ⟨c0, c1⟩ := bytesB_get hb.out k
      have hnx : numL m h (k + 1) = (acc * 256 + h.getD k 0) % m := by rw [numL, HN.out]
      obtain ⟨c, hcc⟩ : ∃ c, h.getD k 0 = c := ⟨_, rfl⟩
      rw [hcc] at hc c0 c1 hnx
      have HNX := Lib.hid hnx
      clear hcc hnx
      have dk : decide ((k : Int) < 16) = true := by simp; omega
      go_wp2
      go_loopw [6, 21] (fun p i u => ∃ (j : Nat) (a : Int), j ≤ 8 ∧ i = .int .i64 j ∧ p = .int .i64 a ∧ Hid (acc * 2 ^ j % m = a) ∧ 0 ≤ a ∧ a < m ∧ Hid (Below W.heap.size W u)) (fun _ i _ => 8 - (intOf i).toNat)
      case atStart => exact ⟨0, acc, by omega, rfl, rfl, Lib.hid (by rw [Int.pow_zero, Int.mul_one]; exact Int.emod_eq_of_lt a0 a1), a0, a1, HBr⟩
      case round =>
        obtain ⟨j, a, hj, rfl, rfl, HA, b0, b1, HBu⟩ := hrel
        by_cases hlj : j < 8
        · have HA2 := Lib.hid (dbl_step HA.out)
          have e0 : 0 ≤ (a + a) % m := Int.emod_nonneg _ (by omega)
          have e1 : (a + a) % m < m := Int.emod_lt_of_pos _ (by omega)
          obtain ⟨q, hq⟩ : ∃ q, (a + a) % m = q := ⟨_, rfl⟩
          rw [hq] at e0 e1 HA2
          have HQ := Lib.hid hq
          clear hq HA
          go_wp2_with fail
          refine (add_ok a a m h2 b0 b1 b0 b1 _).mono ?_
          rintro e w' ⟨rfl, rfl⟩
          rw [HQ.out]
          go_wp2
          go_roundw
          case rel => exact ⟨j + 1, q, by omega, by go_num, rfl, HA2, e0, e1, HBu⟩
          case measure => simp [intOf]; omega
        · have HA8 : Hid (acc * 2 ^ 8 % m = a) := Lib.hid (by have h := HA.out; rwa [show j = 8 by omega] at h)
          have HE : Hid ((a + c % m) % m = (acc * 256 + c) % m) := Lib.hid (num_step HA8.out)
          have f0 : 0 ≤ c % m := Int.emod_nonneg _ (by omega)
          have f1 : c % m < m := Int.emod_lt_of_pos _ (by omega)
          obtain ⟨cm, hcm⟩ : ∃ x, c % m = x := ⟨_, rfl⟩
          rw [hcm] at f0 f1 HE
          obtain ⟨q, hq⟩ : ∃ q, (a + cm) % m = q := ⟨_, rfl⟩
          have HN2 : Hid (numL m h (k + 1) = q) := Lib.hid (by rw [HNX.out, ← HE.out, hq])
          have HQ := Lib.hid hq
          clear hq HA HA8 HE HNX HN
          go_wp2_with fail
          refine (add_ok a cm m h2 b0 b1 f0 f1 _).mono ?_
          rintro e w' ⟨rfl, rfl⟩
          rw [HQ.out]
          go_wp2
          go_roundw
          case rel => exact ⟨k + 1, q, by omega, by go_num, rfl, HN2, HBu⟩
          case measure => simp [intOf]; omega
    · have HF : Hid (numv m h = acc) := Lib.hid (by have e := HN.out; rwa [show k = 16 by omega] at e)
      have hbf := below_ext HBX.out HBr.out
      clear HN
      go_wp2
      go_ret2
      exact ⟨by rw [HF.out]; rfl, hbf⟩
set_option maxHeartbeats 1600000 in
theorem rnumber_any (h : List Int) (hh : Hid (h.length = 32)) (hb : Hid (bytesB h = true)) (m : Int) (h1 : 1 ≤ m) (h2 : m < 2305843009213693952) (w : World) :
    Calls Tryz.prog 99 #[.agg (arr .u8 h), .int .i64 m] w fun e w' => e = .returned (.int .i64 (numv m h)) ∧ Below w.heap.size w w' := by
  obtain ⟨W, hW⟩ : ∃ W, w.alloc (.cells (arr .u8 h) 37) = W := ⟨_, rfl⟩
  have HBX : Hid (Below w.heap.size w W) := Lib.hid (by rw [← hW]; exact below_box0 _ _)
  have HR0 : Hid (Blk .u8 37 W w.heap.size h) := Lib.hid (by rw [← hW]; exact Blk.new _ _)
  have HW := Lib.hid hW
  clear hW
  have hm0 : ((m : Int) == 0) = false := by simp; omega
  go_enter Tryz.func99, Tryz.ntmps99
  go_wp2
  rw [HW.out]
  go_loopw [5, 6] (fun p i u => ∃ (k : Nat) (acc : Int), k ≤ 16 ∧ i = .int .i64 k ∧ p = .int .i64 acc ∧ Hid (numL m h k = acc) ∧ Hid (Below W.heap.size W u)) (fun _ i _ => 16 - (intOf i).toNat)
  case atStart => exact ⟨0, 0, by omega, rfl, rfl, Lib.hid rfl, Lib.hid (Below.refl _ _)⟩
  case round =>
    obtain ⟨k, acc, hk, rfl, rfl, HN, HBr⟩ := hrel
    have ha := numL_lo (m := m) (h := h) h1 k
    rw [HN.out] at ha
    obtain ⟨a0, a1⟩ := ha
    by_cases hlt : k < 16
    · have hc := (HR0.out.below HBr.out).cell (j := k) (by have := hh.out; omega)
      obtain ⟨c0, c1⟩ := bytesB_get hb.out k
      have hnx : numL m h (k + 1) = (acc * 256 + h.getD k 0) % m := by rw [numL, HN.out]
      obtain ⟨c, hcc⟩ : ∃ c, h.getD k 0 = c := ⟨_, rfl⟩
      rw [hcc] at hc c0 c1 hnx
      have HNX := Lib.hid hnx
      have f0 : 0 ≤ 256 % m := Int.emod_nonneg _ (by omega)
      have f1 : 256 % m < m := Int.emod_lt_of_pos _ (by omega)
      have hst := num_step2 (acc := acc) (m := m) (c := c)
      have ht : Int.tmod 256 m = 256 % m := Int.tmod_eq_emod_of_nonneg (by decide)
      have hw0 : IntKind.i64.wrap (256 % m) = 256 % m := IntWalk.i64_in _ (by omega)
      obtain ⟨d, hd⟩ : ∃ d, 256 % m = d := ⟨_, rfl⟩
      rw [hd] at f0 f1 hst ht hw0
      have g0 : 0 ≤ acc * d % m := Int.emod_nonneg _ (by omega)
      have g1 : acc * d % m < m := Int.emod_lt_of_pos _ (by omega)
      obtain ⟨p, hp⟩ : ∃ p, acc * d % m = p := ⟨_, rfl⟩
      rw [hp] at g0 g1 hst
      obtain ⟨q, hq⟩ : ∃ q, (p + c) % m = q := ⟨_, rfl⟩
      have HP := Lib.hid hp
      have HQ := Lib.hid hq
      have hw1 : IntKind.i64.wrap (p + c) = p + c := IntWalk.i64_in _ (by omega)
      have HN2 : Hid (numL m h (k + 1) = q) := Lib.hid (by rw [HNX.out, ← hst, hq])
      clear hst hp hq HNX HN hd
      go_wp2
      go_quiet ((first | (go_at_call 51; exact quiet_w (rmul_any acc d m p HP h2 a0 a1 f0 f1 _)) | (go_at_call 74; exact quiet_w (rreduce_any (p + c) m q HQ h1 h2 (by omega) (by omega) _))))
      have HB2 := Lib.hid (below_drawN HBr.out nq)
      clear hc
      go_wp2
      go_roundw
      case rel => exact ⟨k + 1, q, by omega, by go_num, rfl, HN2, HB2⟩
      case measure => simp [intOf]; omega
    · have HF : Hid (numv m h = acc) := Lib.hid (by have e := HN.out; rwa [show k = 16 by omega] at e)
      have hbf := below_ext HBX.out HBr.out
      clear HN
      go_wp2
      go_ret
      exact ⟨by rw [HF.out]; rfl, hbf⟩
end Go.Proofs.YtcmidgdhihmppaaGreatDoor
namespace Go.Proofs.YtcmidgdhihmppaaGreatDoor
open Go.RowKit SpM
set_option linter.unusedVariables false
set_option linter.unusedSimpArgs false
set_option maxRecDepth 100000
/-- the cells of a transcript. -/
def tcs (h : List Int) (c : Int) : Array Value := arr .u8 h ++ #[.int .i64 c]
theorem list32 : ∀ h : List Int, h.length = 32 → ∃ a0 a1 a2 a3 a4 a5 a6 a7 a8 a9 a10 a11 a12 a13 a14 a15 a16 a17 a18 a19 a20 a21 a22 a23 a24 a25 a26 a27 a28 a29 a30 a31, h = [a0, a1, a2, a3, a4, a5, a6, a7, a8, a9, a10, a11, a12, a13, a14, a15, a16, a17, a18, a19, a20, a21, a22, a23, a24, a25, a26, a27, a28, a29, a30, a31]
  | [a0, a1, a2, a3, a4, a5, a6, a7, a8, a9, a10, a11, a12, a13, a14, a15, a16, a17, a18, a19, a20, a21, a22, a23, a24, a25, a26, a27, a28, a29, a30, a31], _ => ⟨a0, a1, a2, a3, a4, a5, a6, a7, a8, a9, a10, a11, a12, a13, a14, a15, a16, a17, a18, a19, a20, a21, a22, a23, a24, a25, a26, a27, a28, a29, a30, a31, rfl⟩
theorem built0 : Tryz.prog.built 87 [] = some (tcs (zer 32) 0) := by kernel_rfl
theorem built1 (h : List Int) (hl : h.length = 32) : Tryz.prog.built 87 [(0, .agg (arr .u8 h))] = some (tcs h 0) := by
  obtain ⟨a0, a1, a2, a3, a4, a5, a6, a7, a8, a9, a10, a11, a12, a13, a14, a15, a16, a17, a18, a19, a20, a21, a22, a23, a24, a25, a26, a27, a28, a29, a30, a31, rfl⟩ := list32 h hl
  kernel_rfl
theorem built2 (h : List Int) (hl : h.length = 32) (c : Int) : Tryz.prog.built 87 [(0, .agg (arr .u8 h)), (1, .int .i64 c)] = some (tcs h c) := by
  obtain ⟨a0, a1, a2, a3, a4, a5, a6, a7, a8, a9, a10, a11, a12, a13, a14, a15, a16, a17, a18, a19, a20, a21, a22, a23, a24, a25, a26, a27, a28, a29, a30, a31, rfl⟩ := list32 h hl
  kernel_rfl
theorem wpList_built {P : Program} {ops : Array Oper} {rest : List Oper} {o : Oper} {a : Act} {w : World} {Q : Exit → Act → World → Prop} (hg : o.guard = none) (t : TypeId) (l : List (Nat × Operand)) (ho : o.op = .build t l.toArray) (cells : Array Value)
    (hf : P.built t (l.map fun x => (x.1, a.eval x.2)) = some cells) (h : wpList P ops Q rest (a.put o.dst (.agg cells)) w) : wpList P ops Q (o :: rest) a w := by
  have e : (l.toArray.map fun (x : Nat × Operand) => (x.1, a.eval x.2)).toList = l.map fun x => (x.1, a.eval x.2) := by simp
  refine wpList_build hg t l.toArray ho ?_ ?_
  · show (P.built t (l.toArray.map fun (x : Nat × Operand) => (x.1, a.eval x.2)).toList).isSome = true
    rw [e, hf]; rfl
  · show wpList P ops Q rest (a.put o.dst (.agg ((P.built t (l.toArray.map fun (x : Nat × Operand) => (x.1, a.eval x.2)).toList).getD #[]))) w
    rw [e, hf]; exact h
theorem tcs_size {h : List Int} {c : Int} (hl : h.length = 32) : (tcs h c).size = 33 := by simp [tcs, arr_size, hl]
theorem infoT : (Tryz.prog.info? 87).map (·.size) = some 33 := by kernel_rfl
theorem tr_info {h : List Int} {c : Int} (hl : h.length = 32) : (Tryz.prog.info? 87).map (·.size) = some (tcs h c).size := infoT.trans (congrArg some (tcs_size hl).symm)
theorem tcs_one (h : List Int) (c : Int) : (tcs h c).all (·.oneCell') = true := by simp [tcs, arr, Value.oneCell']
theorem ztr : (#[.int .u8 0, .int .u8 0, .int .u8 0, .int .u8 0, .int .u8 0, .int .u8 0, .int .u8 0, .int .u8 0, .int .u8 0, .int .u8 0, .int .u8 0, .int .u8 0, .int .u8 0, .int .u8 0, .int .u8 0, .int .u8 0, .int .u8 0, .int .u8 0, .int .u8 0, .int .u8 0, .int .u8 0, .int .u8 0, .int .u8 0, .int .u8 0, .int .u8 0, .int .u8 0, .int .u8 0, .int .u8 0, .int .u8 0, .int .u8 0, .int .u8 0, .int .u8 0, .int .i64 0] : Array Value) = tcs (zer 32) 0 := rfl
theorem tcs_sz {h h' : List Int} {c c' : Int} (hl : h.length = 32) (hl' : h'.length = 32) : (tcs h c).size = (tcs h' c').size := by rw [tcs_size hl, tcs_size hl']
/-- a block that holds a transcript. -/
def TBlk (w : World) (b : Nat) (h : List Int) (c : Int) : Prop := w.heap[b]? = some (.cells (tcs h c) 87 (0, 0))
theorem TBlk.below {w w' : World} {b : Nat} {h : List Int} {c : Int} (hh : TBlk w b h c) (hb : Below w.heap.size w w') : TBlk w' b h c := (hb.block b (Array.getElem?_eq_some_iff.1 hh).1).trans hh
theorem TBlk.new (w : World) (h : List Int) (c : Int) : TBlk (w.alloc (.cells (tcs h c) 87)) w.heap.size h c := heap_alloc_new _ _
theorem TBlk.lt {w : World} {b : Nat} {h : List Int} {c : Int} (hh : TBlk w b h c) : b < w.heap.size := (Array.getElem?_eq_some_iff.1 hh).1
theorem TBlk.setRow {w : World} {b : Nat} {h h' : List Int} {c c' : Int} (hh : TBlk w b h c) : TBlk (w.setRow b (tcs h' c')) b h' c' := setRow_heap w b _ _ _ _ hh
theorem TBlk.count {w : World} {b : Nat} {h : List Int} {c : Int} (hh : TBlk w b h c) (hl : h.length = 32) : w.cell? ⟨b, 32, none⟩ = some (.int .i64 c) := by
  rw [cell_blk hh, tcs, Array.getElem?_append_right (by rw [arr_size, hl]; exact Nat.le_refl _), arr_size, hl]
  rfl
theorem TBlk.sk {w : World} {b : Nat} {h : List Int} {c : Int} (hh : TBlk w b h c) : Sk .u8 w (some ⟨b, 0, none⟩) h := fun j hj => ⟨b, 0, rfl, by
  rw [Nat.zero_add, cell_blk hh, tcs, Array.getElem?_append_left (by rw [arr_size]; exact hj)]
  exact arr_get hj⟩
theorem tvalid_any (h : List Int) (hl : Hid (h.length = 32)) (c : Int) (h0 : 0 ≤ c) (h1 : c ≤ 1000) (w : World) :
    Calls Tryz.prog 114 #[.agg (tcs h c)] w fun e w' => e = .returned (.bool true) ∧ Below w.heap.size w w' := by
  have hc := (TBlk.new w h c).count hl.out
  have d1 : decide ((0 : Int) ≤ c) = true := by simp [h0]
  have d2 : decide (c ≤ 1000) = true := by simp [h1]
  go_enter Tryz.func114, Tryz.ntmps114
  go_wp2
  go_ret
  exact ⟨rfl, below_box0 _ _⟩
theorem rtvalid_any (h : List Int) (hl : Hid (h.length = 32)) (c : Int) (h0 : 0 ≤ c) (h1 : c ≤ 1000) (w : World) :
    Calls Tryz.prog 98 #[.agg (tcs h c)] w fun e w' => e = .returned (.bool true) ∧ Below w.heap.size w w' := by
  have hc := (TBlk.new w h c).count hl.out
  have d1 : decide ((0 : Int) ≤ c) = true := by simp [h0]
  have d2 : decide (c ≤ 1000) = true := by simp [h1]
  go_enter Tryz.func98, Tryz.ntmps98
  go_wp2
  go_ret
  exact ⟨rfl, below_box0 _ _⟩
/-- the tag of new transcripts. -/
def tagT : ByteArray := ⟨#[115, 112, 101, 99, 105, 101, 47, 116, 114, 97, 110, 115, 99, 114, 105, 112, 116]⟩
/-- a transcript and an error. -/
def TrE (h : List Int) (c e : Int) : Value := .tuple #[.agg (tcs h c), .int .i64 e]
def newL (l : List Int) : List Int := tagged (bys tagT) l
set_option maxHeartbeats 1600000 in
theorem tnew_bad (s : ByteArray) (hs : s.size ≤ 1000) (hr : Hid (labB (bys s) = false)) (w : World) :
    Calls Tryz.prog 62 #[.string s] w fun e w' => e = .returned (TrE (zer 32) 0 1) ∧ Below w.heap.size w w' := by
  obtain ⟨W, hW⟩ : ∃ W, w.alloc (.cells #[.int .u8 0, .int .u8 0, .int .u8 0, .int .u8 0, .int .u8 0, .int .u8 0, .int .u8 0, .int .u8 0, .int .u8 0, .int .u8 0, .int .u8 0, .int .u8 0, .int .u8 0, .int .u8 0, .int .u8 0, .int .u8 0, .int .u8 0, .int .u8 0, .int .u8 0, .int .u8 0, .int .u8 0, .int .u8 0, .int .u8 0, .int .u8 0, .int .u8 0, .int .u8 0, .int .u8 0, .int .u8 0, .int .u8 0, .int .u8 0, .int .u8 0, .int .u8 0, .int .i64 0] 87) = W := ⟨_, rfl⟩
  have HBX : Hid (Below w.heap.size w W) := Lib.hid (by rw [← hW]; exact below_box0 _ _)
  have HT0 : Hid (TBlk W w.heap.size (zer 32) 0) := Lib.hid (by rw [← hW, ztr]; exact TBlk.new _ _ _)
  have HW := Lib.hid hW
  clear hW
  go_enter Tryz.func62, Tryz.ntmps62
  go_wp2_with fail
  rw [HW.out]
  refine (tlabel_any s hs false hr _).mono ?_
  rintro e w1 ⟨rfl, hb1⟩
  have HT1 := Lib.hid (HT0.out.below hb1)
  have HB1 := Lib.hid (below_ext HBX.out hb1)
  clear hb1
  go_wp2_with (first
    | ((with_reducible show wpList _ _ _ (⟨some 9, _, _, _, _, _⟩ :: _) _ _); refine wpList_built rfl 87 _ rfl _ built0 ?_)
    | ((with_reducible show wpList _ _ _ (⟨none, _, _, _, _, _⟩ :: _) _ _); refine wpList_store_row rfl 87 _ _ rfl w.heap.size (tcs (zer 32) 0) rfl rfl _ _ HT1.out (tr_info rfl) rfl (tcs_one _ _) ?_))
  have HRR : Hid (TBlk (w1.setRow w.heap.size (tcs (zer 32) 0)) w.heap.size (zer 32) 0) := Lib.hid HT1.out.setRow
  have HBF : Below w.heap.size w (w1.setRow w.heap.size (tcs (zer 32) 0)) := below_setRow' HB1.out (Nat.le_refl _)
  exact bodyPost_ret (v := TrE (zer 32) 0 1) (results_cell_tmp2 (p := 2) (q := 3) (ty := 87) rfl _ _ ⟨w.heap.size, 0, none⟩ _ _ rfl rfl (run_loadVar_row _ _ _ _ _ _ _ HRR.out Tryz.underlying87 rfl (tr_info rfl))) rfl ⟨rfl, HBF⟩
set_option maxHeartbeats 1600000 in
theorem tnew_ok (s : ByteArray) (hs : s.size ≤ 1000) (hr : Hid (labB (bys s) = true)) (w : World) (hv : Hid (VarsD w)) :
    Calls Tryz.prog 62 #[.string s] w fun e w' => e = .returned (TrE (newL (bys s)) 0 0) ∧ Below w.heap.size w w' := by
  have hs0 : 1 ≤ s.size := by
    have h := hr.out
    rw [labB, bys_len] at h
    simp at h
    exact h.1.1
  obtain ⟨W, hW⟩ : ∃ W, w.alloc (.cells #[.int .u8 0, .int .u8 0, .int .u8 0, .int .u8 0, .int .u8 0, .int .u8 0, .int .u8 0, .int .u8 0, .int .u8 0, .int .u8 0, .int .u8 0, .int .u8 0, .int .u8 0, .int .u8 0, .int .u8 0, .int .u8 0, .int .u8 0, .int .u8 0, .int .u8 0, .int .u8 0, .int .u8 0, .int .u8 0, .int .u8 0, .int .u8 0, .int .u8 0, .int .u8 0, .int .u8 0, .int .u8 0, .int .u8 0, .int .u8 0, .int .u8 0, .int .u8 0, .int .i64 0] 87) = W := ⟨_, rfl⟩
  have HBX : Hid (Below w.heap.size w W) := Lib.hid (by rw [← hW]; exact below_box0 _ _)
  have HT0 : Hid (TBlk W w.heap.size (zer 32) 0) := Lib.hid (by rw [← hW, ztr]; exact TBlk.new _ _ _)
  have HV := Lib.hid (hv.out.below HBX.out)
  have HW := Lib.hid hW
  have hcv := fun w => run_bytes_of_string (P := Tryz.prog) w 9 114 5 s Tryz.underlying9 Tryz.underlying114 Tryz.underlying5
  clear hW hv
  go_enter Tryz.func62, Tryz.ntmps62
  go_wp2_with fail
  rw [HW.out]
  refine (tlabel_any s hs true hr _).mono ?_
  rintro e w1 ⟨rfl, hb1⟩
  have HT1 := Lib.hid (HT0.out.below hb1)
  have HB1 := Lib.hid (below_ext HBX.out hb1)
  have HV1 := Lib.hid (HV.out.below hb1)
  clear hb1 HW
  go_wp2_with fail
  clear hcv
  obtain ⟨Wc, hWc⟩ : ∃ u, (w1.alloc (.cells (bytesRow s (grownCap w1 s.size 0 5)) 5 ((bytesRow s (grownCap w1 s.size 0 5)).size, (bytesRow s (grownCap w1 s.size 0 5)).size + 1))).drew = u := ⟨_, rfl⟩
  have HBc : Hid (Below w1.heap.size w1 Wc) := Lib.hid (by rw [← hWc]; exact (below_box0 _ _).drew)
  have HSc : Hid (Sk .u8 Wc (some ⟨w1.heap.size, 0, none⟩) (bys s)) := Lib.hid (by
    rw [← hWc]
    exact bys_sk (heap_alloc_new w1 _))
  obtain ⟨gc, hgc⟩ : ∃ g, grownCap w1 s.size 0 5 = g := ⟨_, rfl⟩
  rw [hWc, hgc]
  clear hWc hgc
  refine (tagged_any tagT (by decide) (by decide) w1.heap.size 0 gc (bys s) s.size (Lib.hid (bys_len s)) hs0 (by omega) (Lib.hid (bys_bytes s)) _ HSc (Lib.hid (HV1.out.below HBc.out))).mono ?_
  rintro e w2 ⟨rfl, hb2⟩
  have HT2 := Lib.hid ((HT1.out.below HBc.out).below hb2)
  have HB2 := Lib.hid (below_ext (below_ext HB1.out HBc.out) hb2)
  obtain ⟨R, hR⟩ : ∃ R, tagged (bys tagT) (bys s) = R := ⟨_, rfl⟩
  have hRl : R.length = 32 := by rw [← hR]; exact tagged_len _ _
  have HN : Kp (newL (bys s) = R) := ⟨hR⟩
  have HRL := Lib.hid hRl
  rw [hR, show HashOk R = .tuple #[.agg (arr .u8 R), .int .i64 0] from rfl]
  clear hb2 HSc HBc HT1 HB1 HV1 hR hRl
  go_upto_region 4 with ((with_reducible show wpList _ _ _ (⟨none, _, _, _, _, _⟩ :: _) _ _); refine wpList_store_row rfl 37 _ _ rfl w2.heap.size (arr .u8 R) rfl rfl _ _ (heap_alloc_new _ _) (hash_info HRL.out) (arrs_sz (l := zer 32) rfl HRL.out) (arr_one _) ?_)
  rw [World.setRow_alloc_new]
  try simp only [Act.put]
  have HH3 : Hid (Blk .u8 37 (w2.alloc (.cells (arr .u8 R) 37)) w2.heap.size R) := Lib.hid (Blk.new _ _)
  have HT3 := Lib.hid (HT2.out.below (below_box0 w2 (.cells (arr .u8 R) 37)))
  have HB3 := Lib.hid (below_ext HB2.out (below_box0 w2 (.cells (arr .u8 R) 37)))
  obtain ⟨W3, hW3⟩ : ∃ u, w2.alloc (.cells (arr .u8 R) 37) = u := ⟨_, rfl⟩
  rw [hW3] at HH3 HT3 HB3 ⊢
  clear hW3
  go_wp2_with (first
    | ((with_reducible show wpList _ _ _ (⟨some 16, _, _, _, _, _⟩ :: _) _ _); refine wpList_load_row rfl 37 _ rfl w2.heap.size rfl _ _ _ _ HH3.out Tryz.underlying37 rfl (hash_info HRL.out) ?_)
    | ((with_reducible show wpList _ _ _ (⟨some 17, _, _, _, _, _⟩ :: _) _ _); refine wpList_built rfl 87 _ rfl _ (built1 R HRL.out) ?_)
    | ((with_reducible show wpList _ _ _ (⟨none, _, _, _, _, _⟩ :: _) _ _); refine wpList_store_row rfl 87 _ _ rfl w.heap.size (tcs R 0) rfl rfl _ _ HT3.out (tr_info HRL.out) (tcs_sz rfl HRL.out) (tcs_one _ _) ?_))
  have HRR : Hid (TBlk (W3.setRow w.heap.size (tcs R 0)) w.heap.size R 0) := Lib.hid HT3.out.setRow
  have HBF : Below w.heap.size w (W3.setRow w.heap.size (tcs R 0)) := below_setRow' HB3.out (Nat.le_refl _)
  exact bodyPost_ret (v := TrE R 0 0) (results_cell_tmp2 (p := 2) (q := 3) (ty := 87) rfl _ _ ⟨w.heap.size, 0, none⟩ _ _ rfl rfl (run_loadVar_row _ _ _ _ _ _ _ HRR.out Tryz.underlying87 rfl (tr_info HRL.out))) rfl ⟨by rw [HN.out], HBF⟩
set_option maxHeartbeats 1600000 in
theorem rtnew_ok (s : ByteArray) (hs : s.size ≤ 1000) (hs0 : 1 ≤ s.size) (w : World) :
    Calls Tryz.prog 64 #[.string s] w fun e w' => e = .returned (.agg (tcs (newL (bys s)) 0)) ∧ Below w.heap.size w w' := by
  obtain ⟨W, hW⟩ : ∃ W, w.alloc (.cells #[.int .u8 0, .int .u8 0, .int .u8 0, .int .u8 0, .int .u8 0, .int .u8 0, .int .u8 0, .int .u8 0, .int .u8 0, .int .u8 0, .int .u8 0, .int .u8 0, .int .u8 0, .int .u8 0, .int .u8 0, .int .u8 0, .int .u8 0, .int .u8 0, .int .u8 0, .int .u8 0, .int .u8 0, .int .u8 0, .int .u8 0, .int .u8 0, .int .u8 0, .int .u8 0, .int .u8 0, .int .u8 0, .int .u8 0, .int .u8 0, .int .u8 0, .int .u8 0, .int .i64 0] 87) = W := ⟨_, rfl⟩
  have HBX : Hid (Below w.heap.size w W) := Lib.hid (by rw [← hW]; exact below_box0 _ _)
  have HT0 : Hid (TBlk W w.heap.size (zer 32) 0) := Lib.hid (by rw [← hW, ztr]; exact TBlk.new _ _ _)
  have HSZ : Hid (W.heap.size = w.heap.size + 1) := Lib.hid (by rw [← hW]; simp)
  have HW := Lib.hid hW
  have hcv := fun w => run_bytes_of_string (P := Tryz.prog) w 9 114 5 s Tryz.underlying9 Tryz.underlying114 Tryz.underlying5
  clear hW
  go_enter Tryz.func64, Tryz.ntmps64
  go_wp2_with fail
  rw [HW.out]
  clear hcv HW
  obtain ⟨Wc, hWc⟩ : ∃ u, (W.alloc (.cells (bytesRow s (grownCap W s.size 0 5)) 5 ((bytesRow s (grownCap W s.size 0 5)).size, (bytesRow s (grownCap W s.size 0 5)).size + 1))).drew = u := ⟨_, rfl⟩
  have HBc : Hid (Below W.heap.size W Wc) := Lib.hid (by rw [← hWc]; exact (below_box0 _ _).drew)
  have HSc : Hid (Sk .u8 Wc (some ⟨w.heap.size + 1, 0, none⟩) (bys s)) := Lib.hid (by
    rw [← hWc, ← HSZ.out]
    exact bys_sk (heap_alloc_new W _))
  obtain ⟨gc, hgc⟩ : ∃ g, grownCap W s.size 0 5 = g := ⟨_, rfl⟩
  rw [hWc, hgc]
  clear hWc hgc
  refine (rtagged_any tagT (by decide) (by decide) (w.heap.size + 1) 0 gc (bys s) s.size (Lib.hid (bys_len s)) hs0 (by omega) (Lib.hid (bys_bytes s)) _ HSc).mono ?_
  rintro e w2 ⟨rfl, hb2⟩
  have HT2 := Lib.hid ((HT0.out.below HBc.out).below hb2)
  have HB2 := Lib.hid (below_ext (below_ext HBX.out HBc.out) hb2)
  obtain ⟨R, hR⟩ : ∃ R, tagged (bys tagT) (bys s) = R := ⟨_, rfl⟩
  have hRl : R.length = 32 := by rw [← hR]; exact tagged_len _ _
  have HN : Kp (newL (bys s) = R) := ⟨hR⟩
  have HRL := Lib.hid hRl
  rw [hR]
  clear hb2 HSc HBc hR hRl
  go_wp2_with (first
    | ((with_reducible show wpList _ _ _ (⟨some 6, _, _, _, _, _⟩ :: _) _ _); refine wpList_built rfl 87 _ rfl _ (built1 R HRL.out) ?_)
    | ((with_reducible show wpList _ _ _ (⟨none, _, _, _, _, _⟩ :: _) _ _); refine wpList_store_row rfl 87 _ _ rfl w.heap.size (tcs R 0) rfl rfl _ _ HT2.out (tr_info HRL.out) (tcs_sz rfl HRL.out) (tcs_one _ _) ?_))
  have HRR : Hid (TBlk (w2.setRow w.heap.size (tcs R 0)) w.heap.size R 0) := Lib.hid HT2.out.setRow
  have HBF : Below w.heap.size w (w2.setRow w.heap.size (tcs R 0)) := below_setRow' HB2.out (Nat.le_refl _)
  exact bodyPost_ret (v := .agg (tcs R 0)) (results_cell1 (p := 2) (ty := 87) rfl _ _ ⟨w.heap.size, 0, none⟩ _ rfl (run_loadVar_row _ _ _ _ _ _ _ HRR.out Tryz.underlying87 rfl (tr_info HRL.out))) rfl ⟨by rw [HN.out], HBF⟩
end Go.Proofs.YtcmidgdhihmppaaGreatDoor
namespace Go.Proofs.YtcmidgdhihmppaaGreatDoor
open Go.RowKit SpM
set_option linter.unusedVariables false
set_option linter.unusedSimpArgs false
set_option maxRecDepth 100000
theorem itr_list {w : World} {base : Nat} {v : Value} {cs : List Ic} {l : List It} {n : Nat} (h : OwnI w base v cs) (hc : cs.length = n) (hl : l.length = n) (hpos : 0 < n) (hr : ∀ k, k < n → ItR w (l.getD k default) (cs.getD k default)) :
    ∃ g cap, v = .slice (some ⟨g, 0, none⟩) n cap ∧ ItR w (.lst l) ⟨3, 0, none, 0, 0, some ⟨g, 0, none⟩, n, cap⟩ := by
  obtain ⟨g, cap, e, _, _, hf⟩ := h.four (by omega)
  rw [hc] at e hf
  exact ⟨g, cap, e, .lst l _ rfl rfl rfl hl.symm (fun k => cs.getD k default) (fun k hk => ⟨g, 0, rfl, hf k (by omega)⟩) (fun k hk => hr k (by omega))⟩
/-- the fields of bytes. -/
def icByt (A : Option Addr) (n c : Nat) : Ic := ⟨2, 0, A, n, c, none, 0, 0⟩
theorem itr_byt {w : World} {A : Option Addr} {n c : Nat} {b : List Int} (h : Sk .u8 w A b) (hn : b.length = n) : ItR w (.byt b) (icByt A n c) := .byt b _ rfl rfl hn.symm rfl h
theorem ownI_two (w : World) (a b : Ic) : OwnI (w.alloc (.cells #[.int .i64 a.kind, .int .i64 a.n, .slice a.B a.nb a.cb, .slice a.L a.nl a.cl, .int .i64 b.kind, .int .i64 b.n, .slice b.B b.nb b.cb, .slice b.L b.nl b.cl] 126)) w.heap.size (.slice (some ⟨w.heap.size, 0, none⟩) 2 2) [a, b] :=
  ⟨rfl, Or.inr ⟨w.heap.size, 2, _, rfl, Nat.le_refl _, heap_alloc_new _ _, Nat.le_refl _, by decide, rfl, rfl⟩⟩
theorem four_news {w : World} {b : Nat} {c : Ic} (h : Four w b 0 c) (j : Nat) (u : Value) (hj : (itemCells c)[j]? = some u) : w.cell? ((⟨b, 0, none⟩ : Addr).add j) = some u := by
  obtain ⟨h0, h1, h2, h3⟩ := h
  match j, hj with
  | 0, e => simp [itemCells] at e; subst e; exact h0
  | 1, e => simp [itemCells] at e; subst e; exact h1
  | 2, e => simp [itemCells] at e; subst e; exact h2
  | 3, e => simp [itemCells] at e; subst e; exact h3
  | j + 4, e => simp [itemCells] at e
theorem itemCells_one (c : Ic) : ∀ u ∈ itemCells c, u.oneCell' = true := by
  intro u hu
  simp [itemCells] at hu
  rcases hu with rfl | rfl | rfl | rfl <;> rfl
theorem sk_old {K : IntKind} {w w' : World} {B b : Nat} {l : List Int} (h : Sk K w (some ⟨b, 0, none⟩) l) (hb : Below B w w') (hl : b < B) : Sk K w' (some ⟨b, 0, none⟩) l := by
  intro j hj
  obtain ⟨b1, o, e, hc⟩ := h j hj
  injection e with e
  injection e with e1 e2 e3
  subst e1
  subst e2
  exact ⟨b, 0, rfl, (hb.cell (p := ⟨b, 0 + j, none⟩) hl).trans hc⟩
set_option maxHeartbeats 3200000 in
theorem hash0_any (tg : ByteArray) (ht1 : 1 ≤ tg.size) (ht2 : tg.size ≤ 100) (h : List Int) (hl : Hid (h.length = 32)) (hb : Hid (bytesB h = true)) (c : Int) (s : ByteArray) (hs0 : 1 ≤ s.size) (hs : s.size ≤ 1000) (w : World) (hv : Hid (VarsD w)) :
    Calls Tryz.prog 115 #[.string tg, .agg (tcs h c), .string s, .slice none 0 0] w fun e w' => e = .returned (HashOk (tagged (bys tg) (enc (.lst [.byt h, .byt (bys s)])))) ∧ Below w.heap.size w w' := by
  obtain ⟨i0, hi, hz0, hz1, hz2⟩ := info_parts itemInfo
  obtain ⟨RR, hRR⟩ : ∃ R, tagged (bys tg) (enc (.lst [.byt h, .byt (bys s)])) = R := ⟨_, rfl⟩
  rw [hRR]
  have HRR0 : Kp (tagged (bys tg) (enc (.lst [.byt h, .byt (bys s)])) = RR) := ⟨hRR⟩
  clear hRR
  obtain ⟨W, hW⟩ : ∃ W, (w.alloc (.cells (tcs h c) 87)).alloc (.cells #[.int .u8 0, .int .u8 0, .int .u8 0, .int .u8 0, .int .u8 0, .int .u8 0, .int .u8 0, .int .u8 0, .int .u8 0, .int .u8 0, .int .u8 0, .int .u8 0, .int .u8 0, .int .u8 0, .int .u8 0, .int .u8 0, .int .u8 0, .int .u8 0, .int .u8 0, .int .u8 0, .int .u8 0, .int .u8 0, .int .u8 0, .int .u8 0, .int .u8 0, .int .u8 0, .int .u8 0, .int .u8 0, .int .u8 0, .int .u8 0, .int .u8 0, .int .u8 0] 37) = W := ⟨_, rfl⟩
  have HBX : Hid (Below w.heap.size w W) := Lib.hid (by rw [← hW]; exact below_two (Below.refl _ _))
  have HT0 : Hid (TBlk W w.heap.size h c) := Lib.hid (by rw [← hW]; exact heap_alloc2_old _ _ _)
  have HR0 : Hid (Blk .u8 37 W (w.heap.size + 1) (zer 32)) := Lib.hid (by rw [← hW, zarrh]; exact heap_alloc2_new _ _ _)
  have HSZ : Hid (W.heap.size = w.heap.size + 2) := Lib.hid (by rw [← hW]; simp)
  have HV := Lib.hid (hv.out.below HBX.out)
  have HW := Lib.hid hW
  have hcv := fun w => run_bytes_of_string (P := Tryz.prog) w 9 114 5 s Tryz.underlying9 Tryz.underlying114 Tryz.underlying5
  clear hW hv
  go_enter Tryz.func115, Tryz.ntmps115
  go_upto_region 1 with (fail)
  rw [HW.out]
  go_upto_region 2 with (fail)
  clear hcv HW
  obtain ⟨gc, hgc⟩ : ∃ g, grownCap W s.size 0 5 = g := ⟨_, rfl⟩
  rw [hgc]
  obtain ⟨Wc, hWc⟩ : ∃ u, W.alloc (.cells (bytesRow s gc) 5 ((bytesRow s gc).size, (bytesRow s gc).size + 1)) = u := ⟨_, rfl⟩
  rw [hWc]
  have HBc : Hid (Below W.heap.size W Wc) := Lib.hid (by rw [← hWc]; exact below_box0 _ _)
  have HSc : Hid (Sk .u8 Wc (some ⟨W.heap.size, 0, none⟩) (bys s)) := Lib.hid (by rw [← hWc]; exact bys_sk (heap_alloc_new W _))
  have HCZ : Hid (Wc.heap.size = W.heap.size + 1) := Lib.hid (by rw [← hWc]; simp)
  obtain ⟨W2, hW2⟩ : ∃ u, (Wc.alloc (.cells #[.int .i64 2, .int .i64 0, .slice (some ⟨w.heap.size, 0, none⟩) 32 32, .slice none 0 0, .int .i64 2, .int .i64 0, .slice (some ⟨W.heap.size, 0, none⟩) s.size gc, .slice none 0 0] 126)).drew = u := ⟨_, rfl⟩
  have HO2 : Hid (OwnI W2 Wc.heap.size (.slice (some ⟨W.heap.size + 1, 0, none⟩) 2 2) [icByt (some ⟨w.heap.size, 0, none⟩) 32 32, icByt (some ⟨W.heap.size, 0, none⟩) s.size gc]) := Lib.hid (by
    rw [← hW2]
    have h := (ownI_two Wc (icByt (some ⟨w.heap.size, 0, none⟩) 32 32) (icByt (some ⟨W.heap.size, 0, none⟩) s.size gc)).keep (Below.refl _ _).drew
    rw [HCZ.out] at h ⊢
    exact h)
  have HB2 : Hid (Below W.heap.size W W2) := Lib.hid (below_ext HBc.out (by rw [← hW2]; exact (below_box0 _ _).drew))
  have HS2 : Hid (Sk .u8 W2 (some ⟨W.heap.size, 0, none⟩) (bys s)) := Lib.hid (HSc.out.below (by rw [← hW2]; exact (below_box0 _ _).drew))
  have hzW : Wc.heap.size < W2.heap.size := by rw [← hW2]; simp
  rw [hW2]
  clear hW2 hWc hgc HSc HBc
  have hrow : W2.ownsRow Wc.heap.size 126 4 (.slice (some ⟨W.heap.size + 1, 0, none⟩) 2 2) 2 ([icByt (some ⟨w.heap.size, 0, none⟩) 32 32, icByt (some ⟨W.heap.size, 0, none⟩) s.size gc].flatMap itemCells) := HO2.out
  have HSZB := hs
  go_wp2_with (at_builtin; refine wpList_append_own_none rfl _ _ 124 rfl Wc.heap.size 126 i0 4 Tryz.underlying124 hi _ _ _ rfl hrow rfl ?_)
  have HIX : Hid (∃ g cap, (Value.slice (some ⟨W.heap.size + 1, 0, none⟩) 2 2) = .slice (some ⟨g, 0, none⟩) 2 cap ∧ ItR W2 (.lst [.byt h, .byt (bys s)]) ⟨3, 0, none, 0, 0, some ⟨g, 0, none⟩, 2, cap⟩) := Lib.hid (itr_list HO2.out rfl rfl (by decide) (fun k hk => by
    rcases (show k = 0 ∨ k = 1 by omega) with rfl | rfl
    · exact itr_byt (HT0.out.below HB2.out).sk hl.out
    · exact itr_byt HS2.out (bys_len s)))
  obtain ⟨g3, cap3, e3, hit⟩ := HIX.out
  simp only [Value.slice.injEq, Option.some.injEq, Addr.mk.injEq] at e3
  obtain ⟨⟨rfl, -⟩, -, rfl⟩ := e3
  have HIT := Lib.hid hit
  have HB3 := HB2
  have HFIT : Hid (fits 8 (.lst [.byt h, .byt (bys s)])) := Lib.hid (by
    refine ⟨by simp, fun x hx => ?_⟩
    rcases (by simpa using hx : x = .byt h ∨ x = .byt (bys s)) with rfl | rfl
    · exact ⟨⟨by rw [hl.out]; decide, by rw [hl.out]; decide⟩, hb.out⟩
    · exact ⟨⟨by rw [bys_len]; omega, by rw [bys_len]; omega⟩, bys_bytes s⟩)
  have HLEN : Hid ((enc (.lst [.byt h, .byt (bys s)])).length ≤ 16384) := Lib.hid (by
    rw [enc_lst]
    simp only [encL, enc_byt, List.length_cons, List.length_append, be4_len, hl.out, bys_len, List.length_nil]
    omega)
  clear hit HIX hrow
  rw [show (Value.agg #[.int .i64 3, .int .i64 0, .slice none 0 0, .slice (some ⟨W.heap.size + 1, 0, none⟩) 2 2]) = (Ic.mk 3 0 none 0 0 (some ⟨W.heap.size + 1, 0, none⟩) 2 2).val from rfl]
  refine (encode_any _ _ _ HFIT.out HIT.out HLEN.out).mono ?_
  rintro e w4 ⟨v4, rfl, ho4, hb4⟩
  obtain ⟨E, hE⟩ : ∃ E, enc (.lst [.byt h, .byt (bys s)]) = E := ⟨_, rfl⟩
  have HEB : Hid (bytesB E = true) := Lib.hid (by rw [← hE]; exact enc_bytes HFIT.out)
  have HEL : Hid (0 < E.length ∧ E.length ≤ 16384) := Lib.hid (by rw [← hE]; exact ⟨enc_pos _, HLEN.out⟩)
  rw [hE] at ho4
  obtain ⟨g4, cap4, e4, hg4, -, -, hsk4⟩ := ho4.cells HEL.out.1
  obtain ⟨n4, hn4⟩ : ∃ n, E.length = n := ⟨_, rfl⟩
  rw [hn4] at e4 HEL
  subst e4
  have HN4 := Lib.hid hn4
  have HS4 := Lib.hid hsk4
  have HB4 := Lib.hid (below_ext HB3.out hb4)
  have HEE : Kp (enc (.lst [.byt h, .byt (bys s)]) = E) := ⟨hE⟩
  clear hE hsk4 ho4 hb4 hn4 HIT HLEN HFIT
  obtain ⟨he0, he1⟩ := HEL.out
  go_wp2_with fail
  refine (tagged_any tg ht1 ht2 g4 0 cap4 E n4 HN4 he0 (by omega) HEB _ HS4 (Lib.hid (HV.out.below HB4.out))).mono ?_
  rintro e w5 ⟨rfl, hb5⟩
  have HB5 := Lib.hid (below_ext HB4.out hb5)
  obtain ⟨R, hR⟩ : ∃ R, tagged (bys tg) E = R := ⟨_, rfl⟩
  have HRL : Hid (R.length = 32) := Lib.hid (by rw [← hR]; exact tagged_len _ _)
  have hRe : RR = R := by rw [← HRR0.1, HEE.1, hR]
  subst hRe
  rw [hR, show HashOk RR = .tuple #[.agg (arr .u8 RR), .int .i64 0] from rfl]
  clear hb5 hR HS4 HB4
  have HR5 : Hid (Blk .u8 37 w5 (w.heap.size + 1) (zer 32)) := Lib.hid (HR0.out.below HB5.out)
  go_wp2_with ((with_reducible show wpList _ _ _ (⟨none, _, _, _, _, _⟩ :: _) _ _); refine wpList_store_row rfl 37 _ _ rfl (w.heap.size + 1) (arr .u8 RR) rfl rfl _ _ HR5.out (hash_info HRL.out) (arrs_sz (l := zer 32) rfl HRL.out) (arr_one _) ?_)
  have HRR : Hid (Blk .u8 37 (w5.setRow (w.heap.size + 1) (arr .u8 RR)) (w.heap.size + 1) RR) := Lib.hid HR5.out.setRow
  have HBF : Below w.heap.size w (w5.setRow (w.heap.size + 1) (arr .u8 RR)) := below_setRow' (below_ext HBX.out HB5.out) (Nat.le_succ _)
  exact bodyPost_ret (v := HashOk RR) (results_cell_tmp2 (p := 8) (q := 9) (ty := 37) rfl _ _ ⟨w.heap.size + 1, 0, none⟩ _ _ rfl rfl (run_loadVar_row _ _ _ _ _ _ _ HRR.out Tryz.underlying37 rfl (hash_info HRL.out))) rfl ⟨rfl, HBF⟩
set_option maxHeartbeats 3200000 in
theorem hash1_any (tg : ByteArray) (ht1 : 1 ≤ tg.size) (ht2 : tg.size ≤ 100) (h : List Int) (hl : Hid (h.length = 32)) (hb : Hid (bytesB h = true)) (c : Int) (s : ByteArray) (hs0 : 1 ≤ s.size) (hs : s.size ≤ 1000) (item : It) (cI : Ic) (gm cm : Nat) (w : World) (hv : Hid (VarsD w)) (hF : Hid (Four w gm 0 cI)) (hI : Hid (ItR w item cI)) (hfi : Hid (fits 7 item)) (hle : Hid ((enc item).length ≤ 14000)) :
    Calls Tryz.prog 115 #[.string tg, .agg (tcs h c), .string s, .slice (some ⟨gm, 0, none⟩) 1 cm] w fun e w' => e = .returned (HashOk (tagged (bys tg) (enc (.lst [.byt h, .byt (bys s), item])))) ∧ Below w.heap.size w w' := by
  obtain ⟨i0, hi, hz0, hz1, hz2⟩ := info_parts itemInfo
  obtain ⟨RR, hRR⟩ : ∃ R, tagged (bys tg) (enc (.lst [.byt h, .byt (bys s), item])) = R := ⟨_, rfl⟩
  rw [hRR]
  have HRR0 : Kp (tagged (bys tg) (enc (.lst [.byt h, .byt (bys s), item])) = RR) := ⟨hRR⟩
  clear hRR
  obtain ⟨W, hW⟩ : ∃ W, (w.alloc (.cells (tcs h c) 87)).alloc (.cells #[.int .u8 0, .int .u8 0, .int .u8 0, .int .u8 0, .int .u8 0, .int .u8 0, .int .u8 0, .int .u8 0, .int .u8 0, .int .u8 0, .int .u8 0, .int .u8 0, .int .u8 0, .int .u8 0, .int .u8 0, .int .u8 0, .int .u8 0, .int .u8 0, .int .u8 0, .int .u8 0, .int .u8 0, .int .u8 0, .int .u8 0, .int .u8 0, .int .u8 0, .int .u8 0, .int .u8 0, .int .u8 0, .int .u8 0, .int .u8 0, .int .u8 0, .int .u8 0] 37) = W := ⟨_, rfl⟩
  have HBX : Hid (Below w.heap.size w W) := Lib.hid (by rw [← hW]; exact below_two (Below.refl _ _))
  have HT0 : Hid (TBlk W w.heap.size h c) := Lib.hid (by rw [← hW]; exact heap_alloc2_old _ _ _)
  have HR0 : Hid (Blk .u8 37 W (w.heap.size + 1) (zer 32)) := Lib.hid (by rw [← hW, zarrh]; exact heap_alloc2_new _ _ _)
  have HSZ : Hid (W.heap.size = w.heap.size + 2) := Lib.hid (by rw [← hW]; simp)
  have HV := Lib.hid (hv.out.below HBX.out)
  have HW := Lib.hid hW
  have hcv := fun w => run_bytes_of_string (P := Tryz.prog) w 9 114 5 s Tryz.underlying9 Tryz.underlying114 Tryz.underlying5
  clear hW hv
  go_enter Tryz.func115, Tryz.ntmps115
  go_upto_region 1 with (fail)
  rw [HW.out]
  go_upto_region 2 with (fail)
  clear hcv HW
  obtain ⟨gc, hgc⟩ : ∃ g, grownCap W s.size 0 5 = g := ⟨_, rfl⟩
  rw [hgc]
  obtain ⟨Wc, hWc⟩ : ∃ u, W.alloc (.cells (bytesRow s gc) 5 ((bytesRow s gc).size, (bytesRow s gc).size + 1)) = u := ⟨_, rfl⟩
  rw [hWc]
  have HBc : Hid (Below W.heap.size W Wc) := Lib.hid (by rw [← hWc]; exact below_box0 _ _)
  have HSc : Hid (Sk .u8 Wc (some ⟨W.heap.size, 0, none⟩) (bys s)) := Lib.hid (by rw [← hWc]; exact bys_sk (heap_alloc_new W _))
  have HCZ : Hid (Wc.heap.size = W.heap.size + 1) := Lib.hid (by rw [← hWc]; simp)
  obtain ⟨W2, hW2⟩ : ∃ u, (Wc.alloc (.cells #[.int .i64 2, .int .i64 0, .slice (some ⟨w.heap.size, 0, none⟩) 32 32, .slice none 0 0, .int .i64 2, .int .i64 0, .slice (some ⟨W.heap.size, 0, none⟩) s.size gc, .slice none 0 0] 126)).drew = u := ⟨_, rfl⟩
  have HO2 : Hid (OwnI W2 Wc.heap.size (.slice (some ⟨W.heap.size + 1, 0, none⟩) 2 2) [icByt (some ⟨w.heap.size, 0, none⟩) 32 32, icByt (some ⟨W.heap.size, 0, none⟩) s.size gc]) := Lib.hid (by
    rw [← hW2]
    have h := (ownI_two Wc (icByt (some ⟨w.heap.size, 0, none⟩) 32 32) (icByt (some ⟨W.heap.size, 0, none⟩) s.size gc)).keep (Below.refl _ _).drew
    rw [HCZ.out] at h ⊢
    exact h)
  have HB2 : Hid (Below W.heap.size W W2) := Lib.hid (below_ext HBc.out (by rw [← hW2]; exact (below_box0 _ _).drew))
  have HS2 : Hid (Sk .u8 W2 (some ⟨W.heap.size, 0, none⟩) (bys s)) := Lib.hid (HSc.out.below (by rw [← hW2]; exact (below_box0 _ _).drew))
  have hzW : Wc.heap.size < W2.heap.size := by rw [← hW2]; simp
  rw [hW2]
  clear hW2 hWc hgc HSc HBc
  have hrow : W2.ownsRow Wc.heap.size 126 4 (.slice (some ⟨W.heap.size + 1, 0, none⟩) 2 2) 2 ([icByt (some ⟨w.heap.size, 0, none⟩) 32 32, icByt (some ⟨W.heap.size, 0, none⟩) s.size gc].flatMap itemCells) := HO2.out
  have HSZB := hs
  have HF2 : Hid (Four W2 gm 0 cI) := Lib.hid ((hF.out.below HBX.out).below HB2.out)
  have HI2 : Hid (ItR W2 item cI) := Lib.hid ((hI.out.kept HBX.out).kept HB2.out)
  have HBW : Wc.heap.size ≤ W2.heap.size := by omega
  have b1 : 2 + 1 ≤ maxLen := by unfold maxLen; omega
  have b2 : (2 + 1) * 64 ≤ 140737488355328 := by omega
  have HNW : ∀ (j : Nat) (u : Value), (itemCells cI)[j]? = some u → W2.cell? ((⟨gm, 0, none⟩ : Addr).add j) = some u := four_news HF2.out
  go_wp2_with (at_builtin; refine wpList_append_lies rfl _ _ 124 rfl Wc.heap.size 126 i0 (.agg #[.int .i64 0, .int .i64 0, .slice none 0 0, .slice none 0 0]) 4 64 Tryz.underlying124 hi hz0 hz1 hz2 rfl (by decide) _ _ _ rfl hrow ⟨gm, 0, none⟩ 1 cm (itemCells cI) rfl rfl HNW (itemCells_one cI) (by decide) b1 b2 HBW _ rfl ?_; intro g3 cap3 w3 hown3 hgrow3 hat3 hlt3)
  have HB3 : Hid (Below W.heap.size W w3) := Lib.hid (HB2.out.grown hgrow3 (by have := HCZ.out; omega) (fun j hj => by have := HCZ.out; have := (World.ownsRow.lt hrow j hj).1; omega))
  have HB23 : Hid (Below (W.heap.size + 1) W2 w3) := Lib.hid ((Below.refl _ _).grown hgrow3 (by have := HCZ.out; omega) (fun j hj => by have := HCZ.out; have := (World.ownsRow.lt hrow j hj).1; omega))
  have HO3 : Hid (OwnI w3 Wc.heap.size (.slice (some ⟨g3, 0, none⟩) 3 cap3) [icByt (some ⟨w.heap.size, 0, none⟩) 32 32, icByt (some ⟨W.heap.size, 0, none⟩) s.size gc, cI]) := Lib.hid hown3
  have HIX : Hid (∃ g cap, (Value.slice (some ⟨g3, 0, none⟩) 3 cap3) = .slice (some ⟨g, 0, none⟩) 3 cap ∧ ItR w3 (.lst [.byt h, .byt (bys s), item]) ⟨3, 0, none, 0, 0, some ⟨g, 0, none⟩, 3, cap⟩) := Lib.hid (itr_list HO3.out rfl rfl (by decide) (fun k hk => by
    rcases (show k = 0 ∨ k = 1 ∨ k = 2 by omega) with rfl | rfl | rfl
    · exact itr_byt (HT0.out.below HB3.out).sk hl.out
    · exact itr_byt (sk_old HS2.out HB23.out (by omega)) (bys_len s)
    · exact ((hI.out.kept HBX.out).kept HB3.out)))
  obtain ⟨g, cap, e3, hit⟩ := HIX.out
  simp only [Value.slice.injEq, Option.some.injEq, Addr.mk.injEq] at e3
  obtain ⟨⟨rfl, -⟩, -, rfl⟩ := e3
  have HIT := Lib.hid hit
  have HFIT : Hid (fits 8 (.lst [.byt h, .byt (bys s), item])) := Lib.hid (by
    refine ⟨by simp, fun x hx => ?_⟩
    rcases (by simpa using hx : x = .byt h ∨ x = .byt (bys s) ∨ x = item) with rfl | rfl | rfl
    · exact ⟨⟨by rw [hl.out]; decide, by rw [hl.out]; decide⟩, hb.out⟩
    · exact ⟨⟨by rw [bys_len]; omega, by rw [bys_len]; omega⟩, bys_bytes s⟩
    · exact hfi.out)
  have HLEN : Hid ((enc (.lst [.byt h, .byt (bys s), item])).length ≤ 16384) := Lib.hid (by
    have := hle.out
    rw [enc_lst]
    simp only [encL, enc_byt, List.length_cons, List.length_append, be4_len, hl.out, bys_len, List.length_nil]
    omega)
  clear hit HIX hrow HO3 hown3 hgrow3 hat3 hlt3 HNW HF2 HI2 HB23
  rw [show (Value.agg #[.int .i64 3, .int .i64 0, .slice none 0 0, .slice (some ⟨g3, 0, none⟩) 3 cap3]) = (Ic.mk 3 0 none 0 0 (some ⟨g3, 0, none⟩) 3 cap3).val from rfl]
  refine (encode_any _ _ _ HFIT.out HIT.out HLEN.out).mono ?_
  rintro e w4 ⟨v4, rfl, ho4, hb4⟩
  obtain ⟨E, hE⟩ : ∃ E, enc (.lst [.byt h, .byt (bys s), item]) = E := ⟨_, rfl⟩
  have HEB : Hid (bytesB E = true) := Lib.hid (by rw [← hE]; exact enc_bytes HFIT.out)
  have HEL : Hid (0 < E.length ∧ E.length ≤ 16384) := Lib.hid (by rw [← hE]; exact ⟨enc_pos _, HLEN.out⟩)
  rw [hE] at ho4
  obtain ⟨g4, cap4, e4, hg4, -, -, hsk4⟩ := ho4.cells HEL.out.1
  obtain ⟨n4, hn4⟩ : ∃ n, E.length = n := ⟨_, rfl⟩
  rw [hn4] at e4 HEL
  subst e4
  have HN4 := Lib.hid hn4
  have HS4 := Lib.hid hsk4
  have HB4 := Lib.hid (below_ext HB3.out hb4)
  have HEE : Kp (enc (.lst [.byt h, .byt (bys s), item]) = E) := ⟨hE⟩
  clear hE hsk4 ho4 hb4 hn4 HIT HLEN HFIT
  obtain ⟨he0, he1⟩ := HEL.out
  go_wp2_with fail
  refine (tagged_any tg ht1 ht2 g4 0 cap4 E n4 HN4 he0 (by omega) HEB _ HS4 (Lib.hid (HV.out.below HB4.out))).mono ?_
  rintro e w5 ⟨rfl, hb5⟩
  have HB5 := Lib.hid (below_ext HB4.out hb5)
  obtain ⟨R, hR⟩ : ∃ R, tagged (bys tg) E = R := ⟨_, rfl⟩
  have HRL : Hid (R.length = 32) := Lib.hid (by rw [← hR]; exact tagged_len _ _)
  have hRe : RR = R := by rw [← HRR0.1, HEE.1, hR]
  subst hRe
  rw [hR, show HashOk RR = .tuple #[.agg (arr .u8 RR), .int .i64 0] from rfl]
  clear hb5 hR HS4 HB4
  have HR5 : Hid (Blk .u8 37 w5 (w.heap.size + 1) (zer 32)) := Lib.hid (HR0.out.below HB5.out)
  go_wp2_with ((with_reducible show wpList _ _ _ (⟨none, _, _, _, _, _⟩ :: _) _ _); refine wpList_store_row rfl 37 _ _ rfl (w.heap.size + 1) (arr .u8 RR) rfl rfl _ _ HR5.out (hash_info HRL.out) (arrs_sz (l := zer 32) rfl HRL.out) (arr_one _) ?_)
  have HRR : Hid (Blk .u8 37 (w5.setRow (w.heap.size + 1) (arr .u8 RR)) (w.heap.size + 1) RR) := Lib.hid HR5.out.setRow
  have HBF : Below w.heap.size w (w5.setRow (w.heap.size + 1) (arr .u8 RR)) := below_setRow' (below_ext HBX.out HB5.out) (Nat.le_succ _)
  exact bodyPost_ret (v := HashOk RR) (results_cell_tmp2 (p := 8) (q := 9) (ty := 37) rfl _ _ ⟨w.heap.size + 1, 0, none⟩ _ _ rfl rfl (run_loadVar_row _ _ _ _ _ _ _ HRR.out Tryz.underlying37 rfl (hash_info HRL.out))) rfl ⟨rfl, HBF⟩
end Go.Proofs.YtcmidgdhihmppaaGreatDoor
namespace Go.Proofs.YtcmidgdhihmppaaGreatDoor
open Go.RowKit SpM
set_option linter.unusedVariables false
set_option linter.unusedSimpArgs false
set_option maxRecDepth 100000
def tagAb : ByteArray := { data := #[115, 112, 101, 99, 105, 101, 47, 97, 98, 115, 111, 114, 98] }
/-- the state behind an item absorbed. -/
def abL (h s : List Int) (i : It) : List Int := tagged (bys tagAb) (enc (.lst [.byt h, .byt s, i]))
theorem abL_len (h s : List Int) (i : It) : (abL h s i).length = 32 := tagged_len _ _
theorem four_cells {w : World} {b : Nat} {c : Ic} {t : TypeId} (h : w.heap[b]? = some (.cells #[.int .i64 c.kind, .int .i64 c.n, .slice c.B c.nb c.cb, .slice c.L c.nl c.cl] t)) : Four w b 0 c :=
  ⟨cell_blk h 0, cell_blk h 1, cell_blk h 2, cell_blk h 3⟩
set_option maxHeartbeats 3200000 in
theorem tabsorb_ok (h : List Int) (hl : Hid (h.length = 32)) (hb : Hid (bytesB h = true)) (c : Int) (hc0 : 0 ≤ c) (hc1 : c < 1000) (s : ByteArray) (hs : s.size ≤ 1000) (hr : Hid (labB (bys s) = true)) (item : It) (cI : Ic) (w : World) (hv : Hid (VarsD w)) (hI : Hid (ItR w item cI)) (hfi : Hid (fits 7 item)) (hle : Hid ((enc item).length ≤ 14000)) :
    Calls Tryz.prog 112 #[.agg (tcs h c), .string s, .agg #[.int .i64 cI.kind, .int .i64 cI.n, .slice cI.B cI.nb cI.cb, .slice cI.L cI.nl cI.cl]] w fun e w' => e = .returned (TrE (abL h (bys s) item) (c + 1) 0) ∧ Below w.heap.size w w' := by
  have hs0 : 1 ≤ s.size := by
    have h := hr.out
    rw [labB, bys_len] at h
    simp at h
    exact h.1.1
  obtain ⟨i0, hi, hz0, hz1, hz2⟩ := info_parts itemInfo
  obtain ⟨W, hW⟩ : ∃ W, ((w.alloc (.cells (tcs h c) 87)).alloc (.cells #[.int .i64 cI.kind, .int .i64 cI.n, .slice cI.B cI.nb cI.cb, .slice cI.L cI.nl cI.cl] 126)).alloc (.cells #[.int .u8 0, .int .u8 0, .int .u8 0, .int .u8 0, .int .u8 0, .int .u8 0, .int .u8 0, .int .u8 0, .int .u8 0, .int .u8 0, .int .u8 0, .int .u8 0, .int .u8 0, .int .u8 0, .int .u8 0, .int .u8 0, .int .u8 0, .int .u8 0, .int .u8 0, .int .u8 0, .int .u8 0, .int .u8 0, .int .u8 0, .int .u8 0, .int .u8 0, .int .u8 0, .int .u8 0, .int .u8 0, .int .u8 0, .int .u8 0, .int .u8 0, .int .u8 0, .int .i64 0] 87) = W := ⟨_, rfl⟩
  have HBX : Hid (Below w.heap.size w W) := Lib.hid (by rw [← hW]; exact below_ext (below_two (Below.refl _ _)) (below_box0 _ _))
  have HT0 : Hid (TBlk W w.heap.size h c) := Lib.hid (by rw [← hW]; exact ((TBlk.new _ _ _).below (below_box0 _ _)).below (below_box0 _ _))
  have HIB : Hid (W.heap[w.heap.size + 1]? = some (.cells #[.int .i64 cI.kind, .int .i64 cI.n, .slice cI.B cI.nb cI.cb, .slice cI.L cI.nl cI.cl] 126 (0, 0))) := Lib.hid (by rw [← hW, ← (show (w.alloc (.cells (tcs h c) 87)).heap.size = w.heap.size + 1 by simp)]; exact heap_alloc2_old _ _ _)
  have HR0 : Hid (TBlk W (w.heap.size + 1 + 1) (zer 32) 0) := Lib.hid (by rw [← hW, ztr, show w.heap.size + 1 + 1 = (w.alloc (.cells (tcs h c) 87)).heap.size + 1 by simp]; exact heap_alloc2_new _ _ _)
  have HSZ : Hid (W.heap.size = w.heap.size + 3) := Lib.hid (by rw [← hW]; simp)
  have HV := Lib.hid (hv.out.below HBX.out)
  have HII := Lib.hid (hI.out.kept HBX.out)
  have HW := Lib.hid hW
  clear hW hv
  go_enter Tryz.func112, Tryz.ntmps112
  go_upto_region 1 with (fail)
  rw [HW.out]
  clear HW
  go_wp2_with ((with_reducible show wpList _ _ _ (⟨some 10, _, _, _, _, _⟩ :: _) _ _); refine wpList_load_row rfl 87 _ rfl w.heap.size rfl _ _ _ _ HT0.out Tryz.underlying87 rfl (tr_info hl.out) ?_)
  refine (tvalid_any h hl c hc0 (by omega) _).mono ?_
  rintro e w1 ⟨rfl, hb1⟩
  have HB1 := Lib.hid (below_ext HBX.out hb1)
  have HT1 := Lib.hid (HT0.out.below hb1)
  have HI1 := Lib.hid (HII.out.kept hb1)
  have HV1 := Lib.hid (HV.out.below hb1)
  have HR1 := Lib.hid (HR0.out.below hb1)
  have HIB1 : Hid (Four w1 (w.heap.size + 1) 0 cI) := Lib.hid (four_cells ((hb1.block _ (by have := HSZ.out; omega)).trans HIB.out))
  clear hb1 HT0 HII HV HR0 HIB HBX
  go_wp2_with fail
  refine (tlabel_any s hs true hr _).mono ?_
  rintro e w2 ⟨rfl, hb2⟩
  have HT2 := Lib.hid (HT1.out.below hb2)
  have HI2 := Lib.hid (HI1.out.kept hb2)
  have HV2 := Lib.hid (HV1.out.below hb2)
  have HR2 := Lib.hid (HR1.out.below hb2)
  have HIB2 := Lib.hid (HIB1.out.below hb2)
  have HB2 := Lib.hid (below_ext HB1.out hb2)
  clear hb2 HT1 HI1 HV1 HR1 HIB1 HB1
  obtain ⟨f0, f1, f2, f3⟩ := HIB2.out
  go_wp2_with ((with_reducible show wpList _ _ _ (⟨some 20, _, _, _, _, _⟩ :: _) _ _); refine wpList_load_row rfl 87 _ rfl w.heap.size rfl _ _ _ _ HT2.out Tryz.underlying87 rfl (tr_info hl.out) ?_)
  clear f0 f1 f2 f3
  obtain ⟨W3, hW3⟩ : ∃ u, w2.alloc (.cells #[.int .i64 cI.kind, .int .i64 cI.n, .slice cI.B cI.nb cI.cb, .slice cI.L cI.nl cI.cl] 126) = u := ⟨_, rfl⟩
  have HF3 : Hid (Four W3 w2.heap.size 0 cI) := Lib.hid (by rw [← hW3]; exact four_cells (heap_alloc_new _ _))
  have hb3 : Below w2.heap.size w2 W3 := by rw [← hW3]; exact below_box0 _ _
  rw [hW3]
  have HI3 := Lib.hid (HI2.out.kept hb3)
  have HV3 := Lib.hid (HV2.out.below hb3)
  refine (hash1_any tagAb (by decide) (by decide) h hl hb c s hs0 hs item cI w2.heap.size 1 W3 HV3 HF3 HI3 hfi hle).mono ?_
  rintro e w4 ⟨rfl, hb4⟩
  have HT4 := Lib.hid ((HT2.out.below hb3).below hb4)
  have HR4 := Lib.hid ((HR2.out.below hb3).below hb4)
  have HB4 := Lib.hid (below_ext (below_ext HB2.out hb3) hb4)
  obtain ⟨R, hR⟩ : ∃ R, tagged (bys tagAb) (enc (.lst [.byt h, .byt (bys s), item])) = R := ⟨_, rfl⟩
  have hRl : R.length = 32 := by rw [← hR]; exact tagged_len _ _
  have HN : Kp (abL h (bys s) item = R) := ⟨hR⟩
  have HRL := Lib.hid hRl
  rw [hR, show HashOk R = .tuple #[.agg (arr .u8 R), .int .i64 0] from rfl]
  clear hb3 hb4 hW3 HF3 HI3 HV3 HT2 HI2 HV2 HR2 HB2 HIB2 hR hRl
  go_upto_region 4 with ((with_reducible show wpList _ _ _ (⟨none, _, _, _, _, _⟩ :: _) _ _); refine wpList_store_row rfl 37 _ _ rfl w4.heap.size (arr .u8 R) rfl rfl _ _ (heap_alloc_new _ _) (hash_info HRL.out) (arrs_sz (l := zer 32) rfl HRL.out) (arr_one _) ?_)
  rw [World.setRow_alloc_new]
  try simp only [Act.put]
  have HK3 : Hid (Blk .u8 37 (w4.alloc (.cells (arr .u8 R) 37)) w4.heap.size R) := Lib.hid (Blk.new _ _)
  have HT5 := Lib.hid (HT4.out.below (below_box0 w4 (.cells (arr .u8 R) 37)))
  have HR5 := Lib.hid (HR4.out.below (below_box0 w4 (.cells (arr .u8 R) 37)))
  have HB5 := Lib.hid (below_ext HB4.out (below_box0 w4 (.cells (arr .u8 R) 37)))
  obtain ⟨W5, hW5⟩ : ∃ u, w4.alloc (.cells (arr .u8 R) 37) = u := ⟨_, rfl⟩
  rw [hW5] at HK3 HT5 HR5 HB5 ⊢
  clear hW5
  have hcnt := HT5.out.count hl.out
  have hcn : ¬ (c = 1000) := by omega
  have hwr : IntKind.i64.wrap (c + 1) = c + 1 := IntWalk.i64_in _ (by omega)
  go_wp2_with (first
    | ((with_reducible show wpList _ _ _ (⟨some 40, _, _, _, _, _⟩ :: _) _ _); refine wpList_load_row rfl 37 _ rfl w4.heap.size rfl _ _ _ _ HK3.out Tryz.underlying37 rfl (hash_info HRL.out) ?_)
    | ((with_reducible show wpList _ _ _ (⟨some 44, _, _, _, _, _⟩ :: _) _ _); refine wpList_built rfl 87 _ rfl _ (built2 R HRL.out (c + 1)) ?_)
    | ((with_reducible show wpList _ _ _ (⟨none, _, _, _, _, _⟩ :: _) _ _); refine wpList_store_row rfl 87 _ _ rfl (w.heap.size + 1 + 1) (tcs R (c + 1)) rfl rfl _ _ HR5.out (tr_info HRL.out) (tcs_sz rfl HRL.out) (tcs_one _ _) ?_))
  have HRR : Hid (TBlk (W5.setRow (w.heap.size + 1 + 1) (tcs R (c + 1))) (w.heap.size + 1 + 1) R (c + 1)) := Lib.hid HR5.out.setRow
  have HBF : Below w.heap.size w (W5.setRow (w.heap.size + 1 + 1) (tcs R (c + 1))) := below_setRow' HB5.out (by omega)
  exact bodyPost_ret (v := TrE R (c + 1) 0) (results_cell_tmp2 (p := 6) (q := 7) (ty := 87) rfl _ _ ⟨w.heap.size + 1 + 1, 0, none⟩ _ _ rfl rfl (run_loadVar_row _ _ _ _ _ _ _ HRR.out Tryz.underlying87 rfl (tr_info HRL.out))) rfl ⟨by rw [HN.out], HBF⟩
end Go.Proofs.YtcmidgdhihmppaaGreatDoor
namespace Go.Proofs.YtcmidgdhihmppaaGreatDoor
open Go.RowKit SpM
set_option linter.unusedVariables false
set_option linter.unusedSimpArgs false
set_option maxRecDepth 100000
set_option maxHeartbeats 3200000 in
theorem tints_ok (h : List Int) (hl : Hid (h.length = 32)) (hb : Hid (bytesB h = true)) (c : Int) (hc0 : 0 ≤ c) (hc1 : c < 1000) (s : ByteArray) (hs : s.size ≤ 1000) (hr : Hid (labB (bys s) = true)) (A : Option Addr) (l : List Int) (n cA : Nat) (hn : Hid (l.length = n)) (hbig : n ≤ 1000) (w : World) (hv : Hid (VarsD w)) (hS : Hid (Sl w A l)) (hfi : Hid (fits 7 (.lst (l.map .int)))) (hle : Hid ((enc (.lst (l.map .int))).length ≤ 14000)) :
    Calls Tryz.prog 84 #[.agg (tcs h c), .string s, .slice A n cA] w fun e w' => e = .returned (TrE (abL h (bys s) (.lst (l.map .int))) (c + 1) 0) ∧ Below w.heap.size w w' := by
  obtain ⟨W, hW⟩ : ∃ W, (w.alloc (.cells (tcs h c) 87)).alloc (.cells #[.int .u8 0, .int .u8 0, .int .u8 0, .int .u8 0, .int .u8 0, .int .u8 0, .int .u8 0, .int .u8 0, .int .u8 0, .int .u8 0, .int .u8 0, .int .u8 0, .int .u8 0, .int .u8 0, .int .u8 0, .int .u8 0, .int .u8 0, .int .u8 0, .int .u8 0, .int .u8 0, .int .u8 0, .int .u8 0, .int .u8 0, .int .u8 0, .int .u8 0, .int .u8 0, .int .u8 0, .int .u8 0, .int .u8 0, .int .u8 0, .int .u8 0, .int .u8 0, .int .i64 0] 87) = W := ⟨_, rfl⟩
  have HBX : Hid (Below w.heap.size w W) := Lib.hid (by rw [← hW]; exact below_two (Below.refl _ _))
  have HT0 : Hid (TBlk W w.heap.size h c) := Lib.hid (by rw [← hW]; exact heap_alloc2_old _ _ _)
  have HR0 : Hid (TBlk W (w.heap.size + 1) (zer 32) 0) := Lib.hid (by rw [← hW, ztr]; exact heap_alloc2_new _ _ _)
  have HV := Lib.hid (hv.out.below HBX.out)
  have HSL := Lib.hid (hS.out.below HBX.out)
  have HW := Lib.hid hW
  clear hW hv
  go_enter Tryz.func84, Tryz.ntmps84
  go_upto_region 1 with (fail)
  rw [HW.out]
  clear HW
  have HBd := Lib.hid ((Below.refl W.heap.size W).drew)
  have HTd := Lib.hid (HT0.out.below HBd.out)
  have HRd := Lib.hid (HR0.out.below HBd.out)
  have HVd := Lib.hid (HV.out.below HBd.out)
  have HSd := Lib.hid (HSL.out.below HBd.out)
  have HB3 := Lib.hid (below_ext HBX.out HBd.out)
  obtain ⟨Wd, hWd⟩ : ∃ u, W.drew = u := ⟨_, rfl⟩
  refine wp_region_T (S := fun w' => w'.heap[w.heap.size]? = some (.cells (tcs h c) 87 (0, 0))) (E := [7, 8]) (by kernel_rfl) (HTd.out) (fun hHeld => ?_)
  refine wpT_take (i := 0) (oi := _) (v := (.agg (tcs h c))) rfl (by kernel_rfl) (by kernel_rfl) (by kernel_rfl) (by kernel_rfl) (fun _ _ _ h => h) (Or.inl ⟨by rfl, yields_row 87 _ rfl w.heap.size rfl _ _ _ _ (fun _ h => h) Tryz.underlying87 rfl (tr_info hl.out)⟩) (by assumption) ?_
  try simp only [List.getElem_toArray, List.getElem_cons_zero, List.getElem_cons_succ, Act.put, List.setIfInBounds_toArray, List.set_cons_zero, List.set_cons_succ]
  refine wpT_take (i := 1) (oi := _) (v := ?_) rfl (by kernel_rfl) (by kernel_rfl) (by kernel_rfl) (by kernel_rfl) (fun _ _ _ h => h) (Or.inl ⟨by rfl, ?_⟩) (by assumption) ?_
  rotate_left; (intro wS hSw; (try dsimp only at hSw); go_simp <;> with_reducible rfl)
  try simp only [List.getElem_toArray, List.getElem_cons_zero, List.getElem_cons_succ, Act.put, List.setIfInBounds_toArray, List.set_cons_zero, List.set_cons_succ]
  refine wpT_take (i := 2) (oi := _) (v := ?_) rfl (by kernel_rfl) (by kernel_rfl) (by kernel_rfl) (by kernel_rfl) (fun _ _ _ h => h) (Or.inl ⟨by rfl, ?_⟩) (by assumption) ?_
  rotate_left; (intro wS hSw; (try dsimp only at hSw); go_simp <;> with_reducible rfl)
  try simp only [List.getElem_toArray, List.getElem_cons_zero, List.getElem_cons_succ, Act.put, List.setIfInBounds_toArray, List.set_cons_zero, List.set_cons_succ]
  refine wpT_one (i := 3) (by kernel_rfl) rfl (fun K hK => ?_)
  go_simp
  try rw [hWd]
  rw [hWd] at HBd HTd HRd HVd HSd HB3
  refine (ints_any A l n cA hn (by omega) _ HSd).mono ?_
  rintro e w4 ⟨cI, rfl, hI4, hb4⟩
  refine hK.out _ _ ?_ (fun hHeld => ?_)
  · exact HTd.out.below hb4
  clear hK K
  try simp only [List.getElem_toArray, List.getElem_cons_zero, List.getElem_cons_succ, Act.put, List.setIfInBounds_toArray, List.set_cons_zero, List.set_cons_succ]
  refine wpT_one (i := 4) (by kernel_rfl) rfl (fun K hK => ?_)
  go_simp
  have HV4 := Lib.hid (HVd.out.below hb4)
  rw [show cI.val = (.agg #[.int .i64 cI.kind, .int .i64 cI.n, .slice cI.B cI.nb cI.cb, .slice cI.L cI.nl cI.cl] : Value) from rfl]
  refine (tabsorb_ok h hl hb c hc0 hc1 s hs hr _ cI _ HV4 (Lib.hid hI4) hfi hle).mono ?_
  rintro e w5 ⟨rfl, hb5⟩
  have HR5 := Lib.hid ((HRd.out.below hb4).below hb5)
  have HB5 := Lib.hid (below_ext (below_ext HB3.out hb4) hb5)
  obtain ⟨R, hR⟩ : ∃ R, abL h (bys s) (.lst (l.map .int)) = R := ⟨_, rfl⟩
  have hRl : R.length = 32 := by rw [← hR]; exact abL_len _ _ _
  have HN : Kp (abL h (bys s) (.lst (l.map .int)) = R) := ⟨hR⟩
  have HRL := Lib.hid hRl
  rw [hR, show TrE R (c + 1) 0 = .tuple #[.agg (tcs R (c + 1)), .int .i64 0] from rfl]
  refine hK.out _ _ ?_ (fun hHeld => ?_)
  · exact (HTd.out.below hb4).below hb5
  clear hK K
  try simp only [List.getElem_toArray, List.getElem_cons_zero, List.getElem_cons_succ, Act.put, List.setIfInBounds_toArray, List.set_cons_zero, List.set_cons_succ]
  refine wpT_take (i := 5) (oi := _) (v := ?_) rfl (by kernel_rfl) (by kernel_rfl) (by kernel_rfl) (by kernel_rfl) (fun _ _ _ h => h) (Or.inl ⟨by rfl, ?_⟩) (by assumption) ?_
  rotate_left; (intro wS hSw; (try dsimp only at hSw); go_simp <;> with_reducible rfl)
  try simp only [List.getElem_toArray, List.getElem_cons_zero, List.getElem_cons_succ, Act.put, List.setIfInBounds_toArray, List.set_cons_zero, List.set_cons_succ]
  refine wpT_take (i := 6) (oi := _) (v := ?_) rfl (by kernel_rfl) (by kernel_rfl) (by kernel_rfl) (by kernel_rfl) (fun _ _ _ h => h) (Or.inl ⟨by rfl, ?_⟩) (by assumption) ?_
  rotate_left; (intro wS hSw; (try dsimp only at hSw); go_simp <;> with_reducible rfl)
  try simp only [List.getElem_toArray, List.getElem_cons_zero, List.getElem_cons_succ, Act.put, List.setIfInBounds_toArray, List.set_cons_zero, List.set_cons_succ]
  refine wpT_pass (i := 7) (by kernel_rfl) (by simp) rfl (fun K hK => ?_)
  rw [show (if Region.wanted _ _ = true then _ else _ : Prop) = _ from if_pos rfl]
  refine wp_store_row 87 _ _ rfl (w.heap.size + 1) (tcs R (c + 1)) rfl rfl 87 _ HR5.out (tr_info HRL.out) (tcs_sz rfl HRL.out) (tcs_one _ _) ?_
  refine hK.out _ _ ?_
  clear hK K
  try simp only [List.getElem_toArray, List.getElem_cons_zero, List.getElem_cons_succ, Act.put, List.setIfInBounds_toArray, List.set_cons_zero, List.set_cons_succ]
  refine wpT_pass (i := 8) (by kernel_rfl) (by simp) rfl (fun K hK => ?_)
  go_simp
  refine hK.out _ _ ?_
  clear hK K
  try simp only [List.getElem_toArray, List.getElem_cons_zero, List.getElem_cons_succ, Act.put, List.setIfInBounds_toArray, List.set_cons_zero, List.set_cons_succ]
  refine wpT_done (by kernel_rfl) ?_ _
  have HRR : Hid (TBlk (w5.setRow (w.heap.size + 1) (tcs R (c + 1))) (w.heap.size + 1) R (c + 1)) := Lib.hid HR5.out.setRow
  have HBF : Below w.heap.size w (w5.setRow (w.heap.size + 1) (tcs R (c + 1))) := below_setRow' HB5.out (by omega)
  clear hR hRl hb4 hb5 hI4 HV4 HB5 HR5 hWd
  go_wp2
  exact bodyPost_ret (v := TrE R (c + 1) 0) (results_cell_tmp2 (p := 6) (q := 7) (ty := 87) rfl _ _ ⟨w.heap.size + 1, 0, none⟩ _ _ rfl rfl (run_loadVar_row _ _ _ _ _ _ _ HRR.out Tryz.underlying87 rfl (tr_info HRL.out))) rfl ⟨by rw [HN.out], HBF⟩
end Go.Proofs.YtcmidgdhihmppaaGreatDoor
namespace Go.Proofs.YtcmidgdhihmppaaGreatDoor
open Go.RowKit SpM
set_option linter.unusedVariables false
set_option linter.unusedSimpArgs false
set_option maxRecDepth 100000
def tagCh : ByteArray := { data := #[115, 112, 101, 99, 105, 101, 47, 99, 104, 97, 108, 108, 101, 110, 103, 101] }
/-- the digest that a challenge is made of. -/
def chD (h s : List Int) : List Int := tagged (bys tagCh) (enc (.lst [.byt h, .byt s]))
/-- the challenge. -/
def chN (q : Int) (h s : List Int) : Int := numv q (chD h s)
/-- the state behind a challenge. -/
def chL (q : Int) (h s : List Int) : List Int := abL h s (.int (chN q h s))
theorem chD_bytes (h s : List Int) : bytesB (chD h s) = true := sha_bytes _
theorem results_cell_tmp3 {P : Program} {fn : Func} {p q r : Tmp} {ty : TypeId} (h : fn.results = #[.cell p ty, .tmp q, .tmp r]) (tmps : Array Value) (w : World) (a : Addr) (v u x : Value)
    (hp : tmps.getD p undef = .pointer (some a)) (hq : tmps.getD q undef = u) (hr : tmps.getD r undef = x) (hl : (loadVar ty a).run P w = .ok v w) : (results fn tmps).run P w = .ok (.tuple #[v, u, x]) w := by
  have hp' : tmps[p]?.getD undef = .pointer (some a) := by simpa using hp
  have hq' : tmps[q]?.getD undef = u := by simpa using hq
  have hr' : tmps[r]?.getD undef = x := by simpa using hr
  simp [results, h, hp', hq', hr', asAddr, hl]
/-- the answer of a challenge. -/
def ChE (h : List Int) (c n e : Int) : Value := .tuple #[.agg (tcs h c), .int .i64 n, .int .i64 e]
set_option maxHeartbeats 3200000 in
theorem tchal_ok (h : List Int) (hl : Hid (h.length = 32)) (hb : Hid (bytesB h = true)) (c : Int) (hc0 : 0 ≤ c) (hc1 : c < 1000) (s : ByteArray) (hs : s.size ≤ 1000) (hr : Hid (labB (bys s) = true)) (q : Int) (hq1 : 2 ≤ q) (hq2 : q < 2305843009213693952) (w : World) (hv : Hid (VarsD w)) :
    Calls Tryz.prog 85 #[.agg (tcs h c), .string s, .int .i64 q] w fun e w' => e = .returned (ChE (chL q h (bys s)) (c + 1) (chN q h (bys s)) 0) ∧ Below w.heap.size w w' := by
  have hs0 : 1 ≤ s.size := by
    have h := hr.out
    rw [labB, bys_len] at h
    simp at h
    exact h.1.1
  obtain ⟨W, hW⟩ : ∃ W, (w.alloc (.cells (tcs h c) 87)).alloc (.cells #[.int .u8 0, .int .u8 0, .int .u8 0, .int .u8 0, .int .u8 0, .int .u8 0, .int .u8 0, .int .u8 0, .int .u8 0, .int .u8 0, .int .u8 0, .int .u8 0, .int .u8 0, .int .u8 0, .int .u8 0, .int .u8 0, .int .u8 0, .int .u8 0, .int .u8 0, .int .u8 0, .int .u8 0, .int .u8 0, .int .u8 0, .int .u8 0, .int .u8 0, .int .u8 0, .int .u8 0, .int .u8 0, .int .u8 0, .int .u8 0, .int .u8 0, .int .u8 0, .int .i64 0] 87) = W := ⟨_, rfl⟩
  have HBX : Hid (Below w.heap.size w W) := Lib.hid (by rw [← hW]; exact below_two (Below.refl _ _))
  have HT0 : Hid (TBlk W w.heap.size h c) := Lib.hid (by rw [← hW]; exact heap_alloc2_old _ _ _)
  have HR0 : Hid (TBlk W (w.heap.size + 1) (zer 32) 0) := Lib.hid (by rw [← hW, ztr]; exact heap_alloc2_new _ _ _)
  have HV := Lib.hid (hv.out.below HBX.out)
  have HW := Lib.hid hW
  have hcn : ¬ (c = 1000) := by omega
  have hqa : ¬ (q < 2) := by omega
  have hqb : ¬ (2305843009213693952 ≤ q) := by omega
  clear hW hv
  go_enter Tryz.func85, Tryz.ntmps85
  go_upto_region 1 with (fail)
  rw [HW.out]
  clear HW
  go_wp2_with ((with_reducible show wpList _ _ _ (⟨some 14, _, _, _, _, _⟩ :: _) _ _); refine wpList_load_row rfl 87 _ rfl w.heap.size rfl _ _ _ _ HT0.out Tryz.underlying87 rfl (tr_info hl.out) ?_)
  refine (tvalid_any h hl c hc0 (by omega) _).mono ?_
  rintro e w1 ⟨rfl, hb1⟩
  have HB1 := Lib.hid (below_ext HBX.out hb1)
  have HT1 := Lib.hid (HT0.out.below hb1)
  have HV1 := Lib.hid (HV.out.below hb1)
  have HR1 := Lib.hid (HR0.out.below hb1)
  clear hb1 HT0 HV HR0 HBX
  go_wp2_with fail
  refine (tlabel_any s hs true hr _).mono ?_
  rintro e w2 ⟨rfl, hb2⟩
  have HT2 := Lib.hid (HT1.out.below hb2)
  have HV2 := Lib.hid (HV1.out.below hb2)
  have HR2 := Lib.hid (HR1.out.below hb2)
  have HB2 := Lib.hid (below_ext HB1.out hb2)
  clear hb2 HT1 HV1 HR1 HB1
  have hcnt := HT2.out.count hl.out
  go_wp2_with ((with_reducible show wpList _ _ _ (⟨some 37, _, _, _, _, _⟩ :: _) _ _); refine wpList_load_row rfl 87 _ rfl w.heap.size rfl _ _ _ _ HT2.out Tryz.underlying87 rfl (tr_info hl.out) ?_)
  clear hcnt
  refine (hash0_any tagCh (by decide) (by decide) h hl hb c s hs0 hs _ HV2).mono ?_
  rintro e w4 ⟨rfl, hb4⟩
  have HT4 := Lib.hid (HT2.out.below hb4)
  have HR4 := Lib.hid (HR2.out.below hb4)
  have HV4 := Lib.hid (HV2.out.below hb4)
  have HB4 := Lib.hid (below_ext HB2.out hb4)
  obtain ⟨R, hR⟩ : ∃ R, tagged (bys tagCh) (enc (.lst [.byt h, .byt (bys s)])) = R := ⟨_, rfl⟩
  have hRl : R.length = 32 := by rw [← hR]; exact tagged_len _ _
  have HRB : Hid (bytesB R = true) := Lib.hid (by rw [← hR]; exact chD_bytes _ _)
  have HN : Kp (chD h (bys s) = R) := ⟨hR⟩
  have HRL := Lib.hid hRl
  rw [hR, show HashOk R = .tuple #[.agg (arr .u8 R), .int .i64 0] from rfl]
  clear hb4 HT2 HV2 HR2 HB2 hR hRl
  go_upto_region 8 with ((with_reducible show wpList _ _ _ (⟨none, _, _, _, _, _⟩ :: _) _ _); refine wpList_store_row rfl 37 _ _ rfl w4.heap.size (arr .u8 R) rfl rfl _ _ (heap_alloc_new _ _) (hash_info HRL.out) (arrs_sz (l := zer 32) rfl HRL.out) (arr_one _) ?_)
  rw [World.setRow_alloc_new]
  try simp only [Act.put]
  have HK5 : Hid (Blk .u8 37 (w4.alloc (.cells (arr .u8 R) 37)) w4.heap.size R) := Lib.hid (Blk.new _ _)
  have HT5 := Lib.hid (HT4.out.below (below_box0 w4 (.cells (arr .u8 R) 37)))
  have HR5 := Lib.hid (HR4.out.below (below_box0 w4 (.cells (arr .u8 R) 37)))
  have HV5 := Lib.hid (HV4.out.below (below_box0 w4 (.cells (arr .u8 R) 37)))
  have HB5 := Lib.hid (below_ext HB4.out (below_box0 w4 (.cells (arr .u8 R) 37)))
  obtain ⟨W5, hW5⟩ : ∃ u, w4.alloc (.cells (arr .u8 R) 37) = u := ⟨_, rfl⟩
  rw [hW5] at HK5 HT5 HR5 HB5 HV5 ⊢
  clear hW5 HT4 HR4 HV4 HB4
  go_wp2_with ((with_reducible show wpList _ _ _ (⟨some 47, _, _, _, _, _⟩ :: _) _ _); refine wpList_load_row rfl 37 _ rfl w4.heap.size rfl _ _ _ _ HK5.out Tryz.underlying37 rfl (hash_info HRL.out) ?_)
  refine (number_any R HRL HRB q (by omega) hq2 _).mono ?_
  rintro e w6 ⟨rfl, hb6⟩
  have HT6 := Lib.hid (HT5.out.below hb6)
  have HR6 := Lib.hid (HR5.out.below hb6)
  have HV6 := Lib.hid (HV5.out.below hb6)
  have HB6 := Lib.hid (below_ext HB5.out hb6)
  obtain ⟨n, hn⟩ : ∃ n, numv q R = n := ⟨_, rfl⟩
  have hn0 : 0 ≤ n ∧ n < q := by rw [← hn]; exact numL_lo (by omega) 16
  obtain ⟨hn1, hn2⟩ := hn0
  have HNN : Kp (chN q h (bys s) = n) := ⟨by rw [chN, HN.1]; exact hn⟩
  rw [hn]
  clear hb6 hn HT5 HR5 HV5 HB5 HK5
  go_wp2_with ((with_reducible show wpList _ _ _ (⟨some 57, _, _, _, _, _⟩ :: _) _ _); refine wpList_load_row rfl 87 _ rfl w.heap.size rfl _ _ _ _ HT6.out Tryz.underlying87 rfl (tr_info hl.out) ?_)
  refine (tabsorb_ok h hl hb c hc0 hc1 s hs hr (.int n) ⟨1, n, none, 0, 0, none, 0, 0⟩ _ HV6 (Lib.hid (.int n _ rfl rfl rfl rfl)) (Lib.hid ⟨by omega, by omega⟩) (Lib.hid (by rw [enc_int, List.length_cons, be8_len]; decide))).mono ?_
  rintro e w7 ⟨rfl, hb7⟩
  have HR7 := Lib.hid (HR6.out.below hb7)
  have HB7 := Lib.hid (below_ext HB6.out hb7)
  obtain ⟨G, hG⟩ : ∃ G, abL h (bys s) (.int n) = G := ⟨_, rfl⟩
  have HGL : Hid (G.length = 32) := Lib.hid (by rw [← hG]; exact abL_len _ _ _)
  have HNG : Kp (chL q h (bys s) = G) := ⟨by rw [chL, HNN.1]; exact hG⟩
  rw [hG, show TrE G (c + 1) 0 = .tuple #[.agg (tcs G (c + 1)), .int .i64 0] from rfl]
  clear hb7 hG HR6 HB6 HT6 HV6
  go_upto_region 14 with ((with_reducible show wpList _ _ _ (⟨none, _, _, _, _, _⟩ :: _) _ _); refine wpList_store_row rfl 87 _ _ rfl w7.heap.size (tcs G (c + 1)) rfl rfl _ _ (heap_alloc_new _ _) (tr_info HGL.out) (tcs_sz (h := zer 32) (c := 0) rfl HGL.out) (tcs_one _ _) ?_)
  rw [World.setRow_alloc_new]
  try simp only [Act.put]
  have HK8 : Hid (TBlk (w7.alloc (.cells (tcs G (c + 1)) 87)) w7.heap.size G (c + 1)) := Lib.hid (TBlk.new _ _ _)
  have HR8 := Lib.hid (HR7.out.below (below_box0 w7 (.cells (tcs G (c + 1)) 87)))
  have HB8 := Lib.hid (below_ext HB7.out (below_box0 w7 (.cells (tcs G (c + 1)) 87)))
  obtain ⟨W8, hW8⟩ : ∃ u, w7.alloc (.cells (tcs G (c + 1)) 87) = u := ⟨_, rfl⟩
  rw [hW8] at HK8 HR8 HB8 ⊢
  clear hW8 HR7 HB7
  go_wp2_with (first
    | ((with_reducible show wpList _ _ _ (⟨some 68, _, _, _, _, _⟩ :: _) _ _); refine wpList_load_row rfl 87 _ rfl w7.heap.size rfl _ _ _ _ HK8.out Tryz.underlying87 rfl (tr_info HGL.out) ?_)
    | ((with_reducible show wpList _ _ _ (⟨none, _, _, _, _, _⟩ :: _) _ _); refine wpList_store_row rfl 87 _ _ rfl (w.heap.size + 1) (tcs G (c + 1)) rfl rfl _ _ HR8.out (tr_info HGL.out) (tcs_sz rfl HGL.out) (tcs_one _ _) ?_))
  have HRR : Hid (TBlk (W8.setRow (w.heap.size + 1) (tcs G (c + 1))) (w.heap.size + 1) G (c + 1)) := Lib.hid HR8.out.setRow
  have HBF : Below w.heap.size w (W8.setRow (w.heap.size + 1) (tcs G (c + 1))) := below_setRow' HB8.out (by omega)
  exact bodyPost_ret (v := ChE G (c + 1) n 0) (results_cell_tmp3 (p := 6) (q := 7) (r := 8) (ty := 87) rfl _ _ ⟨w.heap.size + 1, 0, none⟩ _ _ _ rfl rfl rfl (run_loadVar_row _ _ _ _ _ _ _ HRR.out Tryz.underlying87 rfl (tr_info HGL.out))) rfl ⟨by rw [HNG.out, HNN.out], HBF⟩
end Go.Proofs.YtcmidgdhihmppaaGreatDoor
namespace Go.Proofs.YtcmidgdhihmppaaGreatDoor
open Go.RowKit SpM
set_option linter.unusedVariables false
set_option linter.unusedSimpArgs false
set_option maxRecDepth 100000
theorem own_setRow {w : World} {p : Addr} {v : Value} {a : Nat} {cs : Array Value} (h : Own w p v) (hne : p.block ≠ a) : Own (w.setRow a cs) p v := by
  have hb := setRow_other w a p.block cs hne
  exact ⟨(World.cell?_of_block hb).trans h.1, by
    have h2 := h.2
    simp only [World.frozen?] at h2 ⊢
    rw [hb]
    exact h2⟩
/-- a list of machine integers, not too long. -/
def okL (l : List Int) : Prop := l.length ≤ 1000 ∧ ∀ x ∈ l, -9223372036854775808 ≤ x ∧ x < 9223372036854775808
theorem okL.fits {l : List Int} (h : okL l) : Hid (fits 7 (.lst (l.map .int))) := Lib.hid (by
  refine ⟨by rw [List.length_map]; exact h.1, fun x hx => ?_⟩
  obtain ⟨y, hy, rfl⟩ := List.mem_map.1 hx
  exact h.2 y hy)
theorem encL_ints (l : List Int) : (encL (l.map .int)).length = 9 * l.length := by
  induction l with
  | nil => rfl
  | cons x l ih => rw [List.map_cons, encL, List.length_append, ih, enc_int, List.length_cons, be8_len, List.length_cons]; omega
theorem okL.len {l : List Int} (h : okL l) : Hid ((enc (.lst (l.map .int))).length ≤ 14000) := Lib.hid (by
  rw [enc_lst, List.length_cons, List.length_append, be4_len, encL_ints]
  have := h.1
  omega)
/-- the state behind a list of integers absorbed. -/
def absL (h s l : List Int) : List Int := abL h s (.lst (l.map .int))
theorem absL_len (h s l : List Int) : (absL h s l).length = 32 := abL_len _ _ _
theorem absL_bytes (h s l : List Int) : bytesB (absL h s l) = true := sha_bytes _
theorem absorb_no (A : Option Addr) (n cA : Nat) (s : ByteArray) (a e0 : Nat) (x : Int) (hx : (x == 0) = false) (w : World) (hE : Hid (Own w ⟨e0, 0, none⟩ (.int .i64 x))) :
    Calls Tryz.prog 83 #[.string s, .slice A n cA, .pointer (some ⟨e0, 0, none⟩), .pointer (some ⟨a, 0, none⟩)] w fun e w' => (∃ v, e = .returned v) ∧ w' = w := by
  obtain ⟨hc, hf⟩ := hE.out
  go_enter Tryz.func83, Tryz.ntmps83
  go_wp2
  go_end0
  exact ⟨⟨_, rfl⟩, rfl⟩
set_option maxHeartbeats 3200000 in
theorem absorb_ok (h : List Int) (hl : Hid (h.length = 32)) (hb : Hid (bytesB h = true)) (c : Int) (hc0 : 0 ≤ c) (hc1 : c < 1000) (s : ByteArray) (hs : s.size ≤ 1000) (hr : Hid (labB (bys s) = true)) (A : Option Addr) (l : List Int) (n cA : Nat) (hn : Hid (l.length = n)) (hok : Hid (okL l)) (a e0 B : Nat) (w : World) (hv : Hid (VarsD w)) (hS : Hid (Sl w A l))
    (hT : Hid (TBlk w a h c)) (hE : Hid (Own w ⟨e0, 0, none⟩ (.int .i64 0))) (hne : e0 ≠ a) (hBa : B ≤ a) (hBe : B ≤ e0) :
    Calls Tryz.prog 83 #[.string s, .slice A n cA, .pointer (some ⟨e0, 0, none⟩), .pointer (some ⟨a, 0, none⟩)] w fun e w' => (∃ v, e = .returned v) ∧ TBlk w' a (absL h (bys s) l) (c + 1) ∧ Own w' ⟨e0, 0, none⟩ (.int .i64 0) ∧ Below B w w' := by
  have hbig : n ≤ 1000 := by rw [← hn.out]; exact hok.out.1
  have HF := hok.out.fits
  have HLN := hok.out.len
  obtain ⟨hc, hf⟩ := hE.out
  have HBS : Hid (B ≤ w.heap.size) := Lib.hid (by have := hT.out.lt; omega)
  go_enter Tryz.func83, Tryz.ntmps83
  go_wp2_with ((with_reducible show wpList _ _ _ (⟨some 9, _, _, _, _, _⟩ :: _) _ _); refine wpList_load_row rfl 87 _ rfl a rfl _ _ _ _ hT.out Tryz.underlying87 rfl (tr_info hl.out) ?_)
  refine (tints_ok h hl hb c hc0 hc1 s hs hr A l n cA hn hbig _ hv hS HF HLN).mono ?_
  rintro e w1 ⟨rfl, hb1⟩
  have HT1 := Lib.hid (hT.out.below hb1)
  have HE1 := Lib.hid (hE.out.below hb1)
  have HB1 : Hid (Below B w w1) := Lib.hid (hb1.mono HBS.out)
  obtain ⟨R, hR⟩ : ∃ R, abL h (bys s) (.lst (l.map .int)) = R := ⟨_, rfl⟩
  have hRl : R.length = 32 := by rw [← hR]; exact abL_len _ _ _
  have HN : Kp (absL h (bys s) l = R) := ⟨hR⟩
  have HRL := Lib.hid hRl
  rw [hR, show TrE R (c + 1) 0 = .tuple #[.agg (tcs R (c + 1)), .int .i64 0] from rfl]
  have HE2 := Lib.hid (own_setRow (cs := tcs R (c + 1)) HE1.out (show (⟨e0, 0, none⟩ : Addr).block ≠ a from hne))
  clear hb1 hc hf hR hRl
  obtain ⟨q1, q2⟩ := HE2.out
  go_wp2_with ((with_reducible show wpList _ _ _ (⟨none, _, _, _, _, _⟩ :: _) _ _); refine wpList_store_row rfl 87 _ _ rfl a (tcs R (c + 1)) rfl rfl _ _ HT1.out (tr_info HRL.out) (tcs_sz hl.out HRL.out) (tcs_one _ _) ?_)
  have HT2 : Hid (TBlk (w1.setRow a (tcs R (c + 1))) a R (c + 1)) := Lib.hid HT1.out.setRow
  have hT3 : TBlk ((w1.setRow a (tcs R (c + 1))).setCell ⟨e0, 0, none⟩ (.int .i64 0)) a R (c + 1) := (heap_setCell_other _ _ _ _ (Ne.symm hne)).trans HT2.out
  have hE3 := own_set_eq2 (u := .int .i64 0) HE2.out
  have hB3 : Below B w ((w1.setRow a (tcs R (c + 1))).setCell ⟨e0, 0, none⟩ (.int .i64 0)) := (below_setRow' HB1.out hBa).setCell hBe _
  go_end0
  exact ⟨⟨_, rfl⟩, by rw [HN.out]; exact hT3, hE3, hB3⟩
end Go.Proofs.YtcmidgdhihmppaaGreatDoor
namespace Go.Proofs.YtcmidgdhihmppaaGreatDoor
open Go.RowKit SpM
set_option linter.unusedVariables false
set_option linter.unusedSimpArgs false
set_option maxRecDepth 20000
theorem pow_eq (a e m v : Int) (hv : Hid (pw a e m = v)) (h1 : 1 ≤ m) (h2 : m < 2305843009213693952) (ha0 : 0 ≤ a) (ha : a < m) (he0 : 0 ≤ e) (he : e < 9223372036854775808) (w : World) :
    Calls Tryz.prog 77 #[.int .i64 a, .int .i64 e, .int .i64 m] w fun e' w' => e' = .returned (.tuple #[.int .i64 v, .int .i64 0]) ∧ ∃ n, w' = w.drewN n := by
  rw [← hv.out]; exact pow_ok a e m h1 h2 ha0 ha he0 he w
theorem wmul_eq (a b m v : Int) (hv : Hid (a * b % m = v)) (h2 : m < 2305843009213693952) (ha0 : 0 ≤ a) (ha : a < m) (hb0 : 0 ≤ b) (hb : b < m) (w : World) :
    Calls Tryz.prog 60 #[.int .i64 a, .int .i64 b, .int .i64 m] w fun e w' => e = .returned (.tuple #[.int .i64 v, .int .i64 0]) ∧ ∃ n, w' = w.drewN n := by
  rw [← hv.out]; exact wmul_ok a b m h2 ha0 ha hb0 hb w
/-- the product of powers, folded into acc. -/
def prodF (P : Int) : Int → List Int → List Int → Int
  | acc, x :: xs, e :: es => prodF P (acc * pw x e P % P) xs es
  | acc, _, _ => acc
theorem prodF_step {P acc : Int} {k : Nat} {xs es : List Int} (hk : k < xs.length) (he : k < es.length) :
    prodF P acc (xs.drop k) (es.drop k) = prodF P (acc * pw (xs.getD k 0) (es.getD k 0) P % P) (xs.drop (k + 1)) (es.drop (k + 1)) := by
  rw [List.drop_eq_getElem_cons hk, List.drop_eq_getElem_cons he, prodF, List.getD_eq_getElem?_getD, List.getElem?_eq_getElem hk, List.getD_eq_getElem?_getD, List.getElem?_eq_getElem he]
  rfl
theorem prodF_start {P s V : Int} {xs es : List Int} (h : Hid (prodF P s xs es = V)) : Hid (prodF P s (xs.drop 0) (es.drop 0) = V) := Lib.hid (by
  rw [List.drop_zero, List.drop_zero]
  exact h.out)
theorem prodF_end {P acc V : Int} {k : Nat} {xs es : List Int} (hn : xs.length = k) (h : Hid (prodF P acc (xs.drop k) (es.drop k) = V)) : acc = V := by
  have h2 := h.out
  rw [← hn, List.drop_length] at h2
  exact h2
theorem scB_lo {Q x : Int} (h : scB Q x = true) : 0 ≤ x := by simp [scB] at h; exact h.1
theorem scB_hi {Q x : Int} (h : scB Q x = true) : x < Q := by simp [scB] at h; exact h.2
set_option maxHeartbeats 6400000 in
theorem lproduct_any (P Q G start : Int) (A : Option Addr) (xs : List Int) (n c : Nat) (E : Option Addr) (es : List Int) (m d : Nat) (V : Int) (hV : Hid (prodF P start xs es = V)) (hn : Hid (xs.length = n)) (hm : Hid (es.length = m)) (hnm : n ≤ m) (hbig : m < 1000000)
    (hx : Hid (xs.all (memG P Q) = true)) (he : Hid (es.all (scB Q) = true)) (hp2 : 2 ≤ P) (hp : P < 2305843009213693952) (hQ : Q < 9223372036854775808) (hs0 : 0 ≤ start) (hs1 : start < P) (w : World) (hA : Hid (Sl w A xs)) (hE : Hid (Sl w E es)) :
    Calls Tryz.prog 86 #[gv P Q G, .int .i64 start, .slice A n c, .slice E m d] w fun e' w' => e' = .returned (.int .i64 V) ∧ Below w.heap.size w w' := by
  have HBX := Lib.hid (below_box0 w (gObj P Q G))
  have HX0 := Lib.hid (gbox_alloc w P Q G)
  have HA0 := Lib.hid (hA.out.below HBX.out)
  have HE0 := Lib.hid (hE.out.below HBX.out)
  obtain ⟨W, hW⟩ : ∃ W, w.alloc (gObj P Q G) = W := ⟨_, rfl⟩
  rw [hW] at HX0 HA0 HE0 HBX
  have HW := Lib.hid hW
  clear hW hA hE
  go_enter Tryz.func86, Tryz.ntmps86
  go_wp2
  rw [HW.out]
  go_loopw [9, 17] (fun y i wr => ∃ (k : Nat) (acc : Int), k ≤ n ∧ y = .int .i64 acc ∧ i = .int .i64 k ∧ 0 ≤ acc ∧ acc < P ∧ Hid (prodF P acc (xs.drop k) (es.drop k) = V) ∧ Hid (Below W.heap.size W wr)) (fun _ i _ => n - (intOf i).toNat)
  case atStart => exact ⟨0, start, by omega, rfl, rfl, by omega, by omega, prodF_start hV, Lib.hid (Below.refl _ _)⟩
  case round =>
    obtain ⟨k, acc, hk, rfl, rfl, a0, a1, HJ, HBr⟩ := hrel
    by_cases hlt : k < n
    · have hkl : k < xs.length := by rw [hn.out]; exact hlt
      have hkm : k < m := by omega
      have hke : k < es.length := by rw [hm.out]; exact hkm
      obtain ⟨b, o, hA, hi0⟩ := HA0.out.below HBr.out k hkl
      obtain ⟨b2, o2, hE, hi1⟩ := HE0.out.below HBr.out k hke
      subst hA
      subst hE
      obtain ⟨c0, c1, c2⟩ := HX0.out.below HBr.out
      have hm1 := all_get hx.out hkl
      have hm2 := all_get he.out hke
      have hst := prodF_step (P := P) (acc := acc) hkl hke
      obtain ⟨x, hxx⟩ : ∃ x, xs.getD k 0 = x := ⟨_, rfl⟩
      obtain ⟨ex, hee⟩ : ∃ x, es.getD k 0 = x := ⟨_, rfl⟩
      rw [hxx] at hi0 hm1 hst
      rw [hee] at hi1 hm2 hst
      have x0 := memG_lo hm1
      have x1 := memG_hi hm1
      have e0 := scB_lo hm2
      have e1 := scB_hi hm2
      obtain ⟨p, hp1⟩ : ∃ p, pw x ex P = p := ⟨_, rfl⟩
      obtain ⟨p0, p1⟩ : 0 ≤ p ∧ p < P := by rw [← hp1]; exact pw_lt _ _ _ (by omega)
      rw [hp1] at hst
      obtain ⟨acc2, hac⟩ : ∃ a, acc * p % P = a := ⟨_, rfl⟩
      rw [hac] at hst
      have q0 : 0 ≤ acc2 := by rw [← hac]; exact Int.emod_nonneg _ (by omega)
      have q1 : acc2 < P := by rw [← hac]; exact Int.emod_lt_of_pos _ (by omega)
      have HJ2 : Hid (prodF P acc2 (xs.drop (k + 1)) (es.drop (k + 1)) = V) := Lib.hid (hst.symm.trans HJ.out)
      have HP1 := Lib.hid hp1
      have HAC := Lib.hid hac
      clear hm1 hm2 hst hxx hee hp1 hac hkl hke HJ
      go_wp2
      go_quiet ((go_at_call 77; exact Calls.quiet_of (pow_eq x ex P p HP1 (by omega) hp (by omega) x1 e0 (by omega) _)))
      go_wp2_with fail
      refine (wmul_eq acc p P acc2 HAC hp a0 a1 p0 p1 _).mono ?_
      rintro e w' ⟨rfl, n3, rfl⟩
      have HB2 : Hid (Below W.heap.size W (wr.drewN (nq + n3))) := Lib.hid (below_drawN HBr.out _)
      go_wp2
      go_roundw
      case rel => exact ⟨k + 1, acc2, by omega, rfl, by go_num, q0, q1, HJ2, HB2⟩
      case measure => simp [intOf]; omega
    · obtain rfl : k = n := by omega
      obtain rfl := prodF_end hn.out HJ
      have hbF := below_ext HBX.out HBr.out
      clear HJ hlt
      go_wp2
      go_ret
      exact ⟨rfl, hbF⟩
theorem OwnL.keep {w w' : World} {B : Nat} {v : Value} {xs : List Int} (h : OwnL w B v xs) (hb : Below w.heap.size w w') : OwnL w' B v xs := by
  obtain ⟨h1, h2⟩ := h
  refine ⟨h1, h2.imp id ?_⟩
  rintro ⟨g, cap, cur, rfl, hg, hh, rest⟩
  exact ⟨g, cap, cur, rfl, hg, (hb.block g (Array.getElem?_eq_some_iff.1 hh).1).trans hh, rest⟩
theorem OwnL.mono {w : World} {B B' : Nat} {v : Value} {xs : List Int} (h : OwnL w B v xs) (hb : B' ≤ B) : OwnL w B' v xs := by
  obtain ⟨h1, h2⟩ := h
  refine ⟨h1, h2.imp id ?_⟩
  rintro ⟨g, cap, cur, rfl, hg, rest⟩
  exact ⟨g, cap, cur, rfl, by omega, rest⟩
theorem takeMap_succ {f : Row → Int} {rows : List Row} {k : Nat} (hk : k < rows.length) : (rows.take (k + 1)).map f = (rows.take k).map f ++ [f (rows.getD k noRow)] := by
  rw [List.take_add_one, List.map_append, List.getElem?_eq_getElem hk, List.getD_eq_getElem?_getD, List.getElem?_eq_getElem hk]
  rfl
theorem takeMap_len {f : Row → Int} {rows : List Row} {k : Nat} (hk : k ≤ rows.length) : ((rows.take k).map f).length = k := by
  rw [List.length_map, List.length_take]; omega
theorem rowAll_get {f : Row → Bool} {xs : List Row} (h : xs.all f = true) {k : Nat} (hk : k < xs.length) : f (xs.getD k noRow) = true := by
  rw [List.getD_eq_getElem?_getD, List.getElem?_eq_getElem hk]
  exact List.all_eq_true.1 h _ (List.getElem_mem hk)
/-- a list that the call made. -/
def ListOut (zs : List Int) (w : World) (e : Ending) (w' : World) : Prop := ∃ v, e = .returned v ∧ OwnL w' w.heap.size v zs ∧ Below w.heap.size w w'
set_option maxHeartbeats 6400000 in
theorem lproducts_any (P Q G : Int) (A : Option Addr) (rows : List Row) (n c : Nat) (E : Option Addr) (es : List Int) (m d : Nat) (hn : Hid (rows.length = n)) (hm : Hid (es.length = m)) (hbig : m < 1000000) (hbign : n < 1000000)
    (hx : Hid (rows.all (rowB P Q m) = true)) (he : Hid (es.all (scB Q) = true)) (hp2 : 2 ≤ P) (hp : P < 2305843009213693952) (hQ : Q < 9223372036854775808) (w : World) (hA : Hid (Rw w A rows)) (hE : Hid (Sl w E es)) :
    Calls Tryz.prog 58 #[gv P Q G, .slice A n c, .slice E m d] w (ListOut (rows.map fun r => prodF P 1 r.xs es) w) := by
  obtain ⟨i0, hi, hz0, hz1, hz2⟩ := info_parts intInfo
  have HBX := Lib.hid (below_box0 w (gObj P Q G))
  have HX0 := Lib.hid (gbox_alloc w P Q G)
  have HA0 := Lib.hid (hA.out.below HBX.out)
  have HE0 := Lib.hid (hE.out.below HBX.out)
  obtain ⟨W, hW⟩ : ∃ W, w.alloc (gObj P Q G) = W := ⟨_, rfl⟩
  rw [hW] at HX0 HA0 HE0 HBX
  have HW := Lib.hid hW
  clear hW hA hE
  go_enter Tryz.func58, Tryz.ntmps58
  go_wp2
  rw [HW.out]
  go_loopw [7, 12] (fun v i wr => ∃ k : Nat, k ≤ n ∧ i = .int .i64 k ∧ Hid (OwnL wr W.heap.size v ((rows.take k).map fun r => prodF P 1 r.xs es)) ∧ Hid (Below W.heap.size W wr)) (fun _ i _ => n - (intOf i).toNat)
  case atStart => exact ⟨0, by omega, rfl, Lib.hid (ownL_nil _ _), Lib.hid (Below.refl _ _)⟩
  case round =>
    obtain ⟨k, hk, rfl, HO, HBr⟩ := hrel
    by_cases hlt : k < n
    · have hkl : k < rows.length := by rw [hn.out]; exact hlt
      obtain ⟨⟨b, o, hA, hi0⟩, hok⟩ := HA0.out.below HBr.out k hkl
      subst hA
      obtain ⟨c0, c1, c2⟩ := HX0.out.below HBr.out
      have HEr := Lib.hid (HE0.out.below HBr.out)
      have hrb := rowAll_get hx.out hkl
      have HTS := Lib.hid (takeMap_succ (f := fun r => prodF P 1 r.xs es) hkl)
      obtain ⟨R, hR⟩ : ∃ R, rows.getD k noRow = R := ⟨_, rfl⟩
      rw [hR] at hi0 hrb hok HTS
      obtain ⟨p, rn, rc, xs⟩ := R
      simp only [rowB, Bool.and_eq_true, decide_eq_true_eq] at hrb
      obtain ⟨rfl, hmx⟩ := hrb
      have HL := Lib.hid hok.1
      have HS := Lib.hid hok.2
      have HMX := Lib.hid hmx
      obtain ⟨V, hV⟩ : ∃ V, prodF P 1 xs es = V := ⟨_, rfl⟩
      have HV_ := Lib.hid hV
      have HTS2 : Hid ((rows.take (k + 1)).map (fun r => prodF P 1 r.xs es) = (rows.take k).map (fun r => prodF P 1 r.xs es) ++ [V]) := Lib.hid (by rw [HTS.out, ← hV])
      have HTL := Lib.hid (takeMap_len (f := fun r => prodF P 1 r.xs es) (Nat.le_of_lt hkl))
      dsimp only [Row.val] at hi0
      clear hR hok hmx hV hkl HTS
      go_wp2_with fail
      refine (lproduct_any P Q G 1 p xs rn rc E es rn d V HV_ HL hm (Nat.le_refl _) hbig HMX he hp2 hp hQ (by omega) (by omega) _ HS HEr).mono ?_
      rintro e w2 ⟨rfl, hb0⟩
      have HO1 := Lib.hid (HO.out.keep hb0)
      have HB1 := Lib.hid (below_ext HBr.out hb0)
      have hown : w2.ownsRow W.heap.size 3 1 u7 k (((rows.take k).map fun r => prodF P 1 r.xs es).map (Value.int .i64)) := by
        have h3 := HO1.out
        unfold OwnL at h3
        rwa [HTL.out] at h3
      have hbs := HB1.out.size
      clear hb0 c0 c1 c2 hi0 HO
      go_wp2_with (at_builtin; refine wpList_append_own _ rfl _ _ 24 rfl W.heap.size 3 i0 (.int .i64 0) 1 8 Tryz.underlying24 hi hz0 hz1 hz2 rfl (by decide) _ _ _ rfl (hown.alloc _) ⟨w2.heap.size, 0, none⟩ 1 1 [.int .i64 V] rfl rfl (cell_one_new _ _ _) (ints_oneCell .i64 [V]) (by unfold maxLen; omega) (by omega) (by simp; omega) ?_; intro v' w3 hown1 hgrow1 _)
      have HO2 : Hid (OwnL w3 W.heap.size v' ((rows.take (k + 1)).map fun r => prodF P 1 r.xs es)) := Lib.hid (by
        rw [HTS2.out]
        exact OwnL.app HTL.out.symm hown1)
      have HB2 : Hid (Below W.heap.size W w3) := Lib.hid (HO1.out.below HB1.out hbs hgrow1)
      clear hown hown1 hgrow1
      go_roundw
      case rel => exact ⟨k + 1, by omega, by go_num, HO2, HB2⟩
      case measure => simp [intOf]; omega
    · obtain rfl : k = n := by omega
      have HF : Hid (OwnL wr W.heap.size u7 (rows.map fun r => prodF P 1 r.xs es)) := Lib.hid (by
        have h3 := HO.out
        rwa [← hn.out, List.take_length] at h3)
      have hbF := below_ext HBX.out HBr.out
      have hsz := HBX.out.size
      clear HO hlt
      go_wp2
      go_ret
      exact ⟨_, rfl, HF.out.mono hsz, hbF⟩
end Go.Proofs.YtcmidgdhihmppaaGreatDoor
namespace Go.Proofs.YtcmidgdhihmppaaGreatDoor
open Go.RowKit SpM
set_option linter.unusedVariables false
set_option linter.unusedSimpArgs false
set_option maxRecDepth 20000
theorem validR_parts {P Q G : Int} {ys : List Int} {rows : List Row} (h : validR P Q G ys rows = true) :
    validG P Q G = true ∧ 1 ≤ ys.length ∧ ys.length ≤ 8 ∧ rows.length = ys.length ∧ ys.all (memG P Q) = true ∧ 1 ≤ rowN rows ∧ rowN rows ≤ 12 ∧ rows.all (rowB P Q (rowN rows)) = true := by
  simp only [validR, Bool.and_eq_true, decide_eq_true_eq] at h
  exact h
/-- the error of linear.check. -/
def chkR (P Q G : Int) (ys : List Int) (rows : List Row) (ls os : List Int) : Int :=
  if validR P Q G ys rows = true then (if ls.length = rowN rows then (if ls.all (scB Q) = true then (if os.all (scB Q) = true then 0 else 2) else 2) else 1) else 1
theorem sl_nil (w : World) : Sl w none [] := fun k hk => absurd hk (by simp)
set_option maxHeartbeats 6400000 in
theorem lcheck_1a (P Q G : Int) (Y : Option Addr) (ys : List Int) (yn yc : Nat) (B : Option Addr) (rows : List Row) (bn bc : Nat) (L : Option Addr) (ls : List Int) (ln lc : Nat) (O : Option Addr) (os : List Int) (on oc : Nat) (hyn : Hid (ys.length = yn)) (hbn : Hid (rows.length = bn)) (hln : Hid (ls.length = ln)) (hlb : ln < 1000000) (hon : Hid (os.length = on)) (hob : on < 1000000) (HVL : Hid (validR P Q G ys rows = false)) (hQ : Q < 9223372036854775808) (w : World) (hv : Hid (Vars w)) (hY : Hid (Sl w Y ys)) (hB : Hid (Rw w B rows)) (hL : Hid (Sl w L ls)) (hO : Hid (Sl w O os)) :
    Calls Tryz.prog 57 #[gv P Q G, relV Y yn yc B bn bc, .slice L ln lc, .slice O on oc] w fun e' w' => e' = .returned (.int .i64 1) ∧ Below w.heap.size w w' := by
  obtain ⟨w0, hW⟩ : ∃ W, (w.alloc (gObj P Q G)).alloc (relO Y yn yc B bn bc) = W := ⟨_, rfl⟩
  have HBw : Hid (Below w.heap.size w w0) := Lib.hid (by rw [← hW]; exact below_two (Below.refl _ _))
  have HX0 : Hid (GBox w0 w.heap.size P Q G) := Lib.hid (by rw [← hW]; exact (gbox_alloc w P Q G).below (below_box0 _ _))
  have HR0 : Hid (RBox w0 (w.heap.size + 1) (.slice Y yn yc) (.slice B bn bc)) := Lib.hid (by rw [← hW]; exact rbox_alloc1 _ _ _ _ _)
  have HY0 : Hid (Sl w0 Y ys) := Lib.hid (hY.out.below HBw.out)
  have HW_0 : Hid (Rw w0 B rows) := Lib.hid (hB.out.below HBw.out)
  have HL0 : Hid (Sl w0 L ls) := Lib.hid (hL.out.below HBw.out)
  have HO0 : Hid (Sl w0 O os) := Lib.hid (hO.out.below HBw.out)
  have HV0 : Hid (Vars w0) := Lib.hid (hv.out.below HBw.out)
  have HW := Lib.hid hW
  clear hW hY hB hL hO hv
  go_enter Tryz.func57, Tryz.ntmps57
  go_wp2_with fail
  rw [HW.out]
  go_wp2_with fail
  refine (lvalid_any P Q G Y ys yn yc B rows bn bc false HVL hyn hbn hQ _ HV0 HY0 HW_0).mono ?_
  rintro e w1 ⟨rfl, hb0⟩
  have hb1 := below_ext (HBw.out) hb0
  have HV1 := Lib.hid (HV0.out.below hb0)
  have HX1 := Lib.hid (HX0.out.below hb0)
  have HR1 := Lib.hid (HR0.out.below hb0)
  have HY1 := Lib.hid (HY0.out.below hb0)
  have HW_1 := Lib.hid (HW_0.out.below hb0)
  have HL1 := Lib.hid (HL0.out.below hb0)
  have HO1 := Lib.hid (HO0.out.below hb0)
  clear hb0
  obtain ⟨c0, c1, c2⟩ := HX1.out
  obtain ⟨d0, d1⟩ := HR1.out
  go_wp2
  go_ret
  exact ⟨rfl, hb1⟩
set_option maxHeartbeats 6400000 in
theorem lcheck_1b (P Q G : Int) (Y : Option Addr) (ys : List Int) (yn yc : Nat) (B : Option Addr) (rows : List Row) (bn bc : Nat) (L : Option Addr) (ls : List Int) (ln lc : Nat) (O : Option Addr) (os : List Int) (on oc : Nat) (hyn : Hid (ys.length = yn)) (hbn : Hid (rows.length = bn)) (hln : Hid (ls.length = ln)) (hlb : ln < 1000000) (hon : Hid (os.length = on)) (hob : on < 1000000) (HVL : Hid (validR P Q G ys rows = true)) (hlen : ls.length ≠ rowN rows) (hQ : Q < 9223372036854775808) (w : World) (hv : Hid (Vars w)) (hY : Hid (Sl w Y ys)) (hB : Hid (Rw w B rows)) (hL : Hid (Sl w L ls)) (hO : Hid (Sl w O os)) :
    Calls Tryz.prog 57 #[gv P Q G, relV Y yn yc B bn bc, .slice L ln lc, .slice O on oc] w fun e' w' => e' = .returned (.int .i64 1) ∧ Below w.heap.size w w' := by
  obtain ⟨w0, hW⟩ : ∃ W, (w.alloc (gObj P Q G)).alloc (relO Y yn yc B bn bc) = W := ⟨_, rfl⟩
  have HBw : Hid (Below w.heap.size w w0) := Lib.hid (by rw [← hW]; exact below_two (Below.refl _ _))
  have HX0 : Hid (GBox w0 w.heap.size P Q G) := Lib.hid (by rw [← hW]; exact (gbox_alloc w P Q G).below (below_box0 _ _))
  have HR0 : Hid (RBox w0 (w.heap.size + 1) (.slice Y yn yc) (.slice B bn bc)) := Lib.hid (by rw [← hW]; exact rbox_alloc1 _ _ _ _ _)
  have HY0 : Hid (Sl w0 Y ys) := Lib.hid (hY.out.below HBw.out)
  have HW_0 : Hid (Rw w0 B rows) := Lib.hid (hB.out.below HBw.out)
  have HL0 : Hid (Sl w0 L ls) := Lib.hid (hL.out.below HBw.out)
  have HO0 : Hid (Sl w0 O os) := Lib.hid (hO.out.below HBw.out)
  have HV0 : Hid (Vars w0) := Lib.hid (hv.out.below HBw.out)
  have HW := Lib.hid hW
  clear hW hY hB hL hO hv
  obtain ⟨v1, v2, v3, v4, v5, v6, v7, v8⟩ := validR_parts HVL.out
  have hbp : 0 < bn := by rw [← hbn.out]; omega
  obtain ⟨n0, hn0⟩ : ∃ n, rowN rows = n := ⟨_, rfl⟩
  have HN := Lib.hid hn0
  clear v1 v2 v3 v4 v5 v6 v7 v8
  have hne : ((ln : Int) != (n0 : Int)) = true := by rw [← hln.out, ← hn0]; simp; omega
  clear hn0
  go_enter Tryz.func57, Tryz.ntmps57
  go_wp2_with fail
  rw [HW.out]
  go_wp2_with fail
  refine (lvalid_any P Q G Y ys yn yc B rows bn bc true HVL hyn hbn hQ _ HV0 HY0 HW_0).mono ?_
  rintro e w1 ⟨rfl, hb0⟩
  have hb1 := below_ext (HBw.out) hb0
  have HV1 := Lib.hid (HV0.out.below hb0)
  have HX1 := Lib.hid (HX0.out.below hb0)
  have HR1 := Lib.hid (HR0.out.below hb0)
  have HY1 := Lib.hid (HY0.out.below hb0)
  have HW_1 := Lib.hid (HW_0.out.below hb0)
  have HL1 := Lib.hid (HL0.out.below hb0)
  have HO1 := Lib.hid (HO0.out.below hb0)
  clear hb0
  obtain ⟨c0, c1, c2⟩ := HX1.out
  obtain ⟨d0, d1⟩ := HR1.out
  go_wp2_with fail
  refine (lunknowns_any Y yn yc B rows bn bc n0 hbn hbp HN _ HW_1).mono ?_
  rintro e w2 ⟨rfl, hb0⟩
  have hb2 := below_ext hb1 hb0
  have HV2 := Lib.hid (HV1.out.below hb0)
  have HX2 := Lib.hid (HX1.out.below hb0)
  have HR2 := Lib.hid (HR1.out.below hb0)
  have HY2 := Lib.hid (HY1.out.below hb0)
  have HW_2 := Lib.hid (HW_1.out.below hb0)
  have HL2 := Lib.hid (HL1.out.below hb0)
  have HO2 := Lib.hid (HO1.out.below hb0)
  clear c0 c1 c2 d0 d1 hb0
  obtain ⟨c0, c1, c2⟩ := HX2.out
  obtain ⟨d0, d1⟩ := HR2.out
  go_wp2
  go_ret
  exact ⟨rfl, hb2⟩
set_option maxHeartbeats 6400000 in
theorem lcheck_2a (P Q G : Int) (Y : Option Addr) (ys : List Int) (yn yc : Nat) (B : Option Addr) (rows : List Row) (bn bc : Nat) (L : Option Addr) (ls : List Int) (ln lc : Nat) (O : Option Addr) (os : List Int) (on oc : Nat) (hyn : Hid (ys.length = yn)) (hbn : Hid (rows.length = bn)) (hln : Hid (ls.length = ln)) (hlb : ln < 1000000) (hon : Hid (os.length = on)) (hob : on < 1000000) (HVL : Hid (validR P Q G ys rows = true)) (hlen : ls.length = rowN rows) (Hl : Hid (ls.all (scB Q) = false)) (hQ : Q < 9223372036854775808) (w : World) (hv : Hid (Vars w)) (hY : Hid (Sl w Y ys)) (hB : Hid (Rw w B rows)) (hL : Hid (Sl w L ls)) (hO : Hid (Sl w O os)) :
    Calls Tryz.prog 57 #[gv P Q G, relV Y yn yc B bn bc, .slice L ln lc, .slice O on oc] w fun e' w' => e' = .returned (.int .i64 2) ∧ Below w.heap.size w w' := by
  obtain ⟨w0, hW⟩ : ∃ W, (w.alloc (gObj P Q G)).alloc (relO Y yn yc B bn bc) = W := ⟨_, rfl⟩
  have HBw : Hid (Below w.heap.size w w0) := Lib.hid (by rw [← hW]; exact below_two (Below.refl _ _))
  have HX0 : Hid (GBox w0 w.heap.size P Q G) := Lib.hid (by rw [← hW]; exact (gbox_alloc w P Q G).below (below_box0 _ _))
  have HR0 : Hid (RBox w0 (w.heap.size + 1) (.slice Y yn yc) (.slice B bn bc)) := Lib.hid (by rw [← hW]; exact rbox_alloc1 _ _ _ _ _)
  have HY0 : Hid (Sl w0 Y ys) := Lib.hid (hY.out.below HBw.out)
  have HW_0 : Hid (Rw w0 B rows) := Lib.hid (hB.out.below HBw.out)
  have HL0 : Hid (Sl w0 L ls) := Lib.hid (hL.out.below HBw.out)
  have HO0 : Hid (Sl w0 O os) := Lib.hid (hO.out.below HBw.out)
  have HV0 : Hid (Vars w0) := Lib.hid (hv.out.below HBw.out)
  have HW := Lib.hid hW
  clear hW hY hB hL hO hv
  obtain ⟨v1, v2, v3, v4, v5, v6, v7, v8⟩ := validR_parts HVL.out
  have hbp : 0 < bn := by rw [← hbn.out]; omega
  obtain ⟨n0, hn0⟩ : ∃ n, rowN rows = n := ⟨_, rfl⟩
  have HN := Lib.hid hn0
  clear v1 v2 v3 v4 v5 v6 v7 v8
  have hne : ((ln : Int) != (n0 : Int)) = false := by rw [← hln.out, ← hn0]; simp; omega
  clear hn0
  go_enter Tryz.func57, Tryz.ntmps57
  go_wp2_with fail
  rw [HW.out]
  go_wp2_with fail
  refine (lvalid_any P Q G Y ys yn yc B rows bn bc true HVL hyn hbn hQ _ HV0 HY0 HW_0).mono ?_
  rintro e w1 ⟨rfl, hb0⟩
  have hb1 := below_ext (HBw.out) hb0
  have HV1 := Lib.hid (HV0.out.below hb0)
  have HX1 := Lib.hid (HX0.out.below hb0)
  have HR1 := Lib.hid (HR0.out.below hb0)
  have HY1 := Lib.hid (HY0.out.below hb0)
  have HW_1 := Lib.hid (HW_0.out.below hb0)
  have HL1 := Lib.hid (HL0.out.below hb0)
  have HO1 := Lib.hid (HO0.out.below hb0)
  clear hb0
  obtain ⟨c0, c1, c2⟩ := HX1.out
  obtain ⟨d0, d1⟩ := HR1.out
  go_wp2_with fail
  refine (lunknowns_any Y yn yc B rows bn bc n0 hbn hbp HN _ HW_1).mono ?_
  rintro e w2 ⟨rfl, hb0⟩
  have hb2 := below_ext hb1 hb0
  have HV2 := Lib.hid (HV1.out.below hb0)
  have HX2 := Lib.hid (HX1.out.below hb0)
  have HR2 := Lib.hid (HR1.out.below hb0)
  have HY2 := Lib.hid (HY1.out.below hb0)
  have HW_2 := Lib.hid (HW_1.out.below hb0)
  have HL2 := Lib.hid (HL1.out.below hb0)
  have HO2 := Lib.hid (HO1.out.below hb0)
  clear c0 c1 c2 d0 d1 hb0
  obtain ⟨c0, c1, c2⟩ := HX2.out
  obtain ⟨d0, d1⟩ := HR2.out
  go_wp2_with fail
  refine (scalars_any P Q G L ls ln lc false Hl hln (Lib.hid hlb) _ HL2).mono ?_
  rintro e w3 ⟨rfl, hb0⟩
  have hb3 := below_ext hb2 hb0
  have HV3 := Lib.hid (HV2.out.below hb0)
  have HX3 := Lib.hid (HX2.out.below hb0)
  have HR3 := Lib.hid (HR2.out.below hb0)
  have HY3 := Lib.hid (HY2.out.below hb0)
  have HW_3 := Lib.hid (HW_2.out.below hb0)
  have HL3 := Lib.hid (HL2.out.below hb0)
  have HO3 := Lib.hid (HO2.out.below hb0)
  clear c0 c1 c2 d0 d1 hb0
  obtain ⟨c0, c1, c2⟩ := HX3.out
  obtain ⟨d0, d1⟩ := HR3.out
  go_wp2
  go_ret
  exact ⟨rfl, hb3⟩
set_option maxHeartbeats 6400000 in
theorem lcheck_2b (P Q G : Int) (Y : Option Addr) (ys : List Int) (yn yc : Nat) (B : Option Addr) (rows : List Row) (bn bc : Nat) (L : Option Addr) (ls : List Int) (ln lc : Nat) (O : Option Addr) (os : List Int) (on oc : Nat) (hyn : Hid (ys.length = yn)) (hbn : Hid (rows.length = bn)) (hln : Hid (ls.length = ln)) (hlb : ln < 1000000) (hon : Hid (os.length = on)) (hob : on < 1000000) (HVL : Hid (validR P Q G ys rows = true)) (hlen : ls.length = rowN rows) (Hl : Hid (ls.all (scB Q) = true)) (Ho : Hid (os.all (scB Q) = false)) (hQ : Q < 9223372036854775808) (w : World) (hv : Hid (Vars w)) (hY : Hid (Sl w Y ys)) (hB : Hid (Rw w B rows)) (hL : Hid (Sl w L ls)) (hO : Hid (Sl w O os)) :
    Calls Tryz.prog 57 #[gv P Q G, relV Y yn yc B bn bc, .slice L ln lc, .slice O on oc] w fun e' w' => e' = .returned (.int .i64 2) ∧ Below w.heap.size w w' := by
  obtain ⟨w0, hW⟩ : ∃ W, (w.alloc (gObj P Q G)).alloc (relO Y yn yc B bn bc) = W := ⟨_, rfl⟩
  have HBw : Hid (Below w.heap.size w w0) := Lib.hid (by rw [← hW]; exact below_two (Below.refl _ _))
  have HX0 : Hid (GBox w0 w.heap.size P Q G) := Lib.hid (by rw [← hW]; exact (gbox_alloc w P Q G).below (below_box0 _ _))
  have HR0 : Hid (RBox w0 (w.heap.size + 1) (.slice Y yn yc) (.slice B bn bc)) := Lib.hid (by rw [← hW]; exact rbox_alloc1 _ _ _ _ _)
  have HY0 : Hid (Sl w0 Y ys) := Lib.hid (hY.out.below HBw.out)
  have HW_0 : Hid (Rw w0 B rows) := Lib.hid (hB.out.below HBw.out)
  have HL0 : Hid (Sl w0 L ls) := Lib.hid (hL.out.below HBw.out)
  have HO0 : Hid (Sl w0 O os) := Lib.hid (hO.out.below HBw.out)
  have HV0 : Hid (Vars w0) := Lib.hid (hv.out.below HBw.out)
  have HW := Lib.hid hW
  clear hW hY hB hL hO hv
  obtain ⟨v1, v2, v3, v4, v5, v6, v7, v8⟩ := validR_parts HVL.out
  have hbp : 0 < bn := by rw [← hbn.out]; omega
  obtain ⟨n0, hn0⟩ : ∃ n, rowN rows = n := ⟨_, rfl⟩
  have HN := Lib.hid hn0
  clear v1 v2 v3 v4 v5 v6 v7 v8
  have hne : ((ln : Int) != (n0 : Int)) = false := by rw [← hln.out, ← hn0]; simp; omega
  clear hn0
  go_enter Tryz.func57, Tryz.ntmps57
  go_wp2_with fail
  rw [HW.out]
  go_wp2_with fail
  refine (lvalid_any P Q G Y ys yn yc B rows bn bc true HVL hyn hbn hQ _ HV0 HY0 HW_0).mono ?_
  rintro e w1 ⟨rfl, hb0⟩
  have hb1 := below_ext (HBw.out) hb0
  have HV1 := Lib.hid (HV0.out.below hb0)
  have HX1 := Lib.hid (HX0.out.below hb0)
  have HR1 := Lib.hid (HR0.out.below hb0)
  have HY1 := Lib.hid (HY0.out.below hb0)
  have HW_1 := Lib.hid (HW_0.out.below hb0)
  have HL1 := Lib.hid (HL0.out.below hb0)
  have HO1 := Lib.hid (HO0.out.below hb0)
  clear hb0
  obtain ⟨c0, c1, c2⟩ := HX1.out
  obtain ⟨d0, d1⟩ := HR1.out
  go_wp2_with fail
  refine (lunknowns_any Y yn yc B rows bn bc n0 hbn hbp HN _ HW_1).mono ?_
  rintro e w2 ⟨rfl, hb0⟩
  have hb2 := below_ext hb1 hb0
  have HV2 := Lib.hid (HV1.out.below hb0)
  have HX2 := Lib.hid (HX1.out.below hb0)
  have HR2 := Lib.hid (HR1.out.below hb0)
  have HY2 := Lib.hid (HY1.out.below hb0)
  have HW_2 := Lib.hid (HW_1.out.below hb0)
  have HL2 := Lib.hid (HL1.out.below hb0)
  have HO2 := Lib.hid (HO1.out.below hb0)
  clear c0 c1 c2 d0 d1 hb0
  obtain ⟨c0, c1, c2⟩ := HX2.out
  obtain ⟨d0, d1⟩ := HR2.out
  go_wp2_with fail
  refine (scalars_any P Q G L ls ln lc true Hl hln (Lib.hid hlb) _ HL2).mono ?_
  rintro e w3 ⟨rfl, hb0⟩
  have hb3 := below_ext hb2 hb0
  have HV3 := Lib.hid (HV2.out.below hb0)
  have HX3 := Lib.hid (HX2.out.below hb0)
  have HR3 := Lib.hid (HR2.out.below hb0)
  have HY3 := Lib.hid (HY2.out.below hb0)
  have HW_3 := Lib.hid (HW_2.out.below hb0)
  have HL3 := Lib.hid (HL2.out.below hb0)
  have HO3 := Lib.hid (HO2.out.below hb0)
  clear c0 c1 c2 d0 d1 hb0
  obtain ⟨c0, c1, c2⟩ := HX3.out
  obtain ⟨d0, d1⟩ := HR3.out
  go_wp2_with fail
  refine (scalars_any P Q G O os on oc false Ho hon (Lib.hid hob) _ HO3).mono ?_
  rintro e w4 ⟨rfl, hb0⟩
  have hb4 := below_ext hb3 hb0
  have HV4 := Lib.hid (HV3.out.below hb0)
  have HX4 := Lib.hid (HX3.out.below hb0)
  have HR4 := Lib.hid (HR3.out.below hb0)
  have HY4 := Lib.hid (HY3.out.below hb0)
  have HW_4 := Lib.hid (HW_3.out.below hb0)
  have HL4 := Lib.hid (HL3.out.below hb0)
  have HO4 := Lib.hid (HO3.out.below hb0)
  clear c0 c1 c2 d0 d1 hb0
  obtain ⟨c0, c1, c2⟩ := HX4.out
  obtain ⟨d0, d1⟩ := HR4.out
  go_wp2
  go_ret
  exact ⟨rfl, hb4⟩
set_option maxHeartbeats 6400000 in
theorem lcheck_0 (P Q G : Int) (Y : Option Addr) (ys : List Int) (yn yc : Nat) (B : Option Addr) (rows : List Row) (bn bc : Nat) (L : Option Addr) (ls : List Int) (ln lc : Nat) (O : Option Addr) (os : List Int) (on oc : Nat) (hyn : Hid (ys.length = yn)) (hbn : Hid (rows.length = bn)) (hln : Hid (ls.length = ln)) (hlb : ln < 1000000) (hon : Hid (os.length = on)) (hob : on < 1000000) (HVL : Hid (validR P Q G ys rows = true)) (hlen : ls.length = rowN rows) (Hl : Hid (ls.all (scB Q) = true)) (Ho : Hid (os.all (scB Q) = true)) (hQ : Q < 9223372036854775808) (w : World) (hv : Hid (Vars w)) (hY : Hid (Sl w Y ys)) (hB : Hid (Rw w B rows)) (hL : Hid (Sl w L ls)) (hO : Hid (Sl w O os)) :
    Calls Tryz.prog 57 #[gv P Q G, relV Y yn yc B bn bc, .slice L ln lc, .slice O on oc] w fun e' w' => e' = .returned (.int .i64 0) ∧ Below w.heap.size w w' := by
  obtain ⟨w0, hW⟩ : ∃ W, (w.alloc (gObj P Q G)).alloc (relO Y yn yc B bn bc) = W := ⟨_, rfl⟩
  have HBw : Hid (Below w.heap.size w w0) := Lib.hid (by rw [← hW]; exact below_two (Below.refl _ _))
  have HX0 : Hid (GBox w0 w.heap.size P Q G) := Lib.hid (by rw [← hW]; exact (gbox_alloc w P Q G).below (below_box0 _ _))
  have HR0 : Hid (RBox w0 (w.heap.size + 1) (.slice Y yn yc) (.slice B bn bc)) := Lib.hid (by rw [← hW]; exact rbox_alloc1 _ _ _ _ _)
  have HY0 : Hid (Sl w0 Y ys) := Lib.hid (hY.out.below HBw.out)
  have HW_0 : Hid (Rw w0 B rows) := Lib.hid (hB.out.below HBw.out)
  have HL0 : Hid (Sl w0 L ls) := Lib.hid (hL.out.below HBw.out)
  have HO0 : Hid (Sl w0 O os) := Lib.hid (hO.out.below HBw.out)
  have HV0 : Hid (Vars w0) := Lib.hid (hv.out.below HBw.out)
  have HW := Lib.hid hW
  clear hW hY hB hL hO hv
  obtain ⟨v1, v2, v3, v4, v5, v6, v7, v8⟩ := validR_parts HVL.out
  have hbp : 0 < bn := by rw [← hbn.out]; omega
  obtain ⟨n0, hn0⟩ : ∃ n, rowN rows = n := ⟨_, rfl⟩
  have HN := Lib.hid hn0
  clear v1 v2 v3 v4 v5 v6 v7 v8
  have hne : ((ln : Int) != (n0 : Int)) = false := by rw [← hln.out, ← hn0]; simp; omega
  clear hn0
  go_enter Tryz.func57, Tryz.ntmps57
  go_wp2_with fail
  rw [HW.out]
  go_wp2_with fail
  refine (lvalid_any P Q G Y ys yn yc B rows bn bc true HVL hyn hbn hQ _ HV0 HY0 HW_0).mono ?_
  rintro e w1 ⟨rfl, hb0⟩
  have hb1 := below_ext (HBw.out) hb0
  have HV1 := Lib.hid (HV0.out.below hb0)
  have HX1 := Lib.hid (HX0.out.below hb0)
  have HR1 := Lib.hid (HR0.out.below hb0)
  have HY1 := Lib.hid (HY0.out.below hb0)
  have HW_1 := Lib.hid (HW_0.out.below hb0)
  have HL1 := Lib.hid (HL0.out.below hb0)
  have HO1 := Lib.hid (HO0.out.below hb0)
  clear hb0
  obtain ⟨c0, c1, c2⟩ := HX1.out
  obtain ⟨d0, d1⟩ := HR1.out
  go_wp2_with fail
  refine (lunknowns_any Y yn yc B rows bn bc n0 hbn hbp HN _ HW_1).mono ?_
  rintro e w2 ⟨rfl, hb0⟩
  have hb2 := below_ext hb1 hb0
  have HV2 := Lib.hid (HV1.out.below hb0)
  have HX2 := Lib.hid (HX1.out.below hb0)
  have HR2 := Lib.hid (HR1.out.below hb0)
  have HY2 := Lib.hid (HY1.out.below hb0)
  have HW_2 := Lib.hid (HW_1.out.below hb0)
  have HL2 := Lib.hid (HL1.out.below hb0)
  have HO2 := Lib.hid (HO1.out.below hb0)
  clear c0 c1 c2 d0 d1 hb0
  obtain ⟨c0, c1, c2⟩ := HX2.out
  obtain ⟨d0, d1⟩ := HR2.out
  go_wp2_with fail
  refine (scalars_any P Q G L ls ln lc true Hl hln (Lib.hid hlb) _ HL2).mono ?_
  rintro e w3 ⟨rfl, hb0⟩
  have hb3 := below_ext hb2 hb0
  have HV3 := Lib.hid (HV2.out.below hb0)
  have HX3 := Lib.hid (HX2.out.below hb0)
  have HR3 := Lib.hid (HR2.out.below hb0)
  have HY3 := Lib.hid (HY2.out.below hb0)
  have HW_3 := Lib.hid (HW_2.out.below hb0)
  have HL3 := Lib.hid (HL2.out.below hb0)
  have HO3 := Lib.hid (HO2.out.below hb0)
  clear c0 c1 c2 d0 d1 hb0
  obtain ⟨c0, c1, c2⟩ := HX3.out
  obtain ⟨d0, d1⟩ := HR3.out
  go_wp2_with fail
  refine (scalars_any P Q G O os on oc true Ho hon (Lib.hid hob) _ HO3).mono ?_
  rintro e w4 ⟨rfl, hb0⟩
  have hb4 := below_ext hb3 hb0
  have HV4 := Lib.hid (HV3.out.below hb0)
  have HX4 := Lib.hid (HX3.out.below hb0)
  have HR4 := Lib.hid (HR3.out.below hb0)
  have HY4 := Lib.hid (HY3.out.below hb0)
  have HW_4 := Lib.hid (HW_3.out.below hb0)
  have HL4 := Lib.hid (HL3.out.below hb0)
  have HO4 := Lib.hid (HO3.out.below hb0)
  clear c0 c1 c2 d0 d1 hb0
  obtain ⟨c0, c1, c2⟩ := HX4.out
  obtain ⟨d0, d1⟩ := HR4.out
  go_wp2
  go_ret
  exact ⟨rfl, hb4⟩
theorem lcheck_any (P Q G : Int) (Y : Option Addr) (ys : List Int) (yn yc : Nat) (B : Option Addr) (rows : List Row) (bn bc : Nat) (L : Option Addr) (ls : List Int) (ln lc : Nat) (O : Option Addr) (os : List Int) (on oc : Nat) (r : Int) (hr : Hid (chkR P Q G ys rows ls os = r)) (hyn : Hid (ys.length = yn)) (hbn : Hid (rows.length = bn)) (hln : Hid (ls.length = ln)) (hlb : ln < 1000000) (hon : Hid (os.length = on)) (hob : on < 1000000) (hQ : Q < 9223372036854775808) (w : World) (hv : Hid (Vars w)) (hY : Hid (Sl w Y ys)) (hB : Hid (Rw w B rows)) (hL : Hid (Sl w L ls)) (hO : Hid (Sl w O os)) :
    Calls Tryz.prog 57 #[gv P Q G, relV Y yn yc B bn bc, .slice L ln lc, .slice O on oc] w fun e' w' => e' = .returned (.int .i64 r) ∧ Below w.heap.size w w' := by
  have hr' := hr.out
  unfold chkR at hr'
  cases h1 : validR P Q G ys rows with
  | false =>
    rw [h1] at hr'
    obtain rfl : r = 1 := hr'.symm
    exact lcheck_1a P Q G Y ys yn yc B rows bn bc L ls ln lc O os on oc hyn hbn hln hlb hon hob (Lib.hid h1) hQ w hv hY hB hL hO
  | true =>
    rw [h1, if_pos rfl] at hr'
    by_cases h2 : ls.length = rowN rows
    · rw [if_pos h2] at hr'
      cases h3 : ls.all (scB Q) with
      | false =>
        rw [h3] at hr'
        obtain rfl : r = 2 := hr'.symm
        exact lcheck_2a P Q G Y ys yn yc B rows bn bc L ls ln lc O os on oc hyn hbn hln hlb hon hob (Lib.hid h1) h2 (Lib.hid h3) hQ w hv hY hB hL hO
      | true =>
        rw [h3, if_pos rfl] at hr'
        cases h4 : os.all (scB Q) with
        | false =>
          rw [h4] at hr'
          obtain rfl : r = 2 := hr'.symm
          exact lcheck_2b P Q G Y ys yn yc B rows bn bc L ls ln lc O os on oc hyn hbn hln hlb hon hob (Lib.hid h1) h2 (Lib.hid h3) (Lib.hid h4) hQ w hv hY hB hL hO
        | true =>
          rw [h4, if_pos rfl] at hr'
          obtain rfl : r = 0 := hr'.symm
          exact lcheck_0 P Q G Y ys yn yc B rows bn bc L ls ln lc O os on oc hyn hbn hln hlb hon hob (Lib.hid h1) h2 (Lib.hid h3) (Lib.hid h4) hQ w hv hY hB hL hO
    · rw [if_neg h2] at hr'
      obtain rfl : r = 1 := hr'.symm
      exact lcheck_1b P Q G Y ys yn yc B rows bn bc L ls ln lc O os on oc hyn hbn hln hlb hon hob (Lib.hid h1) h2 hQ w hv hY hB hL hO
/-- what a good check says. -/
theorem chkR_0 {P Q G : Int} {ys : List Int} {rows : List Row} {ls os : List Int} (h : chkR P Q G ys rows ls os = 0) : validR P Q G ys rows = true ∧ ls.length = rowN rows ∧ ls.all (scB Q) = true ∧ os.all (scB Q) = true := by
  unfold chkR at h
  split at h
  · split at h
    · split at h
      · split at h
        · exact ⟨by assumption, by assumption, by assumption, by assumption⟩
        · omega
      · omega
    · omega
  · omega
/-- a list that the call made, and no error. -/
def ListOk (zs : List Int) (w : World) (e : Ending) (w' : World) : Prop := ∃ v, e = .returned (.tuple #[v, .int .i64 0]) ∧ OwnL w' w.heap.size v zs ∧ Below w.heap.size w w'
set_option maxHeartbeats 6400000 in
theorem lcommit_ok (P Q G : Int) (Y : Option Addr) (ys : List Int) (yn yc : Nat) (B : Option Addr) (rows : List Row) (bn bc : Nat) (L : Option Addr) (ls : List Int) (ln lc : Nat) (hr : Hid (chkR P Q G ys rows ls [] = 0)) (hyn : Hid (ys.length = yn)) (hbn : Hid (rows.length = bn)) (hln : Hid (ls.length = ln)) (hlb : ln < 1000000) (hQ : Q < 9223372036854775808) (w : World) (hv : Hid (Vars w)) (hY : Hid (Sl w Y ys)) (hB : Hid (Rw w B rows)) (hL : Hid (Sl w L ls)) :
    Calls Tryz.prog 17 #[gv P Q G, relV Y yn yc B bn bc, .slice L ln lc] w (ListOk (rows.map fun r => prodF P 1 r.xs ls) w) := by
  obtain ⟨w0, hW⟩ : ∃ W, (w.alloc (gObj P Q G)).alloc (relO Y yn yc B bn bc) = W := ⟨_, rfl⟩
  have HBw : Hid (Below w.heap.size w w0) := Lib.hid (by rw [← hW]; exact below_two (Below.refl _ _))
  have HX0 : Hid (GBox w0 w.heap.size P Q G) := Lib.hid (by rw [← hW]; exact (gbox_alloc w P Q G).below (below_box0 _ _))
  have HR0 : Hid (RBox w0 (w.heap.size + 1) (.slice Y yn yc) (.slice B bn bc)) := Lib.hid (by rw [← hW]; exact rbox_alloc1 _ _ _ _ _)
  have HY0 : Hid (Sl w0 Y ys) := Lib.hid (hY.out.below HBw.out)
  have HW_0 : Hid (Rw w0 B rows) := Lib.hid (hB.out.below HBw.out)
  have HL0 : Hid (Sl w0 L ls) := Lib.hid (hL.out.below HBw.out)
  have HV0 : Hid (Vars w0) := Lib.hid (hv.out.below HBw.out)
  have HW := Lib.hid hW
  have hsz := HBw.out.size
  clear hW hY hB hL hv
  obtain ⟨k1, k2, k3, k4⟩ := chkR_0 hr.out
  obtain ⟨v1, v2, v3, v4, v5, v6, v7, v8⟩ := validR_parts k1
  obtain ⟨hp2, hp, hq3, hqp⟩ := validG_P v1
  rw [← k2, hln.out] at v8
  have HRB := Lib.hid v8
  have HLS := Lib.hid k3
  have hbb : bn < 1000000 := by rw [← hbn.out]; omega
  clear k1 k2 k3 k4 v1 v2 v3 v4 v5 v6 v7 v8
  go_enter Tryz.func17, Tryz.ntmps17
  go_wp2_with fail
  rw [HW.out]
  go_wp2_with fail
  refine (lcheck_any P Q G Y ys yn yc B rows bn bc L ls ln lc none [] 0 0 0 hr hyn hbn hln hlb (Lib.hid rfl) (by omega) hQ _ HV0 HY0 HW_0 HL0 (Lib.hid (sl_nil _))).mono ?_
  rintro e w1 ⟨rfl, hb0⟩
  have hb1 := below_ext (HBw.out) hb0
  have HV1 := Lib.hid (HV0.out.below hb0)
  have HX1 := Lib.hid (HX0.out.below hb0)
  have HR1 := Lib.hid (HR0.out.below hb0)
  have HY1 := Lib.hid (HY0.out.below hb0)
  have HW_1 := Lib.hid (HW_0.out.below hb0)
  have HL1 := Lib.hid (HL0.out.below hb0)
  clear hb0
  obtain ⟨c0, c1, c2⟩ := HX1.out
  obtain ⟨d0, d1⟩ := HR1.out
  go_wp2_with fail
  refine (lproducts_any P Q G B rows bn bc L ls ln lc hbn hln hlb hbb HRB HLS hp2 hp hQ _ HW_1 HL1).mono ?_
  rintro e w2 ⟨v, rfl, ho, hb0⟩
  have HOW := Lib.hid (ho.mono (by have := hb1.size; omega : w.heap.size ≤ w1.heap.size))
  have hbF := below_ext hb1 hb0
  clear ho hb0
  go_wp2
  go_ret2
  exact ⟨_, rfl, HOW.out, hbF⟩
end Go.Proofs.YtcmidgdhihmppaaGreatDoor
namespace Go.Proofs.YtcmidgdhihmppaaGreatDoor
open Go.RowKit SpM
set_option linter.unusedVariables false
set_option linter.unusedSimpArgs false
set_option maxRecDepth 20000
/-- the responses up to n. -/
def rspL (Q c : Int) (ks xs : List Int) (n : Nat) : List Int := (List.range n).map fun i => (ks.getD i 0 + c * xs.getD i 0 % Q) % Q
theorem rspL_length (Q c : Int) (ks xs : List Int) (n : Nat) : (rspL Q c ks xs n).length = n := by simp [rspL]
theorem rspL_succ (Q c : Int) (ks xs : List Int) (n : Nat) : rspL Q c ks xs (n + 1) = rspL Q c ks xs n ++ [(ks.getD n 0 + c * xs.getD n 0 % Q) % Q] := by
  simp [rspL, List.range_succ]
theorem sl_of_cells {w : World} {b : Nat} {xs : List Int} (h : Cells w b xs) : Sl w (some ⟨b, 0, none⟩) xs := fun k hk => ⟨b, 0, rfl, by rw [Nat.zero_add]; exact h k hk⟩
theorem scB_one {Q c : Int} (h0 : 0 ≤ c) (h1 : c < Q) : [c].all (scB Q) = true := by simp [scB]; omega
set_option maxHeartbeats 6400000 in
theorem lrespond_ok (P Q G : Int) (K : Option Addr) (ks : List Int) (kn kc : Nat) (c : Int) (X : Option Addr) (xs : List Int) (xc : Nat) (hg : Hid (validG P Q G = true)) (hkn : Hid (ks.length = kn)) (hxn : Hid (xs.length = kn)) (h1 : 1 ≤ kn) (h2 : kn ≤ 12)
    (hk : Hid (ks.all (scB Q) = true)) (hx : Hid (xs.all (scB Q) = true)) (hc0 : 0 ≤ c) (hc1 : c < Q) (hQ : Q < 9223372036854775808) (w : World) (hv : Hid (Vars w)) (hK : Hid (Sl w K ks)) (hX : Hid (Sl w X xs)) :
    Calls Tryz.prog 18 #[gv P Q G, .slice K kn kc, .int .i64 c, .slice X kn xc] w (ListOk (rspL Q c ks xs kn) w) := by
  obtain ⟨i0, hi, hz0, hz1, hz2⟩ := info_parts intInfo
  obtain ⟨hp2, hp, hq3, hqp⟩ := validG_P hg.out
  have HV0 := Lib.hid (hv.out.below (below_box0 w (gObj P Q G)))
  have HX0 := Lib.hid (gbox_alloc w P Q G)
  have HK0 := Lib.hid (hK.out.below (below_box0 w (gObj P Q G)))
  have HS0 := Lib.hid (hX.out.below (below_box0 w (gObj P Q G)))
  have d1 : decide ((kn : Int) < 1) = false := by simp; omega
  have d2 : decide ((12 : Int) < (kn : Int)) = false := by simp; omega
  clear hv hK hX
  go_enter Tryz.func18, Tryz.ntmps18
  go_wp2_with fail
  refine (valid_any P Q G true hg hQ _ HV0).mono ?_
  rintro e w1 ⟨rfl, hb0⟩
  have hb1 := below_ext (below_box0 _ _) hb0
  have HV1 := Lib.hid (HV0.out.below hb0)
  have HX1 := Lib.hid (HX0.out.below hb0)
  have HK1 := Lib.hid (HK0.out.below hb0)
  have HS1 := Lib.hid (HS0.out.below hb0)
  clear hb0
  obtain ⟨c0, c1, c2⟩ := HX1.out
  go_wp2_with fail
  refine (scalars_any P Q G K ks kn kc true hk hkn (Lib.hid (by omega)) _ HK1).mono ?_
  rintro e w2 ⟨rfl, hb0⟩
  have hb2 := below_ext hb1 hb0
  have HV2 := Lib.hid (HV1.out.below hb0)
  have HX2 := Lib.hid (HX1.out.below hb0)
  have HK2 := Lib.hid (HK1.out.below hb0)
  have HS2 := Lib.hid (HS1.out.below hb0)
  clear c0 c1 c2 hb0
  obtain ⟨c0, c1, c2⟩ := HX2.out
  go_wp2_with fail
  refine (scalars_any P Q G X xs kn xc true hx hxn (Lib.hid (by omega)) _ HS2).mono ?_
  rintro e w3 ⟨rfl, hb0⟩
  have hb3 := below_ext hb2 hb0
  have HV3 := Lib.hid (HV2.out.below hb0)
  have HX3 := Lib.hid (HX2.out.below hb0)
  have HK3 := Lib.hid (HK2.out.below hb0)
  have HS3 := Lib.hid (HS2.out.below hb0)
  clear c0 c1 c2 hb0
  obtain ⟨c0, c1, c2⟩ := HX3.out
  have hq := below_box0 w3 (.cells #[.int .i64 c] 3)
  have HO := Lib.hid (sl_of_cells (cells1 w3 3 c))
  have HXa := Lib.hid (HX3.out.below hq)
  have HKa := Lib.hid (HK3.out.below hq)
  have HSa := Lib.hid (HS3.out.below hq)
  have hba := below_ext hb3 hq
  have HBO := Lib.hid (scB_one hc0 hc1)
  clear hq
  go_wp2_with fail
  refine (scalars_any P Q G (some ⟨w3.heap.size, 0, none⟩) [c] 1 1 true HBO (Lib.hid rfl) (Lib.hid (by omega)) _ HO).mono ?_
  rintro e W ⟨rfl, hb0⟩
  have hbW := below_ext hba hb0
  have HXW := Lib.hid (HXa.out.below hb0)
  have HKW := Lib.hid (HKa.out.below hb0)
  have HSW := Lib.hid (HSa.out.below hb0)
  clear hb0 c0 c1 c2
  go_wp2
  go_loopw [10, 55] (fun v i wr => ∃ k : Nat, k ≤ kn ∧ i = .int .i64 k ∧ Hid (OwnL wr W.heap.size v (rspL Q c ks xs k)) ∧ Hid (Below W.heap.size W wr)) (fun _ i _ => kn - (intOf i).toNat)
  case atStart => exact ⟨0, by omega, rfl, Lib.hid (ownL_nil _ _), Lib.hid (Below.refl _ _)⟩
  case round =>
    obtain ⟨k, hkk, rfl, HOr, HBr⟩ := hrel
    by_cases hlt : k < kn
    · have hkl : k < ks.length := by rw [hkn.out]; exact hlt
      have hxl : k < xs.length := by rw [hxn.out]; exact hlt
      obtain ⟨b1, o1, hK, hi0⟩ := HKW.out.below HBr.out k hkl
      obtain ⟨b2, o2, hX, hi1⟩ := HSW.out.below HBr.out k hxl
      subst hK
      subst hX
      obtain ⟨c0, c1, c2⟩ := HXW.out.below HBr.out
      have hm1 := all_get hk.out hkl
      have hm2 := all_get hx.out hxl
      have hst := rspL_succ Q c ks xs k
      obtain ⟨x, hxx⟩ : ∃ x, ks.getD k 0 = x := ⟨_, rfl⟩
      obtain ⟨y, hyy⟩ : ∃ x, xs.getD k 0 = x := ⟨_, rfl⟩
      rw [hxx] at hi0 hm1 hst
      rw [hyy] at hi1 hm2 hst
      have x0 := scB_lo hm1
      have x1 := scB_hi hm1
      have y0 := scB_lo hm2
      have y1 := scB_hi hm2
      obtain ⟨p, hp1⟩ : ∃ p, c * y % Q = p := ⟨_, rfl⟩
      have p0 : 0 ≤ p := by rw [← hp1]; exact Int.emod_nonneg _ (by omega)
      have p1 : p < Q := by rw [← hp1]; exact Int.emod_lt_of_pos _ (by omega)
      rw [hp1] at hst
      obtain ⟨t, ht⟩ : ∃ t, (x + p) % Q = t := ⟨_, rfl⟩
      rw [ht] at hst
      have htm : (x + p).tmod Q = t := by rw [Int.tmod_eq_emod_of_nonneg (by omega), ht]
      have t0 : 0 ≤ t := by rw [← ht]; exact Int.emod_nonneg _ (by omega)
      have t1 : t < Q := by rw [← ht]; exact Int.emod_lt_of_pos _ (by omega)
      have hwt : IntKind.i64.wrap t = t := IntWalk.i64_in _ (by omega)
      have hQn : ¬ (Q = 0) := by omega
      have hQz : ((Q : Int) == 0) = false := by simp; omega
      have hsum : IntKind.i64.wrap (x + p) = x + p := IntWalk.i64_in _ (by omega)
      have hsum2 : wrap64 (x + p) = x + p := IntWalk.wrap64_in _ (by omega)
      have HST := Lib.hid hst
      have HP1 := Lib.hid hp1
      have HTL := Lib.hid (rspL_length Q c ks xs k)
      clear hm1 hm2 hst hxx hyy hp1 hkl hxl
      go_wp2
      go_quiet ((go_at_call 60; exact Calls.quiet_of (wmul_eq c y Q p HP1 (by omega) hc0 hc1 y0 y1 _)))
      have HO1 := Lib.hid (HOr.out.keep (below_drawN (Below.refl wr.heap.size wr) nq))
      have HB1 : Hid (Below W.heap.size W (wr.drewN nq)) := Lib.hid (below_drawN HBr.out _)
      obtain ⟨wq, hwq⟩ : ∃ x, wr.drewN nq = x := ⟨_, rfl⟩
      have HQB : Hid (Below wr.heap.size wr wq) := Lib.hid (by rw [← hwq]; exact below_drawN (Below.refl _ _) _)
      rw [hwq] at HO1 HB1 ⊢
      clear hwq
      have hi0q := cell_below hi0 HQB.out
      have c1q := cell_below c1 HQB.out
      go_wp2
      have hown : wq.ownsRow W.heap.size 3 1 u10 k ((rspL Q c ks xs k).map (Value.int .i64)) := by
        have h3 := HO1.out
        unfold OwnL at h3
        rwa [HTL.out] at h3
      have hbs := HB1.out.size
      have lb : b1 < W.heap.size := by
        obtain ⟨bb, oo, e1, e2⟩ := HKW.out k (by rw [hkn.out]; exact hlt)
        cases e1
        exact World.block_lt_of_cell? _ _ e2
      have lg : w.heap.size < W.heap.size := World.block_lt_of_cell? _ _ HXW.out.2.1
      have ag : u10.ownBlock ≠ some b1 := fun e => by have := (World.ownsRow.lt hown _ e).1; omega
      have ah : u10.ownBlock ≠ some w.heap.size := fun e => by have := (World.ownsRow.lt hown _ e).1; omega
      go_region_held3 (fun w' => w'.cell? ⟨b1, o1 + k, none⟩ = some (.int .i64 x) ∧ w'.cell? ⟨w.heap.size, 1, none⟩ = some (.int .i64 Q))
        (first | go_keep | (go_split_ands; refine ⟨?_, ?_⟩ <;> (first | (rw [hgrow.cell_far _ (by simp; omega) (Ne.symm ag)]; assumption) | (rw [hgrow.cell_far _ (by simp; omega) (Ne.symm ah)]; assumption))))
        ((refine step_append_lies _ (by rfl) _ _ _ (by rfl) W.heap.size 3 i0 _ 1 8 Tryz.underlying24 hi hz0 hz1 hz2 rfl (by omega) u10 k ((rspL Q c ks xs k).map (Value.int .i64)) (by rfl) ((hown.alloc _).drew)
            ⟨wq.heap.size, 0, none⟩ 1 1 [.int .i64 t] (by rfl) (by rfl) (World.news_of_block (cs := #[.int .i64 t]) (t := 3) (fr := (0, 0)) (heap_alloc_new wq _)) (by simp [Value.oneCell'])
            (by omega) (by unfold maxLen; omega) (by omega) (by simp; omega) (wq.heap.size + 1) (by simp) ?_; intro gg cap wz hown1 hgrow hat hlt2))
      have HO3 : Hid (OwnL wz W.heap.size (.slice (some ⟨gg, 0, none⟩) (k + 1) cap) (rspL Q c ks xs (k + 1))) := Lib.hid (by
        rw [HST.out]
        exact OwnL.app HTL.out.symm hown1)
      have HB3 : Hid (Below W.heap.size W wz) := Lib.hid (OwnL.below (o := .cells #[.int .i64 t] 3) HO1.out HB1.out hbs (by first | exact hgrow | exact ⟨hgrow.os, hgrow.tape, hgrow.output, hgrow.size, hgrow.block⟩))
      clear hown hown1 hgrow
      go_wp2
      go_roundw
      case rel => exact ⟨k + 1, by omega, by go_num, HO3, HB3⟩
      case measure => simp [intOf]; omega
    · obtain rfl : k = kn := by omega
      have HF := Lib.hid (HOr.out.mono (by have := hbW.size; omega : w.heap.size ≤ W.heap.size))
      have hbF := below_ext hbW HBr.out
      clear HOr hlt
      go_wp2
      go_ret2
      exact ⟨_, rfl, HF.out, hbF⟩
end Go.Proofs.YtcmidgdhihmppaaGreatDoor
namespace Go.Proofs.YtcmidgdhihmppaaGreatDoor
open Go.RowKit SpM
set_option linter.unusedVariables false
set_option linter.unusedSimpArgs false
set_option maxRecDepth 100000
def lbGroup : ByteArray := { data := #[103, 114, 111, 117, 112] }
def lbY : ByteArray := { data := #[121] }
def lbBases : ByteArray := { data := #[98, 97, 115, 101, 115] }
def lbCommit : ByteArray := { data := #[99, 111, 109, 109, 105, 116] }
def lbCh : ByteArray := { data := #[99, 104, 97, 108, 108, 101, 110, 103, 101] }
theorem labGroup : Hid (labB (bys lbGroup) = true) := Lib.hid (by kernel_rfl)
theorem labY : Hid (labB (bys lbY) = true) := Lib.hid (by kernel_rfl)
theorem labBases : Hid (labB (bys lbBases) = true) := Lib.hid (by kernel_rfl)
theorem labCommit : Hid (labB (bys lbCommit) = true) := Lib.hid (by kernel_rfl)
theorem labCh : Hid (labB (bys lbCh) = true) := Lib.hid (by kernel_rfl)
/-- the state behind the rows absorbed. -/
def chRows (h : List Int) : List Row → List Int
  | [] => h
  | r :: rs => chRows (absL h (bys lbBases) r.xs) rs
/-- the challenge of a statement, of commitments and of a label. -/
def chalV (P Q G : Int) (lb : List Int) (ys : List Int) (rows : List Row) (al : List Int) : Int :=
  chN Q (absL (chRows (absL (absL (newL lb) (bys lbGroup) [P, Q, G]) (bys lbY) ys) rows) (bys lbCommit) al) (bys lbCh)
theorem chRows_step {h : List Int} {rows : List Row} {k : Nat} (hk : k < rows.length) : chRows h (rows.drop k) = chRows (absL h (bys lbBases) (rows.getD k noRow).xs) (rows.drop (k + 1)) := by
  rw [List.drop_eq_getElem_cons hk, List.getD_eq_getElem?_getD, List.getElem?_eq_getElem hk]
  rfl
/-- a state: 32 bytes. -/
def St32 (h : List Int) : Prop := h.length = 32 ∧ bytesB h = true
theorem st_abs (h s l : List Int) : St32 (absL h s l) := ⟨absL_len _ _ _, absL_bytes _ _ _⟩
theorem st_new (l : List Int) : St32 (newL l) := ⟨tagged_len _ _, sha_bytes _⟩
/-- what stands while the lists are absorbed. -/
def LcI (W : World) (a : Nat) (h : List Int) (c : Int) (x : Int) (u : World) : Prop := TBlk u a h c ∧ Own u ⟨a + 1, 0, none⟩ (.int .i64 x) ∧ Below W.heap.size W u
theorem LcI.alloc {W : World} {a : Nat} {h : List Int} {c x : Int} {u : World} (hI : LcI W a h c x u) (o : Obj) : LcI W a h c x (u.alloc o) :=
  ⟨hI.1.below (below_box0 _ _), hI.2.1.below (below_box0 _ _), below_ext hI.2.2 (below_box0 _ _)⟩
theorem LcI.below {W : World} {a : Nat} {h : List Int} {c x : Int} {u u' : World} (hI : LcI W a h c x u) (hb : Below u.heap.size u u') : LcI W a h c x u' :=
  ⟨hI.1.below hb, hI.2.1.below hb, below_ext hI.2.2 hb⟩
theorem absorb_st (W : World) (a : Nat) (hWa : W.heap.size ≤ a) (h : List Int) (hst : Hid (St32 h)) (c : Int) (hc0 : 0 ≤ c) (hc1 : c < 1000) (s : ByteArray) (hs : s.size ≤ 1000) (hr : Hid (labB (bys s) = true)) (A : Option Addr) (l : List Int) (n cA : Nat) (hn : Hid (l.length = n)) (hok : Hid (okL l)) (u : World) (hv : Hid (VarsD W)) (hS : Hid (Sl u A l)) (hI : Hid (LcI W a h c 0 u)) :
    Calls Tryz.prog 83 #[.string s, .slice A n cA, .pointer (some ⟨a + 1, 0, none⟩), .pointer (some ⟨a, 0, none⟩)] u fun e u' => (∃ v, e = .returned v) ∧ LcI W a (absL h (bys s) l) (c + 1) 0 u' := by
  refine (absorb_ok h (Lib.hid hst.out.1) (Lib.hid hst.out.2) c hc0 hc1 s hs hr A l n cA hn hok a (a + 1) a u (Lib.hid (hv.out.below hI.out.2.2)) hS (Lib.hid hI.out.1) (Lib.hid hI.out.2.1) (by omega) (Nat.le_refl _) (by omega)).mono ?_
  rintro e u' ⟨he, hT, hE, hb⟩
  exact ⟨he, hT, hE, hI.out.2.2.trans (hb.mono hWa)⟩
theorem cells3l (w : World) (T : TypeId) (a b c : Int) : Cells (w.alloc (.cells #[.int .i64 a, .int .i64 b, .int .i64 c] T)) w.heap.size [a, b, c] := by
  intro k hk
  rw [World.cell?_alloc_at _ _ _ _ rfl]
  match k, hk with
  | 0, _ => rfl
  | 1, _ => rfl
  | 2, _ => rfl
theorem two_boxes {w1 : World} {S0 : List Int} {c x : Int} (hl : S0.length = 32) :
    LcI w1 w1.heap.size S0 c x ((((w1.alloc (.cells #[.int .u8 0, .int .u8 0, .int .u8 0, .int .u8 0, .int .u8 0, .int .u8 0, .int .u8 0, .int .u8 0, .int .u8 0, .int .u8 0, .int .u8 0, .int .u8 0, .int .u8 0, .int .u8 0, .int .u8 0, .int .u8 0, .int .u8 0, .int .u8 0, .int .u8 0, .int .u8 0, .int .u8 0, .int .u8 0, .int .u8 0, .int .u8 0, .int .u8 0, .int .u8 0, .int .u8 0, .int .u8 0, .int .u8 0, .int .u8 0, .int .u8 0, .int .u8 0, .int .i64 0] 87)).alloc (.cells #[.int .i64 0] 42)).setRow w1.heap.size (tcs S0 c)).setCell ⟨w1.heap.size + 1, 0, none⟩ (.int .i64 x)) := by
  have hT : TBlk ((w1.alloc (.cells #[.int .u8 0, .int .u8 0, .int .u8 0, .int .u8 0, .int .u8 0, .int .u8 0, .int .u8 0, .int .u8 0, .int .u8 0, .int .u8 0, .int .u8 0, .int .u8 0, .int .u8 0, .int .u8 0, .int .u8 0, .int .u8 0, .int .u8 0, .int .u8 0, .int .u8 0, .int .u8 0, .int .u8 0, .int .u8 0, .int .u8 0, .int .u8 0, .int .u8 0, .int .u8 0, .int .u8 0, .int .u8 0, .int .u8 0, .int .u8 0, .int .u8 0, .int .u8 0, .int .i64 0] 87)).alloc (.cells #[.int .i64 0] 42)) w1.heap.size (zer 32) 0 := by rw [ztr]; exact heap_alloc2_old _ _ _
  have hE : Own ((w1.alloc (.cells #[.int .u8 0, .int .u8 0, .int .u8 0, .int .u8 0, .int .u8 0, .int .u8 0, .int .u8 0, .int .u8 0, .int .u8 0, .int .u8 0, .int .u8 0, .int .u8 0, .int .u8 0, .int .u8 0, .int .u8 0, .int .u8 0, .int .u8 0, .int .u8 0, .int .u8 0, .int .u8 0, .int .u8 0, .int .u8 0, .int .u8 0, .int .u8 0, .int .u8 0, .int .u8 0, .int .u8 0, .int .u8 0, .int .u8 0, .int .u8 0, .int .u8 0, .int .u8 0, .int .i64 0] 87)).alloc (.cells #[.int .i64 0] 42)) ⟨w1.heap.size + 1, 0, none⟩ (.int .i64 0) := ⟨cell_blk (heap_alloc2_new _ _ _) 0, frozen_blk (heap_alloc2_new _ _ _) 0⟩
  have hb : Below w1.heap.size w1 ((w1.alloc (.cells #[.int .u8 0, .int .u8 0, .int .u8 0, .int .u8 0, .int .u8 0, .int .u8 0, .int .u8 0, .int .u8 0, .int .u8 0, .int .u8 0, .int .u8 0, .int .u8 0, .int .u8 0, .int .u8 0, .int .u8 0, .int .u8 0, .int .u8 0, .int .u8 0, .int .u8 0, .int .u8 0, .int .u8 0, .int .u8 0, .int .u8 0, .int .u8 0, .int .u8 0, .int .u8 0, .int .u8 0, .int .u8 0, .int .u8 0, .int .u8 0, .int .u8 0, .int .u8 0, .int .i64 0] 87)).alloc (.cells #[.int .i64 0] 42)) := below_two (Below.refl _ _)
  refine ⟨(heap_setCell_other _ _ _ _ (show w1.heap.size ≠ w1.heap.size + 1 by omega)).trans hT.setRow, own_set_eq2 (own_setRow hE (show w1.heap.size + 1 ≠ w1.heap.size by omega)), (below_setRow' hb (Nat.le_refl _)).setCell (Nat.le_succ _) _⟩
set_option maxHeartbeats 6400000 in
theorem lchal_ok (P Q G : Int) (Y : Option Addr) (ys : List Int) (yn yc : Nat) (B : Option Addr) (rows : List Row) (bn bc : Nat) (A : Option Addr) (al : List Int) (na ca : Nat) (s : ByteArray) (hs : s.size ≤ 1000) (hr : Hid (labB (bys s) = true))
    (hyn : Hid (ys.length = yn)) (hbn : Hid (rows.length = bn)) (hna : Hid (al.length = na)) (hb9 : bn ≤ 900) (okg : Hid (okL [P, Q, G])) (oky : Hid (okL ys)) (oka : Hid (okL al)) (okr : Hid (∀ k, k < rows.length → okL (rows.getD k noRow).xs))
    (hQ1 : 2 ≤ Q) (hQ2 : Q < 2305843009213693952) (V : Int) (hV : Kp (chalV P Q G (bys s) ys rows al = V)) (w : World) (hv : Hid (VarsD w)) (hY : Hid (Sl w Y ys)) (hB : Hid (Rw w B rows)) (hA : Hid (Sl w A al)) :
    Calls Tryz.prog 54 #[gv P Q G, .agg #[.slice Y yn yc, .slice B bn bc], .slice A na ca, .string s] w fun e w' => e = .returned (.tuple #[.int .i64 V, .int .i64 0]) ∧ Below w.heap.size w w' := by
  obtain ⟨W, hW⟩ : ∃ W, (w.alloc (gObj P Q G)).alloc (.cells #[.slice Y yn yc, .slice B bn bc] 27) = W := ⟨_, rfl⟩
  have HBX : Hid (Below w.heap.size w W) := Lib.hid (by rw [← hW]; exact below_two (Below.refl _ _))
  have HGX : Hid (GBox W w.heap.size P Q G) := Lib.hid (by rw [← hW]; exact (gbox_alloc w P Q G).below (below_box0 _ _))
  have HRX : Hid (RBox W (w.heap.size + 1) (.slice Y yn yc) (.slice B bn bc)) := Lib.hid (by rw [← hW]; exact rbox_alloc1 w _ _ _ _)
  have HV := Lib.hid (hv.out.below HBX.out)
  have HYY := Lib.hid (hY.out.below HBX.out)
  have HBB := Lib.hid (hB.out.below HBX.out)
  have HAA := Lib.hid (hA.out.below HBX.out)
  have HW := Lib.hid hW
  clear hW hv hY hB hA
  go_enter Tryz.func54, Tryz.ntmps54
  go_upto_region 1 with (fail)
  rw [HW.out]
  clear HW
  go_wp2_with fail
  refine (tnew_ok s hs hr _ HV).mono ?_
  rintro e w1 ⟨rfl, hb1⟩
  obtain ⟨S0, hS0⟩ : ∃ S, newL (bys s) = S := ⟨_, rfl⟩
  have HS0 : Hid (St32 S0) := Lib.hid (by rw [← hS0]; exact st_new _)
  have HV0 : Kp (chN Q (absL (chRows (absL (absL S0 (bys lbGroup) [P, Q, G]) (bys lbY) ys) rows) (bys lbCommit) al) (bys lbCh) = V) := ⟨by rw [← hS0]; exact hV.1⟩
  rw [hS0, show TrE S0 0 0 = .tuple #[.agg (tcs S0 0), .int .i64 0] from rfl]
  have HB1 := Lib.hid hb1
  have HL0 := Lib.hid HS0.out.1
  clear hb1 hS0 hV
  have HTz : Hid (TBlk ((w1.alloc (.cells #[.int .u8 0, .int .u8 0, .int .u8 0, .int .u8 0, .int .u8 0, .int .u8 0, .int .u8 0, .int .u8 0, .int .u8 0, .int .u8 0, .int .u8 0, .int .u8 0, .int .u8 0, .int .u8 0, .int .u8 0, .int .u8 0, .int .u8 0, .int .u8 0, .int .u8 0, .int .u8 0, .int .u8 0, .int .u8 0, .int .u8 0, .int .u8 0, .int .u8 0, .int .u8 0, .int .u8 0, .int .u8 0, .int .u8 0, .int .u8 0, .int .u8 0, .int .u8 0, .int .i64 0] 87)).alloc (.cells #[.int .i64 0] 42)) w1.heap.size (zer 32) 0) := Lib.hid (by rw [ztr]; exact heap_alloc2_old _ _ _)
  have HEz : Hid (Own ((w1.alloc (.cells #[.int .u8 0, .int .u8 0, .int .u8 0, .int .u8 0, .int .u8 0, .int .u8 0, .int .u8 0, .int .u8 0, .int .u8 0, .int .u8 0, .int .u8 0, .int .u8 0, .int .u8 0, .int .u8 0, .int .u8 0, .int .u8 0, .int .u8 0, .int .u8 0, .int .u8 0, .int .u8 0, .int .u8 0, .int .u8 0, .int .u8 0, .int .u8 0, .int .u8 0, .int .u8 0, .int .u8 0, .int .u8 0, .int .u8 0, .int .u8 0, .int .u8 0, .int .u8 0, .int .i64 0] 87)).alloc (.cells #[.int .i64 0] 42)) ⟨w1.heap.size + 1, 0, none⟩ (.int .i64 0)) := Lib.hid ⟨cell_blk (heap_alloc2_new _ _ _) 0, frozen_blk (heap_alloc2_new _ _ _) 0⟩
  have HEy := Lib.hid (own_setRow (a := w1.heap.size) (cs := tcs S0 0) HEz.out (show w1.heap.size + 1 ≠ w1.heap.size by omega))
  obtain ⟨q1, q2⟩ := HEy.out
  go_upto_region 2 with ((with_reducible show wpList _ _ _ (⟨none, _, _, _, _, _⟩ :: _) _ _); refine wpList_store_row rfl 87 _ _ rfl w1.heap.size (tcs S0 0) rfl rfl _ _ HTz.out (tr_info HL0.out) (tcs_sz (h := zer 32) (c := 0) rfl HL0.out) (tcs_one _ _) ?_)
  clear q1 q2 HTz HEz HEy
  have hI2 := two_boxes (w1 := w1) (c := 0) (x := 0) HL0.out
  obtain ⟨W2, hW2⟩ : ∃ u, ((((w1.alloc (.cells #[.int .u8 0, .int .u8 0, .int .u8 0, .int .u8 0, .int .u8 0, .int .u8 0, .int .u8 0, .int .u8 0, .int .u8 0, .int .u8 0, .int .u8 0, .int .u8 0, .int .u8 0, .int .u8 0, .int .u8 0, .int .u8 0, .int .u8 0, .int .u8 0, .int .u8 0, .int .u8 0, .int .u8 0, .int .u8 0, .int .u8 0, .int .u8 0, .int .u8 0, .int .u8 0, .int .u8 0, .int .u8 0, .int .u8 0, .int .u8 0, .int .u8 0, .int .u8 0, .int .i64 0] 87)).alloc (.cells #[.int .i64 0] 42)).setRow w1.heap.size (tcs S0 0)).setCell ⟨w1.heap.size + 1, 0, none⟩ (.int .i64 0)) = u := ⟨_, rfl⟩
  rw [hW2] at hI2 ⊢
  obtain ⟨a, ha⟩ : ∃ a, w1.heap.size = a := ⟨_, rfl⟩
  have hWa : W.heap.size ≤ a := by rw [← ha]; exact HB1.out.size
  have hI2' : LcI W a S0 0 0 W2 := ⟨by rw [← ha]; exact hI2.1, by rw [← ha]; exact hI2.2.1, below_ext HB1.out hI2.2.2⟩
  rw [ha]
  have HI2 := Lib.hid hI2'
  clear hW2 hI2 hI2' ha HB1
  obtain ⟨c0, c1, c2⟩ := HGX.out.below HI2.out.2.2
  go_wp2_with fail
  refine (absorb_st W a hWa S0 HS0 0 (by omega) (by omega) lbGroup (by decide) labGroup (some ⟨W2.heap.size, 0, none⟩) [P, Q, G] 3 3 (Lib.hid rfl) okg _ HV (Lib.hid (sl_of_cells (cells3l W2 _ P Q G))) (Lib.hid (HI2.out.alloc _))).mono ?_
  rintro e w3 ⟨⟨v3, rfl⟩, hI3⟩
  clear c0 c1 c2 HI2
  obtain ⟨S1, hS1⟩ : ∃ S, absL S0 (bys lbGroup) [P, Q, G] = S := ⟨_, rfl⟩
  have HS1 : Hid (St32 S1) := Lib.hid (by rw [← hS1]; exact st_abs _ _ _)
  have HV1 : Kp (chN Q (absL (chRows (absL S1 (bys lbY) ys) rows) (bys lbCommit) al) (bys lbCh) = V) := ⟨by rw [← hS1]; exact HV0.1⟩
  rw [hS1] at hI3
  have HI3 := Lib.hid hI3
  clear hI3 hS1 HV0
  obtain ⟨d0, d1⟩ := HRX.out.below HI3.out.2.2
  go_wp2_with fail
  refine (absorb_st W a hWa S1 HS1 (0 + 1) (by omega) (by omega) lbY (by decide) labY Y ys yn yc hyn oky _ HV (Lib.hid (HYY.out.below HI3.out.2.2)) HI3).mono ?_
  rintro e w4 ⟨⟨v4, rfl⟩, hI4⟩
  clear d0 d1 HI3
  obtain ⟨S2, hS2⟩ : ∃ S, absL S1 (bys lbY) ys = S := ⟨_, rfl⟩
  have HS2 : Hid (St32 S2) := Lib.hid (by rw [← hS2]; exact st_abs _ _ _)
  have HV2 : Kp (chN Q (absL (chRows S2 rows) (bys lbCommit) al) (bys lbCh) = V) := ⟨by rw [← hS2]; exact HV1.1⟩
  rw [hS2] at hI4
  have HI4 := Lib.hid hI4
  clear hI4 hS2 HV1
  obtain ⟨S3, hS3⟩ : ∃ S, chRows S2 rows = S := ⟨_, rfl⟩
  have HR3 : Kp (chRows S2 (rows.drop 0) = S3) := ⟨hS3⟩
  have HV3 : Kp (chN Q (absL S3 (bys lbCommit) al) (bys lbCh) = V) := ⟨by rw [← hS3]; exact HV2.1⟩
  clear hS3 HV2
  obtain ⟨d0, d1⟩ := HRX.out.below HI4.out.2.2
  go_wp2_with fail
  clear d0 d1
  go_loopw [39] (fun i u => ∃ (k : Nat) (S : List Int), k ≤ bn ∧ i = .int .i64 k ∧ Hid (St32 S) ∧ Kp (chRows S (rows.drop k) = S3) ∧ Hid (LcI W a S (2 + k) 0 u)) (fun i _ => bn - (intOf i).toNat)
  case atStart => exact ⟨0, S2, by omega, rfl, HS2, HR3, HI4⟩
  case round =>
    obtain ⟨k, S, hk, rfl, HS, HR, HI⟩ := hrel
    by_cases hlt : k < bn
    · have hkl : k < rows.length := by rw [hbn.out]; exact hlt
      obtain ⟨⟨b, o, hA, hi0⟩, hok⟩ := HBB.out.below HI.out.2.2 k hkl
      subst hA
      have HRN := Kp.mk ((chRows_step (h := S) hkl).symm.trans HR.1)
      have HOK := Lib.hid (okr.out k hkl)
      obtain ⟨R, hR⟩ : ∃ R, rows.getD k noRow = R := ⟨_, rfl⟩
      rw [hR] at hi0 hok HRN HOK
      obtain ⟨p, rn, rc, xs⟩ := R
      have HL := Lib.hid hok.1
      have HX := Lib.hid hok.2
      dsimp only [Row.val] at hi0 HRN HOK
      clear hR hok hkl
      go_wp2_with fail
      refine (absorb_st W a hWa S HS (2 + k) (by omega) (by omega) lbBases (by decide) labBases p xs rn rc HL HOK _ HV HX HI).mono ?_
      rintro e w5 ⟨⟨v5, rfl⟩, hI5⟩
      obtain ⟨S', hS'⟩ : ∃ S', absL S (bys lbBases) xs = S' := ⟨_, rfl⟩
      have HS' : Hid (St32 S') := Lib.hid (by rw [← hS']; exact st_abs _ _ _)
      have HRR : Kp (chRows S' (rows.drop (k + 1)) = S3) := ⟨by rw [← hS']; exact HRN.1⟩
      rw [hS', show (2 + (k : Int) + 1) = 2 + ((k + 1 : Nat) : Int) by omega] at hI5
      have HI5 := Lib.hid hI5
      clear hI5 hS' HRN hi0
      go_wp2
      go_roundw
      case rel => exact ⟨k + 1, S', by omega, by go_num, HS', HRR, HI5⟩
      case measure => simp [intOf]; omega
    · obtain rfl : k = bn := by omega
      have hd : rows.drop k = [] := List.drop_of_length_le (by rw [hbn.out]; exact Nat.le_refl _)
      have HSE : Kp (S = S3) := ⟨by have h := HR.1; rwa [hd] at h⟩
      have HV4 : Kp (chN Q (absL S (bys lbCommit) al) (bys lbCh) = V) := ⟨by rw [HSE.1]; exact HV3.1⟩
      clear hd HR HSE HV3 hlt
      go_wp2_with fail
      refine (absorb_st W a hWa S HS (2 + k) (by omega) (by omega) lbCommit (by decide) labCommit A al na ca hna oka _ HV (Lib.hid (HAA.out.below HI.out.2.2)) HI).mono ?_
      rintro e w6 ⟨⟨v6, rfl⟩, hI6⟩
      obtain ⟨S4, hS4⟩ : ∃ S', absL S (bys lbCommit) al = S' := ⟨_, rfl⟩
      have HS4 : Hid (St32 S4) := Lib.hid (by rw [← hS4]; exact st_abs _ _ _)
      have HV5 : Kp (chN Q S4 (bys lbCh) = V) := ⟨by rw [← hS4]; exact HV4.1⟩
      rw [hS4] at hI6
      have HI6 := Lib.hid hI6
      have HL4 := Lib.hid HS4.out.1
      clear hI6 hS4 HV4 HI
      obtain ⟨z0, z1⟩ := HI6.out.2.1
      obtain ⟨c0, c1, c2⟩ := HGX.out.below HI6.out.2.2
      have HT6 := Lib.hid HI6.out.1
      go_wp2_with ((with_reducible show wpList _ _ _ (⟨some 54, _, _, _, _, _⟩ :: _) _ _); refine wpList_load_row rfl 87 _ rfl a rfl _ _ _ _ HT6.out Tryz.underlying87 rfl (tr_info HL4.out) ?_)
      refine (tchal_ok S4 HL4 (Lib.hid HS4.out.2) (2 + k + 1) (by omega) (by omega) lbCh (by decide) labCh Q hQ1 hQ2 _ (Lib.hid (HV.out.below HI6.out.2.2))).mono ?_
      rintro e w7 ⟨rfl, hb7⟩
      obtain ⟨G4, hG4⟩ : ∃ G4, chL Q S4 (bys lbCh) = G4 := ⟨_, rfl⟩
      have HG4 : Hid (G4.length = 32) := Lib.hid (by rw [← hG4]; exact abL_len _ _ _)
      rw [hG4, HV5.1, show ChE G4 (2 + (k : Int) + 1 + 1) V 0 = .tuple #[.agg (tcs G4 (2 + (k : Int) + 1 + 1)), .int .i64 V, .int .i64 0] from rfl]
      have HI7 := Lib.hid (HI6.out.below hb7)
      obtain ⟨y0, y1⟩ := HI7.out.2.1
      clear hb7 hG4 z0 z1 c0 c1 c2
      have HTy : Hid (TBlk (w7.alloc (.cells #[.int .u8 0, .int .u8 0, .int .u8 0, .int .u8 0, .int .u8 0, .int .u8 0, .int .u8 0, .int .u8 0, .int .u8 0, .int .u8 0, .int .u8 0, .int .u8 0, .int .u8 0, .int .u8 0, .int .u8 0, .int .u8 0, .int .u8 0, .int .u8 0, .int .u8 0, .int .u8 0, .int .u8 0, .int .u8 0, .int .u8 0, .int .u8 0, .int .u8 0, .int .u8 0, .int .u8 0, .int .u8 0, .int .u8 0, .int .u8 0, .int .u8 0, .int .u8 0, .int .i64 0] 87)) w7.heap.size (zer 32) 0) := Lib.hid (by rw [ztr]; exact heap_alloc_new _ _)
      have HEw := Lib.hid (own_setRow (a := w7.heap.size) (cs := tcs G4 (2 + (k : Int) + 1 + 1)) (HI7.out.2.1.below (below_box0 w7 (.cells #[.int .u8 0, .int .u8 0, .int .u8 0, .int .u8 0, .int .u8 0, .int .u8 0, .int .u8 0, .int .u8 0, .int .u8 0, .int .u8 0, .int .u8 0, .int .u8 0, .int .u8 0, .int .u8 0, .int .u8 0, .int .u8 0, .int .u8 0, .int .u8 0, .int .u8 0, .int .u8 0, .int .u8 0, .int .u8 0, .int .u8 0, .int .u8 0, .int .u8 0, .int .u8 0, .int .u8 0, .int .u8 0, .int .u8 0, .int .u8 0, .int .u8 0, .int .u8 0, .int .i64 0] 87))) (show a + 1 ≠ w7.heap.size by have := HI7.out.1.lt; have := World.block_lt_of_cell? _ _ y0; simp at this; omega))
      obtain ⟨x0, x1⟩ := HEw.out
      go_wp2_with ((with_reducible show wpList _ _ _ (⟨none, _, _, _, _, _⟩ :: _) _ _); refine wpList_store_row rfl 87 _ _ rfl w7.heap.size (tcs G4 (2 + (k : Int) + 1 + 1)) rfl rfl _ _ HTy.out (tr_info HG4.out) (tcs_sz (h := zer 32) (c := 0) rfl HG4.out) (tcs_one _ _) ?_)
      have hZ := own_set_eq2 (u := .int .i64 0) HEw.out
      have hBF : Below w.heap.size w (((w7.alloc (.cells #[.int .u8 0, .int .u8 0, .int .u8 0, .int .u8 0, .int .u8 0, .int .u8 0, .int .u8 0, .int .u8 0, .int .u8 0, .int .u8 0, .int .u8 0, .int .u8 0, .int .u8 0, .int .u8 0, .int .u8 0, .int .u8 0, .int .u8 0, .int .u8 0, .int .u8 0, .int .u8 0, .int .u8 0, .int .u8 0, .int .u8 0, .int .u8 0, .int .u8 0, .int .u8 0, .int .u8 0, .int .u8 0, .int .u8 0, .int .u8 0, .int .u8 0, .int .u8 0, .int .i64 0] 87)).setRow w7.heap.size (tcs G4 (2 + (k : Int) + 1 + 1))).setCell ⟨a + 1, 0, none⟩ (.int .i64 0)) := by
        have h1 := below_ext HI7.out.2.2 (below_setRow' (cs := tcs G4 (2 + (k : Int) + 1 + 1)) (below_box0 w7 (.cells #[.int .u8 0, .int .u8 0, .int .u8 0, .int .u8 0, .int .u8 0, .int .u8 0, .int .u8 0, .int .u8 0, .int .u8 0, .int .u8 0, .int .u8 0, .int .u8 0, .int .u8 0, .int .u8 0, .int .u8 0, .int .u8 0, .int .u8 0, .int .u8 0, .int .u8 0, .int .u8 0, .int .u8 0, .int .u8 0, .int .u8 0, .int .u8 0, .int .u8 0, .int .u8 0, .int .u8 0, .int .u8 0, .int .u8 0, .int .u8 0, .int .u8 0, .int .u8 0, .int .i64 0] 87)) (Nat.le_refl _))
        exact below_ext HBX.out (h1.setCell (by show W.heap.size ≤ a + 1; omega) _)
      have HBF := Lib.hid hBF
      have hz0 := hZ.1
      obtain ⟨W8, hW8⟩ : ∃ u, (((w7.alloc (.cells #[.int .u8 0, .int .u8 0, .int .u8 0, .int .u8 0, .int .u8 0, .int .u8 0, .int .u8 0, .int .u8 0, .int .u8 0, .int .u8 0, .int .u8 0, .int .u8 0, .int .u8 0, .int .u8 0, .int .u8 0, .int .u8 0, .int .u8 0, .int .u8 0, .int .u8 0, .int .u8 0, .int .u8 0, .int .u8 0, .int .u8 0, .int .u8 0, .int .u8 0, .int .u8 0, .int .u8 0, .int .u8 0, .int .u8 0, .int .u8 0, .int .u8 0, .int .u8 0, .int .i64 0] 87)).setRow w7.heap.size (tcs G4 (2 + (k : Int) + 1 + 1))).setCell ⟨a + 1, 0, none⟩ (.int .i64 0)) = u := ⟨_, rfl⟩
      rw [hW8] at hz0 HBF ⊢
      clear hZ hBF hW8 x0 x1 HEw HTy y0 y1
      go_region
      go_wp2
      go_ret2
      exact ⟨rfl, below_drawN HBF.out _⟩
set_option maxHeartbeats 6400000 in
theorem lchal_bad (P Q G : Int) (Y : Option Addr) (ys : List Int) (yn yc : Nat) (B : Option Addr) (rows : List Row) (bn bc : Nat) (A : Option Addr) (al : List Int) (na ca : Nat) (s : ByteArray) (hs : s.size ≤ 1000) (hr : Hid (labB (bys s) = false))
    (hbn : Hid (rows.length = bn)) (hb9 : bn ≤ 900) (w : World) (hB : Hid (Rw w B rows)) :
    Calls Tryz.prog 54 #[gv P Q G, .agg #[.slice Y yn yc, .slice B bn bc], .slice A na ca, .string s] w fun e w' => e = .returned (.tuple #[.int .i64 0, .int .i64 1]) ∧ Below w.heap.size w w' := by
  obtain ⟨W, hW⟩ : ∃ W, (w.alloc (gObj P Q G)).alloc (.cells #[.slice Y yn yc, .slice B bn bc] 27) = W := ⟨_, rfl⟩
  have HBX : Hid (Below w.heap.size w W) := Lib.hid (by rw [← hW]; exact below_two (Below.refl _ _))
  have HGX : Hid (GBox W w.heap.size P Q G) := Lib.hid (by rw [← hW]; exact (gbox_alloc w P Q G).below (below_box0 _ _))
  have HRX : Hid (RBox W (w.heap.size + 1) (.slice Y yn yc) (.slice B bn bc)) := Lib.hid (by rw [← hW]; exact rbox_alloc1 w _ _ _ _)
  have HBB := Lib.hid (hB.out.below HBX.out)
  have HW := Lib.hid hW
  clear hW hB
  go_enter Tryz.func54, Tryz.ntmps54
  go_upto_region 1 with (fail)
  rw [HW.out]
  clear HW
  go_wp2_with fail
  refine (tnew_bad s hs hr _).mono ?_
  rintro e w1 ⟨rfl, hb1⟩
  obtain ⟨S0, hS0⟩ : ∃ S, zer 32 = S := ⟨_, rfl⟩
  have HL0 : Hid (S0.length = 32) := Lib.hid (by rw [← hS0]; rfl)
  rw [hS0, show TrE S0 0 1 = .tuple #[.agg (tcs S0 0), .int .i64 1] from rfl]
  have HB1 := Lib.hid hb1
  clear hb1 hS0
  have HTz : Hid (TBlk ((w1.alloc (.cells #[.int .u8 0, .int .u8 0, .int .u8 0, .int .u8 0, .int .u8 0, .int .u8 0, .int .u8 0, .int .u8 0, .int .u8 0, .int .u8 0, .int .u8 0, .int .u8 0, .int .u8 0, .int .u8 0, .int .u8 0, .int .u8 0, .int .u8 0, .int .u8 0, .int .u8 0, .int .u8 0, .int .u8 0, .int .u8 0, .int .u8 0, .int .u8 0, .int .u8 0, .int .u8 0, .int .u8 0, .int .u8 0, .int .u8 0, .int .u8 0, .int .u8 0, .int .u8 0, .int .i64 0] 87)).alloc (.cells #[.int .i64 0] 42)) w1.heap.size (zer 32) 0) := Lib.hid (by rw [ztr]; exact heap_alloc2_old _ _ _)
  have HEz : Hid (Own ((w1.alloc (.cells #[.int .u8 0, .int .u8 0, .int .u8 0, .int .u8 0, .int .u8 0, .int .u8 0, .int .u8 0, .int .u8 0, .int .u8 0, .int .u8 0, .int .u8 0, .int .u8 0, .int .u8 0, .int .u8 0, .int .u8 0, .int .u8 0, .int .u8 0, .int .u8 0, .int .u8 0, .int .u8 0, .int .u8 0, .int .u8 0, .int .u8 0, .int .u8 0, .int .u8 0, .int .u8 0, .int .u8 0, .int .u8 0, .int .u8 0, .int .u8 0, .int .u8 0, .int .u8 0, .int .i64 0] 87)).alloc (.cells #[.int .i64 0] 42)) ⟨w1.heap.size + 1, 0, none⟩ (.int .i64 0)) := Lib.hid ⟨cell_blk (heap_alloc2_new _ _ _) 0, frozen_blk (heap_alloc2_new _ _ _) 0⟩
  have HEy := Lib.hid (own_setRow (a := w1.heap.size) (cs := tcs S0 0) HEz.out (show w1.heap.size + 1 ≠ w1.heap.size by omega))
  obtain ⟨q1, q2⟩ := HEy.out
  go_upto_region 2 with ((with_reducible show wpList _ _ _ (⟨none, _, _, _, _, _⟩ :: _) _ _); refine wpList_store_row rfl 87 _ _ rfl w1.heap.size (tcs S0 0) rfl rfl _ _ HTz.out (tr_info HL0.out) (tcs_sz (h := zer 32) (c := 0) rfl HL0.out) (tcs_one _ _) ?_)
  clear q1 q2 HTz HEz HEy
  have hI2 := two_boxes (w1 := w1) (c := 0) (x := 1) HL0.out
  obtain ⟨W2, hW2⟩ : ∃ u, ((((w1.alloc (.cells #[.int .u8 0, .int .u8 0, .int .u8 0, .int .u8 0, .int .u8 0, .int .u8 0, .int .u8 0, .int .u8 0, .int .u8 0, .int .u8 0, .int .u8 0, .int .u8 0, .int .u8 0, .int .u8 0, .int .u8 0, .int .u8 0, .int .u8 0, .int .u8 0, .int .u8 0, .int .u8 0, .int .u8 0, .int .u8 0, .int .u8 0, .int .u8 0, .int .u8 0, .int .u8 0, .int .u8 0, .int .u8 0, .int .u8 0, .int .u8 0, .int .u8 0, .int .u8 0, .int .i64 0] 87)).alloc (.cells #[.int .i64 0] 42)).setRow w1.heap.size (tcs S0 0)).setCell ⟨w1.heap.size + 1, 0, none⟩ (.int .i64 1)) = u := ⟨_, rfl⟩
  rw [hW2] at hI2 ⊢
  obtain ⟨a, ha⟩ : ∃ a, w1.heap.size = a := ⟨_, rfl⟩
  have hI2' : LcI W a S0 0 1 W2 := ⟨by rw [← ha]; exact hI2.1, by rw [← ha]; exact hI2.2.1, below_ext HB1.out hI2.2.2⟩
  rw [ha]
  have HI2 := Lib.hid hI2'
  clear hW2 hI2 hI2' ha HB1
  obtain ⟨c0, c1, c2⟩ := HGX.out.below HI2.out.2.2
  go_wp2_with fail
  refine (absorb_no (some ⟨W2.heap.size, 0, none⟩) 3 3 lbGroup a (a + 1) 1 rfl _ (Lib.hid (HI2.out.alloc _).2.1)).mono ?_
  rintro e w3 ⟨⟨v3, rfl⟩, rfl⟩
  have HI3 := Lib.hid (HI2.out.alloc (.cells #[.int .i64 P, .int .i64 Q, .int .i64 G] 3))
  obtain ⟨W3, hW3⟩ : ∃ u, W2.alloc (.cells #[.int .i64 P, .int .i64 Q, .int .i64 G] 3) = u := ⟨_, rfl⟩
  rw [hW3] at HI3 ⊢
  clear c0 c1 c2 HI2 hW3
  obtain ⟨d0, d1⟩ := HRX.out.below HI3.out.2.2
  go_wp2_with fail
  refine (absorb_no Y yn yc lbY a (a + 1) 1 rfl _ (Lib.hid HI3.out.2.1)).mono ?_
  rintro e w4 ⟨⟨v4, rfl⟩, rfl⟩
  go_wp2_with fail
  clear d0 d1
  go_loopw [39] (fun i u => ∃ (k : Nat), k ≤ bn ∧ i = .int .i64 k ∧ Hid (LcI W a S0 0 1 u)) (fun i _ => bn - (intOf i).toNat)
  case atStart => exact ⟨0, by omega, rfl, HI3⟩
  case round =>
    obtain ⟨k, hk, rfl, HI⟩ := hrel
    by_cases hlt : k < bn
    · have hkl : k < rows.length := by rw [hbn.out]; exact hlt
      obtain ⟨⟨b, o, hA, hi0⟩, hok⟩ := HBB.out.below HI.out.2.2 k hkl
      subst hA
      obtain ⟨R, hR⟩ : ∃ R, rows.getD k noRow = R := ⟨_, rfl⟩
      rw [hR] at hi0 hok
      obtain ⟨p, rn, rc, xs⟩ := R
      dsimp only [Row.val] at hi0
      clear hR hok hkl
      go_wp2_with fail
      refine (absorb_no p rn rc lbBases a (a + 1) 1 rfl _ (Lib.hid HI.out.2.1)).mono ?_
      rintro e w5 ⟨⟨v5, rfl⟩, rfl⟩
      clear hi0
      go_wp2
      go_roundw
      case rel => exact ⟨k + 1, by omega, by go_num, HI⟩
      case measure => simp [intOf]; omega
    · go_wp2_with fail
      refine (absorb_no A na ca lbCommit a (a + 1) 1 rfl _ (Lib.hid HI.out.2.1)).mono ?_
      rintro e w6 ⟨⟨v6, rfl⟩, rfl⟩
      obtain ⟨z0, z1⟩ := HI.out.2.1
      have HBF := Lib.hid (below_ext HBX.out HI.out.2.2)
      go_wp2
      go_region
      go_wp2
      go_ret2
      exact ⟨rfl, below_drawN HBF.out _⟩
end Go.Proofs.YtcmidgdhihmppaaGreatDoor
namespace Go.Proofs.YtcmidgdhihmppaaGreatDoor
open Go.RowKit SpM
set_option linter.unusedVariables false
set_option linter.unusedSimpArgs false
set_option maxRecDepth 20000
theorem scB_neg {Q x : Int} (h : x < 0) : scB Q x = false := by simp [scB]; omega
theorem scB_big {Q x : Int} (h : Q ≤ x) : scB Q x = false := by simp [scB]; omega
theorem scB_in {Q x : Int} (h0 : ¬ x < 0) (h1 : ¬ Q ≤ x) : scB Q x = true := by simp [scB]; omega
theorem all_step {f : Int → Bool} {xs : List Int} {k : Nat} (hk : k < xs.length) (h : f (xs.getD k 0) = true) : (xs.drop k).all f = (xs.drop (k + 1)).all f := by
  rw [List.drop_eq_getElem_cons hk, List.all_cons]
  rw [List.getD_eq_getElem?_getD, List.getElem?_eq_getElem hk] at h
  simp at h
  rw [h, Bool.true_and]
theorem all_hit {f : Int → Bool} {xs : List Int} {k : Nat} (hk : k < xs.length) (h : f (xs.getD k 0) = false) : (xs.drop k).all f = false := by
  rw [List.drop_eq_getElem_cons hk, List.all_cons]
  rw [List.getD_eq_getElem?_getD, List.getElem?_eq_getElem hk] at h
  simp at h
  rw [h, Bool.false_and]
set_option maxHeartbeats 3200000 in
theorem rscalars_any (P Q G : Int) (A : Option Addr) (xs : List Int) (n c : Nat) (r : Bool) (hr : Hid (xs.all (scB Q) = r)) (hn : Hid (xs.length = n)) (hbig : n < 1000000) (w : World) (hs : Hid (Sl w A xs)) :
    Calls Tryz.prog 16 #[gv P Q G, .slice A n c] w fun e' w' => e' = .returned (.bool r) ∧ Below w.heap.size w w' := by
  have HBX := Lib.hid (below_box0 w (gObj P Q G))
  have HX0 := Lib.hid (gbox_alloc w P Q G)
  have HS0 := Lib.hid (hs.out.below HBX.out)
  obtain ⟨W, hW⟩ : ∃ W, w.alloc (gObj P Q G) = W := ⟨_, rfl⟩
  rw [hW] at HX0 HS0 HBX
  have HW := Lib.hid hW
  clear hW hs
  go_enter Tryz.func16, Tryz.ntmps16
  go_wp2
  rw [HW.out]
  go_loopw [5] (fun i wr => ∃ k : Nat, k ≤ n ∧ i = .int .i64 k ∧ Hid ((xs.drop k).all (scB Q) = r) ∧ Hid (Below W.heap.size W wr)) (fun i _ => n - (intOf i).toNat)
  case atStart => exact ⟨0, by omega, rfl, Lib.hid (by rw [List.drop_zero]; exact hr.out), Lib.hid (Below.refl _ _)⟩
  case round =>
    obtain ⟨k, hk, rfl, HR, HBr⟩ := hrel
    by_cases hlt : k < n
    · have hkl : k < xs.length := by rw [hn.out]; exact hlt
      obtain ⟨b, o, hA, hi⟩ := HS0.out.below HBr.out k hkl
      subst hA
      obtain ⟨c0, c1, c2⟩ := HX0.out.below HBr.out
      by_cases h0 : xs.getD k 0 < 0
      · have hf : scB Q (xs.getD k 0) = false := scB_neg h0
        obtain rfl : r = false := HR.out.symm.trans (all_hit hkl hf)
        obtain ⟨x, hx⟩ : ∃ x, xs.getD k 0 = x := ⟨_, rfl⟩
        rw [hx] at hi h0
        have d0 : decide (x < 0) = true := by simp; omega
        have hbF := fun q => below_drawN (below_ext HBX.out HBr.out) q
        clear hx hf hkl HR
        go_wp2
        go_quiet (fail)
        go_wp2
        go_ret
        exact ⟨rfl, hbF _⟩
      · by_cases h1 : Q ≤ xs.getD k 0
        · have hf : scB Q (xs.getD k 0) = false := scB_big h1
          obtain rfl : r = false := HR.out.symm.trans (all_hit hkl hf)
          obtain ⟨x, hx⟩ : ∃ x, xs.getD k 0 = x := ⟨_, rfl⟩
          rw [hx] at hi h0 h1
          have d0 : decide (x < 0) = false := by simp; omega
          have d1 : decide (Q ≤ x) = true := by simp; omega
          have hbF := fun q => below_drawN (below_ext HBX.out HBr.out) q
          clear hx hf hkl HR
          go_wp2
          go_quiet (fail)
          go_wp2
          go_ret
          exact ⟨rfl, hbF _⟩
        · have hf : scB Q (xs.getD k 0) = true := scB_in h0 h1
          have HR2 : Hid ((xs.drop (k + 1)).all (scB Q) = r) := Lib.hid ((all_step hkl hf).symm.trans HR.out)
          obtain ⟨x, hx⟩ : ∃ x, xs.getD k 0 = x := ⟨_, rfl⟩
          rw [hx] at hi h0 h1
          have d0 : decide (x < 0) = false := by simp; omega
          have d1 : decide (Q ≤ x) = false := by simp; omega
          have HB2 := Lib.hid (fun q => below_drawN HBr.out q)
          clear hx hf hkl HR
          go_wp2
          go_quiet (fail)
          go_wp2
          go_roundw
          case rel => exact ⟨k + 1, by omega, by go_num, HR2, Lib.hid (HB2.out _)⟩
          case measure => simp [intOf]; omega
    · obtain rfl : k = n := by omega
      obtain rfl : r = true := by rw [← HR.out, ← hn.out, List.drop_length]; rfl
      have hbF := below_ext HBX.out HBr.out
      clear HR hlt
      go_wp2
      go_ret
      exact ⟨rfl, hbF⟩
set_option maxHeartbeats 6400000 in
theorem rproduct_any (P Q G : Int) (A : Option Addr) (xs : List Int) (n c : Nat) (E : Option Addr) (es : List Int) (m d : Nat) (V : Int) (hV : Hid (prodF P 1 xs es = V)) (hn : Hid (xs.length = n)) (hm : Hid (es.length = m)) (hnm : n ≤ m) (hbig : m < 1000000)
    (hx : Hid (xs.all (memG P Q) = true)) (he : Hid (es.all (scB Q) = true)) (hp2 : 2 ≤ P) (hp : P < 2305843009213693952) (hQ : Q < 9223372036854775808) (w : World) (hA : Hid (Sl w A xs)) (hE : Hid (Sl w E es)) :
    Calls Tryz.prog 53 #[gv P Q G, .slice A n c, .slice E m d] w fun e' w' => e' = .returned (.int .i64 V) ∧ Below w.heap.size w w' := by
  have HBX := Lib.hid (below_box0 w (gObj P Q G))
  have HX0 := Lib.hid (gbox_alloc w P Q G)
  have HA0 := Lib.hid (hA.out.below HBX.out)
  have HE0 := Lib.hid (hE.out.below HBX.out)
  obtain ⟨W, hW⟩ : ∃ W, w.alloc (gObj P Q G) = W := ⟨_, rfl⟩
  rw [hW] at HX0 HA0 HE0 HBX
  have HW := Lib.hid hW
  clear hW hA hE
  go_enter Tryz.func53, Tryz.ntmps53
  go_wp2
  rw [HW.out]
  go_loopw [7, 8] (fun y i wr => ∃ (k : Nat) (acc : Int), k ≤ n ∧ y = .int .i64 acc ∧ i = .int .i64 k ∧ 0 ≤ acc ∧ acc < P ∧ Hid (prodF P acc (xs.drop k) (es.drop k) = V) ∧ Hid (Below W.heap.size W wr)) (fun _ i _ => n - (intOf i).toNat)
  case atStart => exact ⟨0, 1, by omega, rfl, rfl, by omega, by omega, prodF_start hV, Lib.hid (Below.refl _ _)⟩
  case round =>
    obtain ⟨k, acc, hk, rfl, rfl, a0, a1, HJ, HBr⟩ := hrel
    by_cases hlt : k < n
    · have hkl : k < xs.length := by rw [hn.out]; exact hlt
      have hkm : k < m := by omega
      have hke : k < es.length := by rw [hm.out]; exact hkm
      obtain ⟨b, o, hA, hi0⟩ := HA0.out.below HBr.out k hkl
      obtain ⟨b2, o2, hE, hi1⟩ := HE0.out.below HBr.out k hke
      subst hA
      subst hE
      obtain ⟨c0, c1, c2⟩ := HX0.out.below HBr.out
      have hm1 := all_get hx.out hkl
      have hm2 := all_get he.out hke
      have hst := prodF_step (P := P) (acc := acc) hkl hke
      obtain ⟨x, hxx⟩ : ∃ x, xs.getD k 0 = x := ⟨_, rfl⟩
      obtain ⟨ex, hee⟩ : ∃ x, es.getD k 0 = x := ⟨_, rfl⟩
      rw [hxx] at hi0 hm1 hst
      rw [hee] at hi1 hm2 hst
      have x0 := memG_lo hm1
      have x1 := memG_hi hm1
      have e0 := scB_lo hm2
      have e1 := scB_hi hm2
      obtain ⟨p, hp1⟩ : ∃ p, pw x ex P = p := ⟨_, rfl⟩
      obtain ⟨p0, p1⟩ : 0 ≤ p ∧ p < P := by rw [← hp1]; exact pw_lt _ _ _ (by omega)
      rw [hp1] at hst
      obtain ⟨acc2, hac⟩ : ∃ a, acc * p % P = a := ⟨_, rfl⟩
      rw [hac] at hst
      have q0 : 0 ≤ acc2 := by rw [← hac]; exact Int.emod_nonneg _ (by omega)
      have q1 : acc2 < P := by rw [← hac]; exact Int.emod_lt_of_pos _ (by omega)
      have HJ2 : Hid (prodF P acc2 (xs.drop (k + 1)) (es.drop (k + 1)) = V) := Lib.hid (hst.symm.trans HJ.out)
      have HP1 := Lib.hid hp1
      have HAC := Lib.hid hac
      have HB2 := Lib.hid (fun q => below_drawN HBr.out q)
      clear hm1 hm2 hst hxx hee hp1 hac hkl hke HJ
      go_wp2
      go_quiet ((first | (go_at_call 52; exact quiet_left (rpow_any x ex P p HP1 (by omega) hp (by omega) x1 e0 (by omega) _)) | (go_at_call 51; exact quiet_left (rmul_any acc p P acc2 HAC hp a0 a1 p0 p1 _))))
      go_wp2
      go_roundw
      case rel => exact ⟨k + 1, acc2, by omega, rfl, by go_num, q0, q1, HJ2, Lib.hid (HB2.out _)⟩
      case measure => simp [intOf]; omega
    · obtain rfl : k = n := by omega
      obtain rfl := prodF_end hn.out HJ
      have hbF := below_ext HBX.out HBr.out
      clear HJ hlt
      go_wp2
      go_ret
      exact ⟨rfl, hbF⟩
end Go.Proofs.YtcmidgdhihmppaaGreatDoor
