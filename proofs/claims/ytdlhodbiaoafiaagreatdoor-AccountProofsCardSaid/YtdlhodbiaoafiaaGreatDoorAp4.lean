/- Contracts and lemmas: RdgE, DigG, TrB, TrC, TrD, TrE, TrF, TrG, TrH, TrI, TrJ, LcA, LinD, LinF, LcB, LcD, KcA. -/
import Derived.Laws.AppendOwnNone
import Derived.Deep.AppendLies
import Derived.Deep.RegionHeld3
import Derived.Test.YtdlhodbiaoafiaaGreatDoorAp3
namespace Go.Proofs.YtdlhodbiaoafiaaGreatDoor
open Go.RowKit SpM
set_option linter.unusedVariables false
set_option linter.unusedSimpArgs false
set_option maxRecDepth 100000
theorem yields_row {P : Program} {S : World → Prop} {o : Oper} {a : Act} (ty : TypeId) (x : Operand) (ho : o.op = .load ty x)
    (g : Nat) (hx : a.eval x = .pointer (some ⟨g, 0, none⟩)) (t : TypeId) (cs : Array Value) (fr : Nat × Nat) (d : TypeDesc) (hg : ∀ w, S w → w.heap[g]? = some (.cells cs t fr))
    (hu : P.underlying ty = some d) (hd : (match d with | .struct _ | .array _ _ => true | _ => false) = true) (hi : (P.info? ty).map (·.size) = some cs.size) :
    ∀ w, S w → (execOp a.eval o).run P w = .ok (.value (.agg cs)) w := fun w hw => by
  unfold execOp
  simp only [ho, hx, Instr.loadAt, Instr.sureAddr, Sem.run_bind, Sem.run_pure, Result.andThen_ok, run_loadVar_row w g t ty cs fr d (hg w hw) hu hd hi]
set_option maxHeartbeats 3200000 in
theorem rtagged_any (s : ByteArray) (hs1 : 1 ≤ s.size) (hs2 : s.size ≤ 100) (b o c : Nat) (l : List Int) (n : Nat) (hn : Hid (l.length = n)) (hn0 : 0 < n) (hbig : n ≤ 900000) (hby : Hid (bytesB l = true)) (w : World) (hs : Hid (Sk .u8 w (some ⟨b, o, none⟩) l)) :
    Calls Tryz.prog 136 #[.string s, .slice (some ⟨b, o, none⟩) n c] w fun e w' => e = .returned (.agg (arr .u8 (tagged (bys s) l))) ∧ Below w.heap.size w w' := by
  obtain ⟨i0, hi, hz0, hz1, hz2⟩ := info_parts byteInfo
  obtain ⟨W, hW⟩ : ∃ W, w.alloc (.cells #[.int .u8 0, .int .u8 0, .int .u8 0, .int .u8 0, .int .u8 0, .int .u8 0, .int .u8 0, .int .u8 0, .int .u8 0, .int .u8 0, .int .u8 0, .int .u8 0, .int .u8 0, .int .u8 0, .int .u8 0, .int .u8 0, .int .u8 0, .int .u8 0, .int .u8 0, .int .u8 0, .int .u8 0, .int .u8 0, .int .u8 0, .int .u8 0, .int .u8 0, .int .u8 0, .int .u8 0, .int .u8 0, .int .u8 0, .int .u8 0, .int .u8 0, .int .u8 0] 54) = W := ⟨_, rfl⟩
  have HBX : Hid (Below w.heap.size w W) := Lib.hid (by rw [← hW]; exact below_box0 _ _)
  have HR0 : Hid (Blk .u8 54 W w.heap.size (zer 32)) := Lib.hid (by
    rw [← hW, zarrh]
    exact Blk.new _ _)
  have HSZ : Hid (W.heap.size = w.heap.size + 1) := Lib.hid (by rw [← hW]; simp)
  have HS := Lib.hid (hs.out.below HBX.out)
  have HW := Lib.hid hW
  have hcv := fun w => run_bytes_of_string (P := Tryz.prog) w 9 114 5 s Tryz.underlying9 Tryz.underlying114 Tryz.underlying5
  clear hW hs
  go_enter Tryz.func136, Tryz.ntmps136
  go_wp2_with fail
  rw [HW.out]
  clear hcv HW
  obtain ⟨Wc, hWc⟩ : ∃ u, (W.alloc (.cells (bytesRow s (grownCap W s.size 0 5)) 5 ((bytesRow s (grownCap W s.size 0 5)).size, (bytesRow s (grownCap W s.size 0 5)).size + 1))).drew = u := ⟨_, rfl⟩
  have HBc : Hid (Below W.heap.size W Wc) := Lib.hid (by rw [← hWc]; exact (below_box0 _ _).drew)
  have HSc : Hid (Sk .u8 Wc (some ⟨w.heap.size + 1, 0, none⟩) (bys s)) := Lib.hid (by
    rw [← hWc, ← HSZ.out]
    exact bys_sk (heap_alloc_new W _))
  obtain ⟨gc, hgc⟩ : ∃ g, grownCap W s.size 0 5 = g := ⟨_, rfl⟩
  rw [hWc, hgc]
  clear hWc hgc
  refine (rsum_any (w.heap.size + 1) 0 gc (bys s) s.size (Lib.hid (bys_len s)) (by omega) (by omega) (Lib.hid (bys_bytes s)) _ HSc).mono ?_
  rintro e w1 ⟨rfl, hb1⟩
  have HB1 := Lib.hid (below_ext HBc.out hb1)
  clear hb1 HSc HBc
  obtain ⟨t, ht⟩ : ∃ t, sha (bys s) = t := ⟨_, rfl⟩
  have htl : t.length = 32 := by rw [← ht]; exact sha_len _
  have htb : bytesB t = true := by rw [← ht]; exact sha_bytes _
  have HT : Kp (sha (bys s) = t) := ⟨ht⟩
  have HTL := Lib.hid htl
  have HTB := Lib.hid htb
  rw [ht]
  clear ht htl htb
  go_upto_region 2 with ((with_reducible show wpList _ _ _ (⟨none, _, _, _, _, _⟩ :: _) _ _); refine wpList_store_row rfl 54 _ _ rfl w1.heap.size (arr .u8 t) rfl rfl _ _ (heap_alloc_new _ _) (hash_info HTL.out) (arrs_sz (l := zer 32) rfl HTL.out) (arr_one _) ?_)
  rw [World.setRow_alloc_new]
  simp only [Act.put]
  have HB2 := Lib.hid (below_ext HB1.out (below_box0 w1 (.cells (arr .u8 t) 54)))
  have HT2 : Hid (Blk .u8 54 (w1.alloc (.cells (arr .u8 t) 54)) w1.heap.size t) := Lib.hid (Blk.new _ _)
  obtain ⟨W2, hW2⟩ : ∃ u, w1.alloc (.cells (arr .u8 t) 54) = u := ⟨_, rfl⟩
  have HSN : Hid (w1.heap.size < W2.heap.size) := Lib.hid (by rw [← hW2]; simp)
  rw [hW2] at HB2 HT2 ⊢
  clear hW2 HB1
  obtain ⟨gt, hgt⟩ : ∃ g, w1.heap.size = g := ⟨_, rfl⟩
  rw [hgt] at HT2 HSN ⊢
  clear hgt
  have HBd := Lib.hid ((Below.refl W2.heap.size W2).drew)
  have HTd := Lib.hid (HT2.out.below HBd.out)
  have HB3 := Lib.hid (below_ext HB2.out HBd.out)
  obtain ⟨Wd, hWd⟩ : ∃ u, W2.drew = u := ⟨_, rfl⟩
  refine wp_region_T (S := fun w' => w'.heap[gt]? = some (.cells (arr .u8 t) 54 (0, 0))) (E := [5, 6, 7]) (by kernel_rfl) (HTd.out) (fun hHeld => ?_)
  refine wpT_take (i := 0) (oi := _) (v := (.agg (arr .u8 t))) rfl (by kernel_rfl) (by kernel_rfl) (by kernel_rfl) (by kernel_rfl) (fun _ _ _ h => h) (Or.inl ⟨by rfl, yields_row 54 _ rfl gt rfl _ _ _ _ (fun _ h => h) Tryz.underlying54 rfl (hash_info HTL.out)⟩) (by assumption) ?_
  try simp only [List.getElem_toArray, List.getElem_cons_zero, List.getElem_cons_succ, Act.put, List.setIfInBounds_toArray, List.set_cons_zero, List.set_cons_succ]
  refine wpT_take (i := 2) (oi := _) (v := (.agg (arr .u8 t))) rfl (by kernel_rfl) (by kernel_rfl) (by kernel_rfl) (by kernel_rfl) (fun _ _ _ h => h) (Or.inl ⟨by rfl, yields_row 54 _ rfl gt rfl _ _ _ _ (fun _ h => h) Tryz.underlying54 rfl (hash_info HTL.out)⟩) (by assumption) ?_
  try simp only [List.getElem_toArray, List.getElem_cons_zero, List.getElem_cons_succ, Act.put, List.setIfInBounds_toArray, List.set_cons_zero, List.set_cons_succ]
  refine wpT_take (i := 4) (oi := _) (v := ?_) rfl (by kernel_rfl) (by kernel_rfl) (by kernel_rfl) (by kernel_rfl) (fun _ _ _ h => h) (Or.inl ⟨by rfl, ?_⟩) (by assumption) ?_
  rotate_left; (intro wS hSw; (try dsimp only at hSw); go_simp <;> with_reducible rfl)
  try simp only [List.getElem_toArray, List.getElem_cons_zero, List.getElem_cons_succ, Act.put, List.setIfInBounds_toArray, List.set_cons_zero, List.set_cons_succ]
  refine wpT_one (i := 1) (by kernel_rfl) rfl (fun K hK => ?_)
  go_simp
  try rw [hWd]
  rw [hWd] at HBd HTd HB3
  refine (rjoin_nil t HTL _).mono ?_
  rintro e w3 ⟨v3, rfl, ho3, hb3⟩
  refine hK.out _ _ ?_ (fun hHeld => ?_)
  · exact HTd.out.below hb3
  clear hK K
  try simp only [List.getElem_toArray, List.getElem_cons_zero, List.getElem_cons_succ, Act.put, List.setIfInBounds_toArray, List.set_cons_zero, List.set_cons_succ]
  refine wpT_one (i := 3) (by kernel_rfl) rfl (fun K hK => ?_)
  go_simp
  obtain ⟨g3, cap3, e3, hg3, -, -, hsk3⟩ := ho3.cells (by have := HTL.out; omega)
  rw [HTL.out] at e3
  subst e3
  have HS3 := Lib.hid hsk3
  refine (rjoin_any g3 0 cap3 t 32 HTL (by decide) (by decide) t HTL _ HS3).mono ?_
  rintro e w4 ⟨v4, rfl, ho4, hb4⟩
  have HB4 := Lib.hid (below_ext hb3 hb4)
  have hbz4 := HB4.out.size
  have hrow4 := ho4.row (n := 64) (by rw [List.length_append, HTL.out])
  refine hK.out _ _ ?_ (fun hHeld => ?_)
  · exact (HTd.out.below hb3).below hb4
  clear hK K
  try simp only [List.getElem_toArray, List.getElem_cons_zero, List.getElem_cons_succ, Act.put, List.setIfInBounds_toArray, List.set_cons_zero, List.set_cons_succ]
  refine wpT_pass (i := 5) (by kernel_rfl) (by simp) rfl (fun K hK => ?_)
  have HS4 := Lib.hid ((HS.out.below HB3.out).below HB4.out)
  refine step_append_lies _ (by rfl) _ _ _ (by rfl) (w3.heap.size) 5 i0 _ 1 1 Tryz.underlying114 hi hz0 hz1 hz2 rfl (by omega) v4 64 ((t ++ t).map (.int .u8)) (by rfl) (hrow4) ⟨b, o, none⟩ n c (l.map (.int .u8)) (by rfl) (by simp [hn.out]) (HS4.out.news) (ints_oneCell .u8 _) (by omega) (by unfold maxLen; omega) (by omega) (by have := hb4.size; omega) (w4.heap.size) (rfl) ?_
  intro g5 cap5 w5 hown5 hgrow5 hat5 hlt5
  have HB5 := Lib.hid (Below.grown HB4.out hgrow5 (by omega) (fun j hj => by have := (World.ownsRow.lt hrow4 j hj).1; have := hb3.size; omega))
  have HO5 : Hid (OwnK .u8 5 w5 w3.heap.size (.slice (some ⟨g5, 0, none⟩) (64 + n) cap5) (t ++ t ++ l)) := Lib.hid (OwnK.app (by rw [List.length_append, HTL.out]) hn.out.symm hown5)
  refine hK.out _ _ ?_
  clear hK K
  try simp only [List.getElem_toArray, List.getElem_cons_zero, List.getElem_cons_succ, Act.put, List.setIfInBounds_toArray, List.set_cons_zero, List.set_cons_succ]
  refine wpT_pass (i := 6) (by kernel_rfl) (by simp) rfl (fun K hK => ?_)
  go_simp
  have hsk5 := HO5.out.skAt (by simp [hn.out]; omega)
  refine (rsum_any g5 0 cap5 (t ++ t ++ l) (64 + n) (Lib.hid (by simp [hn.out, HTL.out]; omega)) (by omega) (by omega) (Lib.hid (by rw [bytesB_app, bytesB_app, HTB.out, hby.out]; rfl)) _ (Lib.hid hsk5)).mono ?_
  rintro e w6 ⟨rfl, hb6⟩
  have HB6 := Lib.hid (HB5.out.trans (hb6.mono HB5.out.size))
  refine hK.out _ _ ?_
  clear hK K
  try simp only [List.getElem_toArray, List.getElem_cons_zero, List.getElem_cons_succ, Act.put, List.setIfInBounds_toArray, List.set_cons_zero, List.set_cons_succ]
  refine wpT_pass (i := 7) (by kernel_rfl) (by simp) rfl (fun K hK => ?_)
  rw [show (if Region.wanted _ _ = true then _ else _ : Prop) = _ from if_pos rfl]
  refine wp_store_row 54 _ _ rfl w.heap.size (arr .u8 (sha (t ++ t ++ l))) rfl rfl 54 _ (((HR0.out.below HB3.out)).below HB6.out) (hash_info (sha_len _)) (arrs_sz rfl (sha_len _)) (arr_one _) ?_
  refine hK.out _ _ ?_
  clear hK K
  try simp only [List.getElem_toArray, List.getElem_cons_zero, List.getElem_cons_succ, Act.put, List.setIfInBounds_toArray, List.set_cons_zero, List.set_cons_succ]
  refine wpT_done (by kernel_rfl) ?_ _
  have HRR : Hid (Blk .u8 54 (w6.setRow w.heap.size (arr .u8 (sha (t ++ t ++ l)))) w.heap.size (sha (t ++ t ++ l))) := Lib.hid ((HR0.out.below HB3.out).below HB6.out).setRow
  have HBF : Hid (Below w.heap.size w (w6.setRow w.heap.size (arr .u8 (sha (t ++ t ++ l))))) := Lib.hid (below_setRow' (below_ext HBX.out (below_ext HB3.out HB6.out)) (Nat.le_refl _))
  have HTG : Kp (tagged (bys s) l = sha (t ++ t ++ l)) := ⟨by rw [tagged, HT.out]⟩
  obtain ⟨R, hR⟩ : ∃ R, sha (t ++ t ++ l) = R := ⟨_, rfl⟩
  have hRl : R.length = 32 := by rw [← hR]; exact sha_len _
  rw [hR] at HRR HBF HTG ⊢
  obtain ⟨w8, hw8⟩ : ∃ u, w6.setRow w.heap.size (arr .u8 R) = u := ⟨_, rfl⟩
  rw [hw8] at HRR HBF ⊢
  have HI : Kp ((Tryz.prog.info? 54).map (·.size) = some (arr .u8 R).size) := ⟨hash_info hRl⟩
  clear hR hRl hw8
  go_wp2
  exact bodyPost_ret (v := .agg (arr .u8 R)) (results_cell_row (p := 4) (ty := 54) rfl _ _ w.heap.size _ _ _ _ rfl HRR.out Tryz.underlying54 rfl HI.out) rfl ⟨by rw [HTG.out], HBF.out⟩
end Go.Proofs.YtdlhodbiaoafiaaGreatDoor
namespace Go.Proofs.YtdlhodbiaoafiaaGreatDoor
open Go.RowKit SpM
set_option linter.unusedVariables false
set_option linter.unusedSimpArgs false
set_option maxRecDepth 100000
/-- the number of the first k bytes. -/
def numL (m : Int) (h : List Int) : Nat → Int
  | 0 => 0
  | k + 1 => (numL m h k * 256 + h.getD k 0) % m
def numv (m : Int) (h : List Int) : Int := numL m h 16
theorem numL_lo {m : Int} {h : List Int} (hm : 1 ≤ m) (k : Nat) : 0 ≤ numL m h k ∧ numL m h k < m := by
  cases k with
  | zero => exact ⟨Int.le_refl _, by simp [numL]; omega⟩
  | succ k => exact ⟨Int.emod_nonneg _ (by omega), Int.emod_lt_of_pos _ (by omega)⟩
theorem dbl_step {acc m a : Int} {j : Nat} (h : acc * 2 ^ j % m = a) : acc * 2 ^ (j + 1) % m = (a + a) % m := by
  rw [← h, Int.pow_succ, ← Int.mul_assoc, Int.mul_comm _ 2, Int.add_emod_emod, Int.emod_add_emod]
  congr 1
  omega
theorem num_step {acc m a c : Int} (h : acc * 2 ^ 8 % m = a) : (a + c % m) % m = (acc * 256 + c) % m := by
  rw [← h, Int.add_emod_emod, Int.emod_add_emod]
  rfl
theorem num_step2 {acc m c : Int} : (acc * (256 % m) % m + c) % m = (acc * 256 + c) % m := by
  have e : acc * (256 % m) % m = acc * 256 % m := by
    rw [Int.mul_emod acc (256 % m), Int.emod_emod_of_dvd _ (Int.dvd_refl m), ← Int.mul_emod]
  rw [e, Int.emod_add_emod]
set_option maxHeartbeats 1600000 in
theorem number_any (h : List Int) (hh : Hid (h.length = 32)) (hb : Hid (bytesB h = true)) (m : Int) (h1 : 1 ≤ m) (h2 : m < 2305843009213693952) (w : World) :
    Calls Tryz.prog 118 #[.agg (arr .u8 h), .int .i64 m] w fun e w' => e = .returned (.tuple #[.int .i64 (numv m h), .int .i64 0]) ∧ Below w.heap.size w w' := by
  obtain ⟨W, hW⟩ : ∃ W, w.alloc (.cells (arr .u8 h) 54) = W := ⟨_, rfl⟩
  have HBX : Hid (Below w.heap.size w W) := Lib.hid (by rw [← hW]; exact below_box0 _ _)
  have HR0 : Hid (Blk .u8 54 W w.heap.size h) := Lib.hid (by rw [← hW]; exact Blk.new _ _)
  have HW := Lib.hid hW
  clear hW
  have hm0 : ((m : Int) == 0) = false := by simp; omega
  have hm1 : ¬ m < 1 := by omega
  have hm2 : ¬ 2305843009213693952 ≤ m := by omega
  go_enter Tryz.func118, Tryz.ntmps118
  go_wp2
  rw [HW.out]
  go_loopw [6, 17] (fun p i u => ∃ (k : Nat) (acc : Int), k ≤ 16 ∧ i = .int .i64 k ∧ p = .int .i64 acc ∧ Hid (numL m h k = acc) ∧ Hid (Below W.heap.size W u)) (fun _ i _ => 16 - (intOf i).toNat)
  case atStart => exact ⟨0, 0, by omega, rfl, rfl, Lib.hid rfl, Lib.hid (Below.refl _ _)⟩
  case round =>
    obtain ⟨k, acc, hk, rfl, rfl, HN, HBr⟩ := hrel
    have ha := numL_lo (m := m) (h := h) h1 k
    rw [HN.out] at ha
    obtain ⟨a0, a1⟩ := ha
    by_cases hlt : k < 16
    · have hc := (HR0.out.below HBr.out).cell (j := k) (by have := hh.out; omega)
      obtain ⟨c0, c1⟩ := bytesB_get hb.out k
      have hnx : numL m h (k + 1) = (acc * 256 + h.getD k 0) % m := by rw [numL, HN.out]
      obtain ⟨c, hcc⟩ : ∃ c, h.getD k 0 = c := ⟨_, rfl⟩
      rw [hcc] at hc c0 c1 hnx
      have HNX := Lib.hid hnx
      clear hcc hnx
      have dk : decide ((k : Int) < 16) = true := by simp; omega
      go_wp2
      go_loopw [6, 21] (fun p i u => ∃ (j : Nat) (a : Int), j ≤ 8 ∧ i = .int .i64 j ∧ p = .int .i64 a ∧ Hid (acc * 2 ^ j % m = a) ∧ 0 ≤ a ∧ a < m ∧ Hid (Below W.heap.size W u)) (fun _ i _ => 8 - (intOf i).toNat)
      case atStart => exact ⟨0, acc, by omega, rfl, rfl, Lib.hid (by rw [Int.pow_zero, Int.mul_one]; exact Int.emod_eq_of_lt a0 a1), a0, a1, HBr⟩
      case round =>
        obtain ⟨j, a, hj, rfl, rfl, HA, b0, b1, HBu⟩ := hrel
        by_cases hlj : j < 8
        · have HA2 := Lib.hid (dbl_step HA.out)
          have e0 : 0 ≤ (a + a) % m := Int.emod_nonneg _ (by omega)
          have e1 : (a + a) % m < m := Int.emod_lt_of_pos _ (by omega)
          obtain ⟨q, hq⟩ : ∃ q, (a + a) % m = q := ⟨_, rfl⟩
          rw [hq] at e0 e1 HA2
          have HQ := Lib.hid hq
          clear hq HA
          go_wp2_with fail
          refine (add_ok a a m h2 b0 b1 b0 b1 _).mono ?_
          rintro e w' ⟨rfl, rfl⟩
          rw [HQ.out]
          go_wp2
          go_roundw
          case rel => exact ⟨j + 1, q, by omega, by go_num, rfl, HA2, e0, e1, HBu⟩
          case measure => simp [intOf]; omega
        · have HA8 : Hid (acc * 2 ^ 8 % m = a) := Lib.hid (by have h := HA.out; rwa [show j = 8 by omega] at h)
          have HE : Hid ((a + c % m) % m = (acc * 256 + c) % m) := Lib.hid (num_step HA8.out)
          have f0 : 0 ≤ c % m := Int.emod_nonneg _ (by omega)
          have f1 : c % m < m := Int.emod_lt_of_pos _ (by omega)
          obtain ⟨cm, hcm⟩ : ∃ x, c % m = x := ⟨_, rfl⟩
          rw [hcm] at f0 f1 HE
          obtain ⟨q, hq⟩ : ∃ q, (a + cm) % m = q := ⟨_, rfl⟩
          have HN2 : Hid (numL m h (k + 1) = q) := Lib.hid (by rw [HNX.out, ← HE.out, hq])
          have HQ := Lib.hid hq
          clear hq HA HA8 HE HNX HN
          go_wp2_with fail
          refine (add_ok a cm m h2 b0 b1 f0 f1 _).mono ?_
          rintro e w' ⟨rfl, rfl⟩
          rw [HQ.out]
          go_wp2
          go_roundw
          case rel => exact ⟨k + 1, q, by omega, by go_num, rfl, HN2, HBu⟩
          case measure => simp [intOf]; omega
    · have HF : Hid (numv m h = acc) := Lib.hid (by have e := HN.out; rwa [show k = 16 by omega] at e)
      have hbf := below_ext HBX.out HBr.out
      clear HN
      go_wp2
      go_ret2
      exact ⟨by rw [HF.out]; rfl, hbf⟩
set_option maxHeartbeats 1600000 in
theorem rnumber_any (h : List Int) (hh : Hid (h.length = 32)) (hb : Hid (bytesB h = true)) (m : Int) (h1 : 1 ≤ m) (h2 : m < 2305843009213693952) (w : World) :
    Calls Tryz.prog 140 #[.agg (arr .u8 h), .int .i64 m] w fun e w' => e = .returned (.int .i64 (numv m h)) ∧ Below w.heap.size w w' := by
  obtain ⟨W, hW⟩ : ∃ W, w.alloc (.cells (arr .u8 h) 54) = W := ⟨_, rfl⟩
  have HBX : Hid (Below w.heap.size w W) := Lib.hid (by rw [← hW]; exact below_box0 _ _)
  have HR0 : Hid (Blk .u8 54 W w.heap.size h) := Lib.hid (by rw [← hW]; exact Blk.new _ _)
  have HW := Lib.hid hW
  clear hW
  have hm0 : ((m : Int) == 0) = false := by simp; omega
  go_enter Tryz.func140, Tryz.ntmps140
  go_wp2
  rw [HW.out]
  go_loopw [5, 6] (fun p i u => ∃ (k : Nat) (acc : Int), k ≤ 16 ∧ i = .int .i64 k ∧ p = .int .i64 acc ∧ Hid (numL m h k = acc) ∧ Hid (Below W.heap.size W u)) (fun _ i _ => 16 - (intOf i).toNat)
  case atStart => exact ⟨0, 0, by omega, rfl, rfl, Lib.hid rfl, Lib.hid (Below.refl _ _)⟩
  case round =>
    obtain ⟨k, acc, hk, rfl, rfl, HN, HBr⟩ := hrel
    have ha := numL_lo (m := m) (h := h) h1 k
    rw [HN.out] at ha
    obtain ⟨a0, a1⟩ := ha
    by_cases hlt : k < 16
    · have hc := (HR0.out.below HBr.out).cell (j := k) (by have := hh.out; omega)
      obtain ⟨c0, c1⟩ := bytesB_get hb.out k
      have hnx : numL m h (k + 1) = (acc * 256 + h.getD k 0) % m := by rw [numL, HN.out]
      obtain ⟨c, hcc⟩ : ∃ c, h.getD k 0 = c := ⟨_, rfl⟩
      rw [hcc] at hc c0 c1 hnx
      have HNX := Lib.hid hnx
      have f0 : 0 ≤ 256 % m := Int.emod_nonneg _ (by omega)
      have f1 : 256 % m < m := Int.emod_lt_of_pos _ (by omega)
      have hst := num_step2 (acc := acc) (m := m) (c := c)
      have ht : Int.tmod 256 m = 256 % m := Int.tmod_eq_emod_of_nonneg (by decide)
      have hw0 : IntKind.i64.wrap (256 % m) = 256 % m := IntWalk.i64_in _ (by omega)
      obtain ⟨d, hd⟩ : ∃ d, 256 % m = d := ⟨_, rfl⟩
      rw [hd] at f0 f1 hst ht hw0
      have g0 : 0 ≤ acc * d % m := Int.emod_nonneg _ (by omega)
      have g1 : acc * d % m < m := Int.emod_lt_of_pos _ (by omega)
      obtain ⟨p, hp⟩ : ∃ p, acc * d % m = p := ⟨_, rfl⟩
      rw [hp] at g0 g1 hst
      obtain ⟨q, hq⟩ : ∃ q, (p + c) % m = q := ⟨_, rfl⟩
      have HP := Lib.hid hp
      have HQ := Lib.hid hq
      have hw1 : IntKind.i64.wrap (p + c) = p + c := IntWalk.i64_in _ (by omega)
      have HN2 : Hid (numL m h (k + 1) = q) := Lib.hid (by rw [HNX.out, ← hst, hq])
      clear hst hp hq HNX HN hd
      go_wp2
      go_quiet ((first | (go_at_call 82; exact quiet_w (rmul_any acc d m p HP h2 a0 a1 f0 f1 _)) | (go_at_call 53; exact quiet_w (rreduce_any (p + c) m q HQ h1 h2 (by omega) (by omega) _))))
      have HB2 := Lib.hid (below_drawN HBr.out nq)
      clear hc
      go_wp2
      go_roundw
      case rel => exact ⟨k + 1, q, by omega, by go_num, rfl, HN2, HB2⟩
      case measure => simp [intOf]; omega
    · have HF : Hid (numv m h = acc) := Lib.hid (by have e := HN.out; rwa [show k = 16 by omega] at e)
      have hbf := below_ext HBX.out HBr.out
      clear HN
      go_wp2
      go_ret
      exact ⟨by rw [HF.out]; rfl, hbf⟩
end Go.Proofs.YtdlhodbiaoafiaaGreatDoor
namespace Go.Proofs.YtdlhodbiaoafiaaGreatDoor
open Go.RowKit SpM
set_option linter.unusedVariables false
set_option linter.unusedSimpArgs false
set_option maxRecDepth 100000
/-- the cells of a transcript. -/
def tcs (h : List Int) (c : Int) : Array Value := arr .u8 h ++ #[.int .i64 c]
theorem list32 : ∀ h : List Int, h.length = 32 → ∃ a0 a1 a2 a3 a4 a5 a6 a7 a8 a9 a10 a11 a12 a13 a14 a15 a16 a17 a18 a19 a20 a21 a22 a23 a24 a25 a26 a27 a28 a29 a30 a31, h = [a0, a1, a2, a3, a4, a5, a6, a7, a8, a9, a10, a11, a12, a13, a14, a15, a16, a17, a18, a19, a20, a21, a22, a23, a24, a25, a26, a27, a28, a29, a30, a31]
  | [a0, a1, a2, a3, a4, a5, a6, a7, a8, a9, a10, a11, a12, a13, a14, a15, a16, a17, a18, a19, a20, a21, a22, a23, a24, a25, a26, a27, a28, a29, a30, a31], _ => ⟨a0, a1, a2, a3, a4, a5, a6, a7, a8, a9, a10, a11, a12, a13, a14, a15, a16, a17, a18, a19, a20, a21, a22, a23, a24, a25, a26, a27, a28, a29, a30, a31, rfl⟩
theorem built0 : Tryz.prog.built 85 [] = some (tcs (zer 32) 0) := by kernel_rfl
theorem built1 (h : List Int) (hl : h.length = 32) : Tryz.prog.built 85 [(0, .agg (arr .u8 h))] = some (tcs h 0) := by
  obtain ⟨a0, a1, a2, a3, a4, a5, a6, a7, a8, a9, a10, a11, a12, a13, a14, a15, a16, a17, a18, a19, a20, a21, a22, a23, a24, a25, a26, a27, a28, a29, a30, a31, rfl⟩ := list32 h hl
  kernel_rfl
theorem built2 (h : List Int) (hl : h.length = 32) (c : Int) : Tryz.prog.built 85 [(0, .agg (arr .u8 h)), (1, .int .i64 c)] = some (tcs h c) := by
  obtain ⟨a0, a1, a2, a3, a4, a5, a6, a7, a8, a9, a10, a11, a12, a13, a14, a15, a16, a17, a18, a19, a20, a21, a22, a23, a24, a25, a26, a27, a28, a29, a30, a31, rfl⟩ := list32 h hl
  kernel_rfl
theorem wpList_built {P : Program} {ops : Array Oper} {rest : List Oper} {o : Oper} {a : Act} {w : World} {Q : Exit → Act → World → Prop} (hg : o.guard = none) (t : TypeId) (l : List (Nat × Operand)) (ho : o.op = .build t l.toArray) (cells : Array Value)
    (hf : P.built t (l.map fun x => (x.1, a.eval x.2)) = some cells) (h : wpList P ops Q rest (a.put o.dst (.agg cells)) w) : wpList P ops Q (o :: rest) a w := by
  have e : (l.toArray.map fun (x : Nat × Operand) => (x.1, a.eval x.2)).toList = l.map fun x => (x.1, a.eval x.2) := by simp
  refine wpList_build hg t l.toArray ho ?_ ?_
  · show (P.built t (l.toArray.map fun (x : Nat × Operand) => (x.1, a.eval x.2)).toList).isSome = true
    rw [e, hf]; rfl
  · show wpList P ops Q rest (a.put o.dst (.agg ((P.built t (l.toArray.map fun (x : Nat × Operand) => (x.1, a.eval x.2)).toList).getD #[]))) w
    rw [e, hf]; exact h
theorem tcs_size {h : List Int} {c : Int} (hl : h.length = 32) : (tcs h c).size = 33 := by simp [tcs, arr_size, hl]
theorem infoT : (Tryz.prog.info? 85).map (·.size) = some 33 := by kernel_rfl
theorem tr_info {h : List Int} {c : Int} (hl : h.length = 32) : (Tryz.prog.info? 85).map (·.size) = some (tcs h c).size := infoT.trans (congrArg some (tcs_size hl).symm)
theorem tcs_one (h : List Int) (c : Int) : (tcs h c).all (·.oneCell') = true := by simp [tcs, arr, Value.oneCell']
theorem ztr : (#[.int .u8 0, .int .u8 0, .int .u8 0, .int .u8 0, .int .u8 0, .int .u8 0, .int .u8 0, .int .u8 0, .int .u8 0, .int .u8 0, .int .u8 0, .int .u8 0, .int .u8 0, .int .u8 0, .int .u8 0, .int .u8 0, .int .u8 0, .int .u8 0, .int .u8 0, .int .u8 0, .int .u8 0, .int .u8 0, .int .u8 0, .int .u8 0, .int .u8 0, .int .u8 0, .int .u8 0, .int .u8 0, .int .u8 0, .int .u8 0, .int .u8 0, .int .u8 0, .int .i64 0] : Array Value) = tcs (zer 32) 0 := rfl
theorem tcs_sz {h h' : List Int} {c c' : Int} (hl : h.length = 32) (hl' : h'.length = 32) : (tcs h c).size = (tcs h' c').size := by rw [tcs_size hl, tcs_size hl']
/-- a block that holds a transcript. -/
def TBlk (w : World) (b : Nat) (h : List Int) (c : Int) : Prop := w.heap[b]? = some (.cells (tcs h c) 85 (0, 0))
theorem TBlk.below {w w' : World} {b : Nat} {h : List Int} {c : Int} (hh : TBlk w b h c) (hb : Below w.heap.size w w') : TBlk w' b h c := (hb.block b (Array.getElem?_eq_some_iff.1 hh).1).trans hh
theorem TBlk.new (w : World) (h : List Int) (c : Int) : TBlk (w.alloc (.cells (tcs h c) 85)) w.heap.size h c := heap_alloc_new _ _
theorem TBlk.lt {w : World} {b : Nat} {h : List Int} {c : Int} (hh : TBlk w b h c) : b < w.heap.size := (Array.getElem?_eq_some_iff.1 hh).1
theorem TBlk.setRow {w : World} {b : Nat} {h h' : List Int} {c c' : Int} (hh : TBlk w b h c) : TBlk (w.setRow b (tcs h' c')) b h' c' := setRow_heap w b _ _ _ _ hh
theorem TBlk.count {w : World} {b : Nat} {h : List Int} {c : Int} (hh : TBlk w b h c) (hl : h.length = 32) : w.cell? ⟨b, 32, none⟩ = some (.int .i64 c) := by
  rw [cell_blk hh, tcs, Array.getElem?_append_right (by rw [arr_size, hl]; exact Nat.le_refl _), arr_size, hl]
  rfl
theorem TBlk.sk {w : World} {b : Nat} {h : List Int} {c : Int} (hh : TBlk w b h c) : Sk .u8 w (some ⟨b, 0, none⟩) h := fun j hj => ⟨b, 0, rfl, by
  rw [Nat.zero_add, cell_blk hh, tcs, Array.getElem?_append_left (by rw [arr_size]; exact hj)]
  exact arr_get hj⟩
theorem tvalid_any (h : List Int) (hl : Hid (h.length = 32)) (c : Int) (h0 : 0 ≤ c) (h1 : c ≤ 1000) (w : World) :
    Calls Tryz.prog 116 #[.agg (tcs h c)] w fun e w' => e = .returned (.bool true) ∧ Below w.heap.size w w' := by
  have hc := (TBlk.new w h c).count hl.out
  have d1 : decide ((0 : Int) ≤ c) = true := by simp [h0]
  have d2 : decide (c ≤ 1000) = true := by simp [h1]
  go_enter Tryz.func116, Tryz.ntmps116
  go_wp2
  go_ret
  exact ⟨rfl, below_box0 _ _⟩
theorem rtvalid_any (h : List Int) (hl : Hid (h.length = 32)) (c : Int) (h0 : 0 ≤ c) (h1 : c ≤ 1000) (w : World) :
    Calls Tryz.prog 139 #[.agg (tcs h c)] w fun e w' => e = .returned (.bool true) ∧ Below w.heap.size w w' := by
  have hc := (TBlk.new w h c).count hl.out
  have d1 : decide ((0 : Int) ≤ c) = true := by simp [h0]
  have d2 : decide (c ≤ 1000) = true := by simp [h1]
  go_enter Tryz.func139, Tryz.ntmps139
  go_wp2
  go_ret
  exact ⟨rfl, below_box0 _ _⟩
/-- the tag of new transcripts. -/
def tagT : ByteArray := ⟨#[115, 112, 101, 99, 105, 101, 47, 116, 114, 97, 110, 115, 99, 114, 105, 112, 116]⟩
/-- a transcript and an error. -/
def TrE (h : List Int) (c e : Int) : Value := .tuple #[.agg (tcs h c), .int .i64 e]
def newL (l : List Int) : List Int := tagged (bys tagT) l
set_option maxHeartbeats 1600000 in
theorem tnew_bad (s : ByteArray) (hs : s.size ≤ 1000) (hr : Hid (labB (bys s) = false)) (w : World) :
    Calls Tryz.prog 55 #[.string s] w fun e w' => e = .returned (TrE (zer 32) 0 1) ∧ Below w.heap.size w w' := by
  obtain ⟨W, hW⟩ : ∃ W, w.alloc (.cells #[.int .u8 0, .int .u8 0, .int .u8 0, .int .u8 0, .int .u8 0, .int .u8 0, .int .u8 0, .int .u8 0, .int .u8 0, .int .u8 0, .int .u8 0, .int .u8 0, .int .u8 0, .int .u8 0, .int .u8 0, .int .u8 0, .int .u8 0, .int .u8 0, .int .u8 0, .int .u8 0, .int .u8 0, .int .u8 0, .int .u8 0, .int .u8 0, .int .u8 0, .int .u8 0, .int .u8 0, .int .u8 0, .int .u8 0, .int .u8 0, .int .u8 0, .int .u8 0, .int .i64 0] 85) = W := ⟨_, rfl⟩
  have HBX : Hid (Below w.heap.size w W) := Lib.hid (by rw [← hW]; exact below_box0 _ _)
  have HT0 : Hid (TBlk W w.heap.size (zer 32) 0) := Lib.hid (by rw [← hW, ztr]; exact TBlk.new _ _ _)
  have HW := Lib.hid hW
  clear hW
  go_enter Tryz.func55, Tryz.ntmps55
  go_wp2_with fail
  rw [HW.out]
  refine (tlabel_any s hs false hr _).mono ?_
  rintro e w1 ⟨rfl, hb1⟩
  have HT1 := Lib.hid (HT0.out.below hb1)
  have HB1 := Lib.hid (below_ext HBX.out hb1)
  clear hb1
  go_wp2_with (first
    | ((with_reducible show wpList _ _ _ (⟨some 9, _, _, _, _, _⟩ :: _) _ _); refine wpList_built rfl 85 _ rfl _ built0 ?_)
    | ((with_reducible show wpList _ _ _ (⟨none, _, _, _, _, _⟩ :: _) _ _); refine wpList_store_row rfl 85 _ _ rfl w.heap.size (tcs (zer 32) 0) rfl rfl _ _ HT1.out (tr_info rfl) rfl (tcs_one _ _) ?_))
  have HRR : Hid (TBlk (w1.setRow w.heap.size (tcs (zer 32) 0)) w.heap.size (zer 32) 0) := Lib.hid HT1.out.setRow
  have HBF : Below w.heap.size w (w1.setRow w.heap.size (tcs (zer 32) 0)) := below_setRow' HB1.out (Nat.le_refl _)
  exact bodyPost_ret (v := TrE (zer 32) 0 1) (results_cell_tmp2 (p := 2) (q := 3) (ty := 85) rfl _ _ ⟨w.heap.size, 0, none⟩ _ _ rfl rfl (run_loadVar_row _ _ _ _ _ _ _ HRR.out Tryz.underlying85 rfl (tr_info rfl))) rfl ⟨rfl, HBF⟩
set_option maxHeartbeats 1600000 in
theorem tnew_ok (s : ByteArray) (hs : s.size ≤ 1000) (hr : Hid (labB (bys s) = true)) (w : World) (hv : Hid (VarsD w)) :
    Calls Tryz.prog 55 #[.string s] w fun e w' => e = .returned (TrE (newL (bys s)) 0 0) ∧ Below w.heap.size w w' := by
  have hs0 : 1 ≤ s.size := by
    have h := hr.out
    rw [labB, bys_len] at h
    simp at h
    exact h.1.1
  obtain ⟨W, hW⟩ : ∃ W, w.alloc (.cells #[.int .u8 0, .int .u8 0, .int .u8 0, .int .u8 0, .int .u8 0, .int .u8 0, .int .u8 0, .int .u8 0, .int .u8 0, .int .u8 0, .int .u8 0, .int .u8 0, .int .u8 0, .int .u8 0, .int .u8 0, .int .u8 0, .int .u8 0, .int .u8 0, .int .u8 0, .int .u8 0, .int .u8 0, .int .u8 0, .int .u8 0, .int .u8 0, .int .u8 0, .int .u8 0, .int .u8 0, .int .u8 0, .int .u8 0, .int .u8 0, .int .u8 0, .int .u8 0, .int .i64 0] 85) = W := ⟨_, rfl⟩
  have HBX : Hid (Below w.heap.size w W) := Lib.hid (by rw [← hW]; exact below_box0 _ _)
  have HT0 : Hid (TBlk W w.heap.size (zer 32) 0) := Lib.hid (by rw [← hW, ztr]; exact TBlk.new _ _ _)
  have HV := Lib.hid (hv.out.below HBX.out)
  have HW := Lib.hid hW
  have hcv := fun w => run_bytes_of_string (P := Tryz.prog) w 9 114 5 s Tryz.underlying9 Tryz.underlying114 Tryz.underlying5
  clear hW hv
  go_enter Tryz.func55, Tryz.ntmps55
  go_wp2_with fail
  rw [HW.out]
  refine (tlabel_any s hs true hr _).mono ?_
  rintro e w1 ⟨rfl, hb1⟩
  have HT1 := Lib.hid (HT0.out.below hb1)
  have HB1 := Lib.hid (below_ext HBX.out hb1)
  have HV1 := Lib.hid (HV.out.below hb1)
  clear hb1 HW
  go_wp2_with fail
  clear hcv
  obtain ⟨Wc, hWc⟩ : ∃ u, (w1.alloc (.cells (bytesRow s (grownCap w1 s.size 0 5)) 5 ((bytesRow s (grownCap w1 s.size 0 5)).size, (bytesRow s (grownCap w1 s.size 0 5)).size + 1))).drew = u := ⟨_, rfl⟩
  have HBc : Hid (Below w1.heap.size w1 Wc) := Lib.hid (by rw [← hWc]; exact (below_box0 _ _).drew)
  have HSc : Hid (Sk .u8 Wc (some ⟨w1.heap.size, 0, none⟩) (bys s)) := Lib.hid (by
    rw [← hWc]
    exact bys_sk (heap_alloc_new w1 _))
  obtain ⟨gc, hgc⟩ : ∃ g, grownCap w1 s.size 0 5 = g := ⟨_, rfl⟩
  rw [hWc, hgc]
  clear hWc hgc
  refine (tagged_any tagT (by decide) (by decide) w1.heap.size 0 gc (bys s) s.size (Lib.hid (bys_len s)) hs0 (by omega) (Lib.hid (bys_bytes s)) _ HSc (Lib.hid (HV1.out.below HBc.out))).mono ?_
  rintro e w2 ⟨rfl, hb2⟩
  have HT2 := Lib.hid ((HT1.out.below HBc.out).below hb2)
  have HB2 := Lib.hid (below_ext (below_ext HB1.out HBc.out) hb2)
  obtain ⟨R, hR⟩ : ∃ R, tagged (bys tagT) (bys s) = R := ⟨_, rfl⟩
  have hRl : R.length = 32 := by rw [← hR]; exact tagged_len _ _
  have HN : Kp (newL (bys s) = R) := ⟨hR⟩
  have HRL := Lib.hid hRl
  rw [hR, show HashOk R = .tuple #[.agg (arr .u8 R), .int .i64 0] from rfl]
  clear hb2 HSc HBc HT1 HB1 HV1 hR hRl
  go_upto_region 4 with ((with_reducible show wpList _ _ _ (⟨none, _, _, _, _, _⟩ :: _) _ _); refine wpList_store_row rfl 54 _ _ rfl w2.heap.size (arr .u8 R) rfl rfl _ _ (heap_alloc_new _ _) (hash_info HRL.out) (arrs_sz (l := zer 32) rfl HRL.out) (arr_one _) ?_)
  rw [World.setRow_alloc_new]
  try simp only [Act.put]
  have HH3 : Hid (Blk .u8 54 (w2.alloc (.cells (arr .u8 R) 54)) w2.heap.size R) := Lib.hid (Blk.new _ _)
  have HT3 := Lib.hid (HT2.out.below (below_box0 w2 (.cells (arr .u8 R) 54)))
  have HB3 := Lib.hid (below_ext HB2.out (below_box0 w2 (.cells (arr .u8 R) 54)))
  obtain ⟨W3, hW3⟩ : ∃ u, w2.alloc (.cells (arr .u8 R) 54) = u := ⟨_, rfl⟩
  rw [hW3] at HH3 HT3 HB3 ⊢
  clear hW3
  go_wp2_with (first
    | ((with_reducible show wpList _ _ _ (⟨some 16, _, _, _, _, _⟩ :: _) _ _); refine wpList_load_row rfl 54 _ rfl w2.heap.size rfl _ _ _ _ HH3.out Tryz.underlying54 rfl (hash_info HRL.out) ?_)
    | ((with_reducible show wpList _ _ _ (⟨some 17, _, _, _, _, _⟩ :: _) _ _); refine wpList_built rfl 85 _ rfl _ (built1 R HRL.out) ?_)
    | ((with_reducible show wpList _ _ _ (⟨none, _, _, _, _, _⟩ :: _) _ _); refine wpList_store_row rfl 85 _ _ rfl w.heap.size (tcs R 0) rfl rfl _ _ HT3.out (tr_info HRL.out) (tcs_sz rfl HRL.out) (tcs_one _ _) ?_))
  have HRR : Hid (TBlk (W3.setRow w.heap.size (tcs R 0)) w.heap.size R 0) := Lib.hid HT3.out.setRow
  have HBF : Below w.heap.size w (W3.setRow w.heap.size (tcs R 0)) := below_setRow' HB3.out (Nat.le_refl _)
  exact bodyPost_ret (v := TrE R 0 0) (results_cell_tmp2 (p := 2) (q := 3) (ty := 85) rfl _ _ ⟨w.heap.size, 0, none⟩ _ _ rfl rfl (run_loadVar_row _ _ _ _ _ _ _ HRR.out Tryz.underlying85 rfl (tr_info HRL.out))) rfl ⟨by rw [HN.out], HBF⟩
set_option maxHeartbeats 1600000 in
theorem rtnew_ok (s : ByteArray) (hs : s.size ≤ 1000) (hs0 : 1 ≤ s.size) (w : World) :
    Calls Tryz.prog 103 #[.string s] w fun e w' => e = .returned (.agg (tcs (newL (bys s)) 0)) ∧ Below w.heap.size w w' := by
  obtain ⟨W, hW⟩ : ∃ W, w.alloc (.cells #[.int .u8 0, .int .u8 0, .int .u8 0, .int .u8 0, .int .u8 0, .int .u8 0, .int .u8 0, .int .u8 0, .int .u8 0, .int .u8 0, .int .u8 0, .int .u8 0, .int .u8 0, .int .u8 0, .int .u8 0, .int .u8 0, .int .u8 0, .int .u8 0, .int .u8 0, .int .u8 0, .int .u8 0, .int .u8 0, .int .u8 0, .int .u8 0, .int .u8 0, .int .u8 0, .int .u8 0, .int .u8 0, .int .u8 0, .int .u8 0, .int .u8 0, .int .u8 0, .int .i64 0] 85) = W := ⟨_, rfl⟩
  have HBX : Hid (Below w.heap.size w W) := Lib.hid (by rw [← hW]; exact below_box0 _ _)
  have HT0 : Hid (TBlk W w.heap.size (zer 32) 0) := Lib.hid (by rw [← hW, ztr]; exact TBlk.new _ _ _)
  have HSZ : Hid (W.heap.size = w.heap.size + 1) := Lib.hid (by rw [← hW]; simp)
  have HW := Lib.hid hW
  have hcv := fun w => run_bytes_of_string (P := Tryz.prog) w 9 114 5 s Tryz.underlying9 Tryz.underlying114 Tryz.underlying5
  clear hW
  go_enter Tryz.func103, Tryz.ntmps103
  go_wp2_with fail
  rw [HW.out]
  clear hcv HW
  obtain ⟨Wc, hWc⟩ : ∃ u, (W.alloc (.cells (bytesRow s (grownCap W s.size 0 5)) 5 ((bytesRow s (grownCap W s.size 0 5)).size, (bytesRow s (grownCap W s.size 0 5)).size + 1))).drew = u := ⟨_, rfl⟩
  have HBc : Hid (Below W.heap.size W Wc) := Lib.hid (by rw [← hWc]; exact (below_box0 _ _).drew)
  have HSc : Hid (Sk .u8 Wc (some ⟨w.heap.size + 1, 0, none⟩) (bys s)) := Lib.hid (by
    rw [← hWc, ← HSZ.out]
    exact bys_sk (heap_alloc_new W _))
  obtain ⟨gc, hgc⟩ : ∃ g, grownCap W s.size 0 5 = g := ⟨_, rfl⟩
  rw [hWc, hgc]
  clear hWc hgc
  refine (rtagged_any tagT (by decide) (by decide) (w.heap.size + 1) 0 gc (bys s) s.size (Lib.hid (bys_len s)) hs0 (by omega) (Lib.hid (bys_bytes s)) _ HSc).mono ?_
  rintro e w2 ⟨rfl, hb2⟩
  have HT2 := Lib.hid ((HT0.out.below HBc.out).below hb2)
  have HB2 := Lib.hid (below_ext (below_ext HBX.out HBc.out) hb2)
  obtain ⟨R, hR⟩ : ∃ R, tagged (bys tagT) (bys s) = R := ⟨_, rfl⟩
  have hRl : R.length = 32 := by rw [← hR]; exact tagged_len _ _
  have HN : Kp (newL (bys s) = R) := ⟨hR⟩
  have HRL := Lib.hid hRl
  rw [hR]
  clear hb2 HSc HBc hR hRl
  go_wp2_with (first
    | ((with_reducible show wpList _ _ _ (⟨some 6, _, _, _, _, _⟩ :: _) _ _); refine wpList_built rfl 85 _ rfl _ (built1 R HRL.out) ?_)
    | ((with_reducible show wpList _ _ _ (⟨none, _, _, _, _, _⟩ :: _) _ _); refine wpList_store_row rfl 85 _ _ rfl w.heap.size (tcs R 0) rfl rfl _ _ HT2.out (tr_info HRL.out) (tcs_sz rfl HRL.out) (tcs_one _ _) ?_))
  have HRR : Hid (TBlk (w2.setRow w.heap.size (tcs R 0)) w.heap.size R 0) := Lib.hid HT2.out.setRow
  have HBF : Below w.heap.size w (w2.setRow w.heap.size (tcs R 0)) := below_setRow' HB2.out (Nat.le_refl _)
  exact bodyPost_ret (v := .agg (tcs R 0)) (results_cell1 (p := 2) (ty := 85) rfl _ _ ⟨w.heap.size, 0, none⟩ _ rfl (run_loadVar_row _ _ _ _ _ _ _ HRR.out Tryz.underlying85 rfl (tr_info HRL.out))) rfl ⟨by rw [HN.out], HBF⟩
end Go.Proofs.YtdlhodbiaoafiaaGreatDoor
namespace Go.Proofs.YtdlhodbiaoafiaaGreatDoor
open Go.RowKit SpM
set_option linter.unusedVariables false
set_option linter.unusedSimpArgs false
set_option maxRecDepth 100000
theorem itr_list {w : World} {base : Nat} {v : Value} {cs : List Ic} {l : List It} {n : Nat} (h : OwnI w base v cs) (hc : cs.length = n) (hl : l.length = n) (hpos : 0 < n) (hr : ∀ k, k < n → ItR w (l.getD k default) (cs.getD k default)) :
    ∃ g cap, v = .slice (some ⟨g, 0, none⟩) n cap ∧ ItR w (.lst l) ⟨3, 0, none, 0, 0, some ⟨g, 0, none⟩, n, cap⟩ := by
  obtain ⟨g, cap, e, _, _, hf⟩ := h.four (by omega)
  rw [hc] at e hf
  exact ⟨g, cap, e, .lst l _ rfl rfl rfl hl.symm (fun k => cs.getD k default) (fun k hk => ⟨g, 0, rfl, hf k (by omega)⟩) (fun k hk => hr k (by omega))⟩
/-- the fields of bytes. -/
def icByt (A : Option Addr) (n c : Nat) : Ic := ⟨2, 0, A, n, c, none, 0, 0⟩
theorem itr_byt {w : World} {A : Option Addr} {n c : Nat} {b : List Int} (h : Sk .u8 w A b) (hn : b.length = n) : ItR w (.byt b) (icByt A n c) := .byt b _ rfl rfl hn.symm rfl h
theorem ownI_two (w : World) (a b : Ic) : OwnI (w.alloc (.cells #[.int .i64 a.kind, .int .i64 a.n, .slice a.B a.nb a.cb, .slice a.L a.nl a.cl, .int .i64 b.kind, .int .i64 b.n, .slice b.B b.nb b.cb, .slice b.L b.nl b.cl] 141)) w.heap.size (.slice (some ⟨w.heap.size, 0, none⟩) 2 2) [a, b] :=
  ⟨rfl, Or.inr ⟨w.heap.size, 2, _, rfl, Nat.le_refl _, heap_alloc_new _ _, Nat.le_refl _, by decide, rfl, rfl⟩⟩
theorem four_news {w : World} {b : Nat} {c : Ic} (h : Four w b 0 c) (j : Nat) (u : Value) (hj : (itemCells c)[j]? = some u) : w.cell? ((⟨b, 0, none⟩ : Addr).add j) = some u := by
  obtain ⟨h0, h1, h2, h3⟩ := h
  match j, hj with
  | 0, e => simp [itemCells] at e; subst e; exact h0
  | 1, e => simp [itemCells] at e; subst e; exact h1
  | 2, e => simp [itemCells] at e; subst e; exact h2
  | 3, e => simp [itemCells] at e; subst e; exact h3
  | j + 4, e => simp [itemCells] at e
theorem itemCells_one (c : Ic) : ∀ u ∈ itemCells c, u.oneCell' = true := by
  intro u hu
  simp [itemCells] at hu
  rcases hu with rfl | rfl | rfl | rfl <;> rfl
theorem sk_old {K : IntKind} {w w' : World} {B b : Nat} {l : List Int} (h : Sk K w (some ⟨b, 0, none⟩) l) (hb : Below B w w') (hl : b < B) : Sk K w' (some ⟨b, 0, none⟩) l := by
  intro j hj
  obtain ⟨b1, o, e, hc⟩ := h j hj
  injection e with e
  injection e with e1 e2 e3
  subst e1
  subst e2
  exact ⟨b, 0, rfl, (hb.cell (p := ⟨b, 0 + j, none⟩) hl).trans hc⟩
set_option maxHeartbeats 3200000 in
theorem hash0_any (tg : ByteArray) (ht1 : 1 ≤ tg.size) (ht2 : tg.size ≤ 100) (h : List Int) (hl : Hid (h.length = 32)) (hb : Hid (bytesB h = true)) (c : Int) (s : ByteArray) (hs0 : 1 ≤ s.size) (hs : s.size ≤ 1000) (w : World) (hv : Hid (VarsD w)) :
    Calls Tryz.prog 117 #[.string tg, .agg (tcs h c), .string s, .slice none 0 0] w fun e w' => e = .returned (HashOk (tagged (bys tg) (enc (.lst [.byt h, .byt (bys s)])))) ∧ Below w.heap.size w w' := by
  obtain ⟨i0, hi, hz0, hz1, hz2⟩ := info_parts itemInfo
  obtain ⟨RR, hRR⟩ : ∃ R, tagged (bys tg) (enc (.lst [.byt h, .byt (bys s)])) = R := ⟨_, rfl⟩
  rw [hRR]
  have HRR0 : Kp (tagged (bys tg) (enc (.lst [.byt h, .byt (bys s)])) = RR) := ⟨hRR⟩
  clear hRR
  obtain ⟨W, hW⟩ : ∃ W, (w.alloc (.cells (tcs h c) 85)).alloc (.cells #[.int .u8 0, .int .u8 0, .int .u8 0, .int .u8 0, .int .u8 0, .int .u8 0, .int .u8 0, .int .u8 0, .int .u8 0, .int .u8 0, .int .u8 0, .int .u8 0, .int .u8 0, .int .u8 0, .int .u8 0, .int .u8 0, .int .u8 0, .int .u8 0, .int .u8 0, .int .u8 0, .int .u8 0, .int .u8 0, .int .u8 0, .int .u8 0, .int .u8 0, .int .u8 0, .int .u8 0, .int .u8 0, .int .u8 0, .int .u8 0, .int .u8 0, .int .u8 0] 54) = W := ⟨_, rfl⟩
  have HBX : Hid (Below w.heap.size w W) := Lib.hid (by rw [← hW]; exact below_two (Below.refl _ _))
  have HT0 : Hid (TBlk W w.heap.size h c) := Lib.hid (by rw [← hW]; exact heap_alloc2_old _ _ _)
  have HR0 : Hid (Blk .u8 54 W (w.heap.size + 1) (zer 32)) := Lib.hid (by rw [← hW, zarrh]; exact heap_alloc2_new _ _ _)
  have HSZ : Hid (W.heap.size = w.heap.size + 2) := Lib.hid (by rw [← hW]; simp)
  have HV := Lib.hid (hv.out.below HBX.out)
  have HW := Lib.hid hW
  have hcv := fun w => run_bytes_of_string (P := Tryz.prog) w 9 114 5 s Tryz.underlying9 Tryz.underlying114 Tryz.underlying5
  clear hW hv
  go_enter Tryz.func117, Tryz.ntmps117
  go_upto_region 1 with (fail)
  rw [HW.out]
  go_upto_region 2 with (fail)
  clear hcv HW
  obtain ⟨gc, hgc⟩ : ∃ g, grownCap W s.size 0 5 = g := ⟨_, rfl⟩
  rw [hgc]
  obtain ⟨Wc, hWc⟩ : ∃ u, W.alloc (.cells (bytesRow s gc) 5 ((bytesRow s gc).size, (bytesRow s gc).size + 1)) = u := ⟨_, rfl⟩
  rw [hWc]
  have HBc : Hid (Below W.heap.size W Wc) := Lib.hid (by rw [← hWc]; exact below_box0 _ _)
  have HSc : Hid (Sk .u8 Wc (some ⟨W.heap.size, 0, none⟩) (bys s)) := Lib.hid (by rw [← hWc]; exact bys_sk (heap_alloc_new W _))
  have HCZ : Hid (Wc.heap.size = W.heap.size + 1) := Lib.hid (by rw [← hWc]; simp)
  obtain ⟨W2, hW2⟩ : ∃ u, (Wc.alloc (.cells #[.int .i64 2, .int .i64 0, .slice (some ⟨w.heap.size, 0, none⟩) 32 32, .slice none 0 0, .int .i64 2, .int .i64 0, .slice (some ⟨W.heap.size, 0, none⟩) s.size gc, .slice none 0 0] 141)).drew = u := ⟨_, rfl⟩
  have HO2 : Hid (OwnI W2 Wc.heap.size (.slice (some ⟨W.heap.size + 1, 0, none⟩) 2 2) [icByt (some ⟨w.heap.size, 0, none⟩) 32 32, icByt (some ⟨W.heap.size, 0, none⟩) s.size gc]) := Lib.hid (by
    rw [← hW2]
    have h := (ownI_two Wc (icByt (some ⟨w.heap.size, 0, none⟩) 32 32) (icByt (some ⟨W.heap.size, 0, none⟩) s.size gc)).keep (Below.refl _ _).drew
    rw [HCZ.out] at h ⊢
    exact h)
  have HB2 : Hid (Below W.heap.size W W2) := Lib.hid (below_ext HBc.out (by rw [← hW2]; exact (below_box0 _ _).drew))
  have HS2 : Hid (Sk .u8 W2 (some ⟨W.heap.size, 0, none⟩) (bys s)) := Lib.hid (HSc.out.below (by rw [← hW2]; exact (below_box0 _ _).drew))
  have hzW : Wc.heap.size < W2.heap.size := by rw [← hW2]; simp
  rw [hW2]
  clear hW2 hWc hgc HSc HBc
  have hrow : W2.ownsRow Wc.heap.size 141 4 (.slice (some ⟨W.heap.size + 1, 0, none⟩) 2 2) 2 ([icByt (some ⟨w.heap.size, 0, none⟩) 32 32, icByt (some ⟨W.heap.size, 0, none⟩) s.size gc].flatMap itemCells) := HO2.out
  have HSZB := hs
  go_wp2_with (at_builtin; refine wpList_append_own_none rfl _ _ 139 rfl Wc.heap.size 141 i0 4 Tryz.underlying139 hi _ _ _ rfl hrow rfl ?_)
  have HIX : Hid (∃ g cap, (Value.slice (some ⟨W.heap.size + 1, 0, none⟩) 2 2) = .slice (some ⟨g, 0, none⟩) 2 cap ∧ ItR W2 (.lst [.byt h, .byt (bys s)]) ⟨3, 0, none, 0, 0, some ⟨g, 0, none⟩, 2, cap⟩) := Lib.hid (itr_list HO2.out rfl rfl (by decide) (fun k hk => by
    rcases (show k = 0 ∨ k = 1 by omega) with rfl | rfl
    · exact itr_byt (HT0.out.below HB2.out).sk hl.out
    · exact itr_byt HS2.out (bys_len s)))
  obtain ⟨g3, cap3, e3, hit⟩ := HIX.out
  simp only [Value.slice.injEq, Option.some.injEq, Addr.mk.injEq] at e3
  obtain ⟨⟨rfl, -⟩, -, rfl⟩ := e3
  have HIT := Lib.hid hit
  have HB3 := HB2
  have HFIT : Hid (fits 8 (.lst [.byt h, .byt (bys s)])) := Lib.hid (by
    refine ⟨by simp, fun x hx => ?_⟩
    rcases (by simpa using hx : x = .byt h ∨ x = .byt (bys s)) with rfl | rfl
    · exact ⟨⟨by rw [hl.out]; decide, by rw [hl.out]; decide⟩, hb.out⟩
    · exact ⟨⟨by rw [bys_len]; omega, by rw [bys_len]; omega⟩, bys_bytes s⟩)
  have HLEN : Hid ((enc (.lst [.byt h, .byt (bys s)])).length ≤ 16384) := Lib.hid (by
    rw [enc_lst]
    simp only [encL, enc_byt, List.length_cons, List.length_append, be4_len, hl.out, bys_len, List.length_nil]
    omega)
  clear hit HIX hrow
  rw [show (Value.agg #[.int .i64 3, .int .i64 0, .slice none 0 0, .slice (some ⟨W.heap.size + 1, 0, none⟩) 2 2]) = (Ic.mk 3 0 none 0 0 (some ⟨W.heap.size + 1, 0, none⟩) 2 2).val from rfl]
  refine (encode_any _ _ _ HFIT.out HIT.out HLEN.out).mono ?_
  rintro e w4 ⟨v4, rfl, ho4, hb4⟩
  obtain ⟨E, hE⟩ : ∃ E, enc (.lst [.byt h, .byt (bys s)]) = E := ⟨_, rfl⟩
  have HEB : Hid (bytesB E = true) := Lib.hid (by rw [← hE]; exact enc_bytes HFIT.out)
  have HEL : Hid (0 < E.length ∧ E.length ≤ 16384) := Lib.hid (by rw [← hE]; exact ⟨enc_pos _, HLEN.out⟩)
  rw [hE] at ho4
  obtain ⟨g4, cap4, e4, hg4, -, -, hsk4⟩ := ho4.cells HEL.out.1
  obtain ⟨n4, hn4⟩ : ∃ n, E.length = n := ⟨_, rfl⟩
  rw [hn4] at e4 HEL
  subst e4
  have HN4 := Lib.hid hn4
  have HS4 := Lib.hid hsk4
  have HB4 := Lib.hid (below_ext HB3.out hb4)
  have HEE : Kp (enc (.lst [.byt h, .byt (bys s)]) = E) := ⟨hE⟩
  clear hE hsk4 ho4 hb4 hn4 HIT HLEN HFIT
  obtain ⟨he0, he1⟩ := HEL.out
  go_wp2_with fail
  refine (tagged_any tg ht1 ht2 g4 0 cap4 E n4 HN4 he0 (by omega) HEB _ HS4 (Lib.hid (HV.out.below HB4.out))).mono ?_
  rintro e w5 ⟨rfl, hb5⟩
  have HB5 := Lib.hid (below_ext HB4.out hb5)
  obtain ⟨R, hR⟩ : ∃ R, tagged (bys tg) E = R := ⟨_, rfl⟩
  have HRL : Hid (R.length = 32) := Lib.hid (by rw [← hR]; exact tagged_len _ _)
  have hRe : RR = R := by rw [← HRR0.1, HEE.1, hR]
  subst hRe
  rw [hR, show HashOk RR = .tuple #[.agg (arr .u8 RR), .int .i64 0] from rfl]
  clear hb5 hR HS4 HB4
  have HR5 : Hid (Blk .u8 54 w5 (w.heap.size + 1) (zer 32)) := Lib.hid (HR0.out.below HB5.out)
  go_wp2_with ((with_reducible show wpList _ _ _ (⟨none, _, _, _, _, _⟩ :: _) _ _); refine wpList_store_row rfl 54 _ _ rfl (w.heap.size + 1) (arr .u8 RR) rfl rfl _ _ HR5.out (hash_info HRL.out) (arrs_sz (l := zer 32) rfl HRL.out) (arr_one _) ?_)
  have HRR : Hid (Blk .u8 54 (w5.setRow (w.heap.size + 1) (arr .u8 RR)) (w.heap.size + 1) RR) := Lib.hid HR5.out.setRow
  have HBF : Below w.heap.size w (w5.setRow (w.heap.size + 1) (arr .u8 RR)) := below_setRow' (below_ext HBX.out HB5.out) (Nat.le_succ _)
  exact bodyPost_ret (v := HashOk RR) (results_cell_tmp2 (p := 8) (q := 9) (ty := 54) rfl _ _ ⟨w.heap.size + 1, 0, none⟩ _ _ rfl rfl (run_loadVar_row _ _ _ _ _ _ _ HRR.out Tryz.underlying54 rfl (hash_info HRL.out))) rfl ⟨rfl, HBF⟩
set_option maxHeartbeats 3200000 in
theorem hash1_any (tg : ByteArray) (ht1 : 1 ≤ tg.size) (ht2 : tg.size ≤ 100) (h : List Int) (hl : Hid (h.length = 32)) (hb : Hid (bytesB h = true)) (c : Int) (s : ByteArray) (hs0 : 1 ≤ s.size) (hs : s.size ≤ 1000) (item : It) (cI : Ic) (gm cm : Nat) (w : World) (hv : Hid (VarsD w)) (hF : Hid (Four w gm 0 cI)) (hI : Hid (ItR w item cI)) (hfi : Hid (fits 7 item)) (hle : Hid ((enc item).length ≤ 14000)) :
    Calls Tryz.prog 117 #[.string tg, .agg (tcs h c), .string s, .slice (some ⟨gm, 0, none⟩) 1 cm] w fun e w' => e = .returned (HashOk (tagged (bys tg) (enc (.lst [.byt h, .byt (bys s), item])))) ∧ Below w.heap.size w w' := by
  obtain ⟨i0, hi, hz0, hz1, hz2⟩ := info_parts itemInfo
  obtain ⟨RR, hRR⟩ : ∃ R, tagged (bys tg) (enc (.lst [.byt h, .byt (bys s), item])) = R := ⟨_, rfl⟩
  rw [hRR]
  have HRR0 : Kp (tagged (bys tg) (enc (.lst [.byt h, .byt (bys s), item])) = RR) := ⟨hRR⟩
  clear hRR
  obtain ⟨W, hW⟩ : ∃ W, (w.alloc (.cells (tcs h c) 85)).alloc (.cells #[.int .u8 0, .int .u8 0, .int .u8 0, .int .u8 0, .int .u8 0, .int .u8 0, .int .u8 0, .int .u8 0, .int .u8 0, .int .u8 0, .int .u8 0, .int .u8 0, .int .u8 0, .int .u8 0, .int .u8 0, .int .u8 0, .int .u8 0, .int .u8 0, .int .u8 0, .int .u8 0, .int .u8 0, .int .u8 0, .int .u8 0, .int .u8 0, .int .u8 0, .int .u8 0, .int .u8 0, .int .u8 0, .int .u8 0, .int .u8 0, .int .u8 0, .int .u8 0] 54) = W := ⟨_, rfl⟩
  have HBX : Hid (Below w.heap.size w W) := Lib.hid (by rw [← hW]; exact below_two (Below.refl _ _))
  have HT0 : Hid (TBlk W w.heap.size h c) := Lib.hid (by rw [← hW]; exact heap_alloc2_old _ _ _)
  have HR0 : Hid (Blk .u8 54 W (w.heap.size + 1) (zer 32)) := Lib.hid (by rw [← hW, zarrh]; exact heap_alloc2_new _ _ _)
  have HSZ : Hid (W.heap.size = w.heap.size + 2) := Lib.hid (by rw [← hW]; simp)
  have HV := Lib.hid (hv.out.below HBX.out)
  have HW := Lib.hid hW
  have hcv := fun w => run_bytes_of_string (P := Tryz.prog) w 9 114 5 s Tryz.underlying9 Tryz.underlying114 Tryz.underlying5
  clear hW hv
  go_enter Tryz.func117, Tryz.ntmps117
  go_upto_region 1 with (fail)
  rw [HW.out]
  go_upto_region 2 with (fail)
  clear hcv HW
  obtain ⟨gc, hgc⟩ : ∃ g, grownCap W s.size 0 5 = g := ⟨_, rfl⟩
  rw [hgc]
  obtain ⟨Wc, hWc⟩ : ∃ u, W.alloc (.cells (bytesRow s gc) 5 ((bytesRow s gc).size, (bytesRow s gc).size + 1)) = u := ⟨_, rfl⟩
  rw [hWc]
  have HBc : Hid (Below W.heap.size W Wc) := Lib.hid (by rw [← hWc]; exact below_box0 _ _)
  have HSc : Hid (Sk .u8 Wc (some ⟨W.heap.size, 0, none⟩) (bys s)) := Lib.hid (by rw [← hWc]; exact bys_sk (heap_alloc_new W _))
  have HCZ : Hid (Wc.heap.size = W.heap.size + 1) := Lib.hid (by rw [← hWc]; simp)
  obtain ⟨W2, hW2⟩ : ∃ u, (Wc.alloc (.cells #[.int .i64 2, .int .i64 0, .slice (some ⟨w.heap.size, 0, none⟩) 32 32, .slice none 0 0, .int .i64 2, .int .i64 0, .slice (some ⟨W.heap.size, 0, none⟩) s.size gc, .slice none 0 0] 141)).drew = u := ⟨_, rfl⟩
  have HO2 : Hid (OwnI W2 Wc.heap.size (.slice (some ⟨W.heap.size + 1, 0, none⟩) 2 2) [icByt (some ⟨w.heap.size, 0, none⟩) 32 32, icByt (some ⟨W.heap.size, 0, none⟩) s.size gc]) := Lib.hid (by
    rw [← hW2]
    have h := (ownI_two Wc (icByt (some ⟨w.heap.size, 0, none⟩) 32 32) (icByt (some ⟨W.heap.size, 0, none⟩) s.size gc)).keep (Below.refl _ _).drew
    rw [HCZ.out] at h ⊢
    exact h)
  have HB2 : Hid (Below W.heap.size W W2) := Lib.hid (below_ext HBc.out (by rw [← hW2]; exact (below_box0 _ _).drew))
  have HS2 : Hid (Sk .u8 W2 (some ⟨W.heap.size, 0, none⟩) (bys s)) := Lib.hid (HSc.out.below (by rw [← hW2]; exact (below_box0 _ _).drew))
  have hzW : Wc.heap.size < W2.heap.size := by rw [← hW2]; simp
  rw [hW2]
  clear hW2 hWc hgc HSc HBc
  have hrow : W2.ownsRow Wc.heap.size 141 4 (.slice (some ⟨W.heap.size + 1, 0, none⟩) 2 2) 2 ([icByt (some ⟨w.heap.size, 0, none⟩) 32 32, icByt (some ⟨W.heap.size, 0, none⟩) s.size gc].flatMap itemCells) := HO2.out
  have HSZB := hs
  have HF2 : Hid (Four W2 gm 0 cI) := Lib.hid ((hF.out.below HBX.out).below HB2.out)
  have HI2 : Hid (ItR W2 item cI) := Lib.hid ((hI.out.kept HBX.out).kept HB2.out)
  have HBW : Wc.heap.size ≤ W2.heap.size := by omega
  have b1 : 2 + 1 ≤ maxLen := by unfold maxLen; omega
  have b2 : (2 + 1) * 64 ≤ 140737488355328 := by omega
  have HNW : ∀ (j : Nat) (u : Value), (itemCells cI)[j]? = some u → W2.cell? ((⟨gm, 0, none⟩ : Addr).add j) = some u := four_news HF2.out
  go_wp2_with (at_builtin; refine wpList_append_lies rfl _ _ 139 rfl Wc.heap.size 141 i0 (.agg #[.int .i64 0, .int .i64 0, .slice none 0 0, .slice none 0 0]) 4 64 Tryz.underlying139 hi hz0 hz1 hz2 rfl (by decide) _ _ _ rfl hrow ⟨gm, 0, none⟩ 1 cm (itemCells cI) rfl rfl HNW (itemCells_one cI) (by decide) b1 b2 HBW _ rfl ?_; intro g3 cap3 w3 hown3 hgrow3 hat3 hlt3)
  have HB3 : Hid (Below W.heap.size W w3) := Lib.hid (HB2.out.grown hgrow3 (by have := HCZ.out; omega) (fun j hj => by have := HCZ.out; have := (World.ownsRow.lt hrow j hj).1; omega))
  have HB23 : Hid (Below (W.heap.size + 1) W2 w3) := Lib.hid ((Below.refl _ _).grown hgrow3 (by have := HCZ.out; omega) (fun j hj => by have := HCZ.out; have := (World.ownsRow.lt hrow j hj).1; omega))
  have HO3 : Hid (OwnI w3 Wc.heap.size (.slice (some ⟨g3, 0, none⟩) 3 cap3) [icByt (some ⟨w.heap.size, 0, none⟩) 32 32, icByt (some ⟨W.heap.size, 0, none⟩) s.size gc, cI]) := Lib.hid hown3
  have HIX : Hid (∃ g cap, (Value.slice (some ⟨g3, 0, none⟩) 3 cap3) = .slice (some ⟨g, 0, none⟩) 3 cap ∧ ItR w3 (.lst [.byt h, .byt (bys s), item]) ⟨3, 0, none, 0, 0, some ⟨g, 0, none⟩, 3, cap⟩) := Lib.hid (itr_list HO3.out rfl rfl (by decide) (fun k hk => by
    rcases (show k = 0 ∨ k = 1 ∨ k = 2 by omega) with rfl | rfl | rfl
    · exact itr_byt (HT0.out.below HB3.out).sk hl.out
    · exact itr_byt (sk_old HS2.out HB23.out (by omega)) (bys_len s)
    · exact ((hI.out.kept HBX.out).kept HB3.out)))
  obtain ⟨g, cap, e3, hit⟩ := HIX.out
  simp only [Value.slice.injEq, Option.some.injEq, Addr.mk.injEq] at e3
  obtain ⟨⟨rfl, -⟩, -, rfl⟩ := e3
  have HIT := Lib.hid hit
  have HFIT : Hid (fits 8 (.lst [.byt h, .byt (bys s), item])) := Lib.hid (by
    refine ⟨by simp, fun x hx => ?_⟩
    rcases (by simpa using hx : x = .byt h ∨ x = .byt (bys s) ∨ x = item) with rfl | rfl | rfl
    · exact ⟨⟨by rw [hl.out]; decide, by rw [hl.out]; decide⟩, hb.out⟩
    · exact ⟨⟨by rw [bys_len]; omega, by rw [bys_len]; omega⟩, bys_bytes s⟩
    · exact hfi.out)
  have HLEN : Hid ((enc (.lst [.byt h, .byt (bys s), item])).length ≤ 16384) := Lib.hid (by
    have := hle.out
    rw [enc_lst]
    simp only [encL, enc_byt, List.length_cons, List.length_append, be4_len, hl.out, bys_len, List.length_nil]
    omega)
  clear hit HIX hrow HO3 hown3 hgrow3 hat3 hlt3 HNW HF2 HI2 HB23
  rw [show (Value.agg #[.int .i64 3, .int .i64 0, .slice none 0 0, .slice (some ⟨g3, 0, none⟩) 3 cap3]) = (Ic.mk 3 0 none 0 0 (some ⟨g3, 0, none⟩) 3 cap3).val from rfl]
  refine (encode_any _ _ _ HFIT.out HIT.out HLEN.out).mono ?_
  rintro e w4 ⟨v4, rfl, ho4, hb4⟩
  obtain ⟨E, hE⟩ : ∃ E, enc (.lst [.byt h, .byt (bys s), item]) = E := ⟨_, rfl⟩
  have HEB : Hid (bytesB E = true) := Lib.hid (by rw [← hE]; exact enc_bytes HFIT.out)
  have HEL : Hid (0 < E.length ∧ E.length ≤ 16384) := Lib.hid (by rw [← hE]; exact ⟨enc_pos _, HLEN.out⟩)
  rw [hE] at ho4
  obtain ⟨g4, cap4, e4, hg4, -, -, hsk4⟩ := ho4.cells HEL.out.1
  obtain ⟨n4, hn4⟩ : ∃ n, E.length = n := ⟨_, rfl⟩
  rw [hn4] at e4 HEL
  subst e4
  have HN4 := Lib.hid hn4
  have HS4 := Lib.hid hsk4
  have HB4 := Lib.hid (below_ext HB3.out hb4)
  have HEE : Kp (enc (.lst [.byt h, .byt (bys s), item]) = E) := ⟨hE⟩
  clear hE hsk4 ho4 hb4 hn4 HIT HLEN HFIT
  obtain ⟨he0, he1⟩ := HEL.out
  go_wp2_with fail
  refine (tagged_any tg ht1 ht2 g4 0 cap4 E n4 HN4 he0 (by omega) HEB _ HS4 (Lib.hid (HV.out.below HB4.out))).mono ?_
  rintro e w5 ⟨rfl, hb5⟩
  have HB5 := Lib.hid (below_ext HB4.out hb5)
  obtain ⟨R, hR⟩ : ∃ R, tagged (bys tg) E = R := ⟨_, rfl⟩
  have HRL : Hid (R.length = 32) := Lib.hid (by rw [← hR]; exact tagged_len _ _)
  have hRe : RR = R := by rw [← HRR0.1, HEE.1, hR]
  subst hRe
  rw [hR, show HashOk RR = .tuple #[.agg (arr .u8 RR), .int .i64 0] from rfl]
  clear hb5 hR HS4 HB4
  have HR5 : Hid (Blk .u8 54 w5 (w.heap.size + 1) (zer 32)) := Lib.hid (HR0.out.below HB5.out)
  go_wp2_with ((with_reducible show wpList _ _ _ (⟨none, _, _, _, _, _⟩ :: _) _ _); refine wpList_store_row rfl 54 _ _ rfl (w.heap.size + 1) (arr .u8 RR) rfl rfl _ _ HR5.out (hash_info HRL.out) (arrs_sz (l := zer 32) rfl HRL.out) (arr_one _) ?_)
  have HRR : Hid (Blk .u8 54 (w5.setRow (w.heap.size + 1) (arr .u8 RR)) (w.heap.size + 1) RR) := Lib.hid HR5.out.setRow
  have HBF : Below w.heap.size w (w5.setRow (w.heap.size + 1) (arr .u8 RR)) := below_setRow' (below_ext HBX.out HB5.out) (Nat.le_succ _)
  exact bodyPost_ret (v := HashOk RR) (results_cell_tmp2 (p := 8) (q := 9) (ty := 54) rfl _ _ ⟨w.heap.size + 1, 0, none⟩ _ _ rfl rfl (run_loadVar_row _ _ _ _ _ _ _ HRR.out Tryz.underlying54 rfl (hash_info HRL.out))) rfl ⟨rfl, HBF⟩
end Go.Proofs.YtdlhodbiaoafiaaGreatDoor
namespace Go.Proofs.YtdlhodbiaoafiaaGreatDoor
open Go.RowKit SpM
set_option linter.unusedVariables false
set_option linter.unusedSimpArgs false
set_option maxRecDepth 100000
def tagAb : ByteArray := { data := #[115, 112, 101, 99, 105, 101, 47, 97, 98, 115, 111, 114, 98] }
/-- the state behind an item absorbed. -/
def abL (h s : List Int) (i : It) : List Int := tagged (bys tagAb) (enc (.lst [.byt h, .byt s, i]))
theorem abL_len (h s : List Int) (i : It) : (abL h s i).length = 32 := tagged_len _ _
theorem four_cells {w : World} {b : Nat} {c : Ic} {t : TypeId} (h : w.heap[b]? = some (.cells #[.int .i64 c.kind, .int .i64 c.n, .slice c.B c.nb c.cb, .slice c.L c.nl c.cl] t)) : Four w b 0 c :=
  ⟨cell_blk h 0, cell_blk h 1, cell_blk h 2, cell_blk h 3⟩
set_option maxHeartbeats 3200000 in
theorem tabsorb_ok (h : List Int) (hl : Hid (h.length = 32)) (hb : Hid (bytesB h = true)) (c : Int) (hc0 : 0 ≤ c) (hc1 : c < 1000) (s : ByteArray) (hs : s.size ≤ 1000) (hr : Hid (labB (bys s) = true)) (item : It) (cI : Ic) (w : World) (hv : Hid (VarsD w)) (hI : Hid (ItR w item cI)) (hfi : Hid (fits 7 item)) (hle : Hid ((enc item).length ≤ 14000)) :
    Calls Tryz.prog 114 #[.agg (tcs h c), .string s, .agg #[.int .i64 cI.kind, .int .i64 cI.n, .slice cI.B cI.nb cI.cb, .slice cI.L cI.nl cI.cl]] w fun e w' => e = .returned (TrE (abL h (bys s) item) (c + 1) 0) ∧ Below w.heap.size w w' := by
  have hs0 : 1 ≤ s.size := by
    have h := hr.out
    rw [labB, bys_len] at h
    simp at h
    exact h.1.1
  obtain ⟨i0, hi, hz0, hz1, hz2⟩ := info_parts itemInfo
  obtain ⟨W, hW⟩ : ∃ W, ((w.alloc (.cells (tcs h c) 85)).alloc (.cells #[.int .i64 cI.kind, .int .i64 cI.n, .slice cI.B cI.nb cI.cb, .slice cI.L cI.nl cI.cl] 141)).alloc (.cells #[.int .u8 0, .int .u8 0, .int .u8 0, .int .u8 0, .int .u8 0, .int .u8 0, .int .u8 0, .int .u8 0, .int .u8 0, .int .u8 0, .int .u8 0, .int .u8 0, .int .u8 0, .int .u8 0, .int .u8 0, .int .u8 0, .int .u8 0, .int .u8 0, .int .u8 0, .int .u8 0, .int .u8 0, .int .u8 0, .int .u8 0, .int .u8 0, .int .u8 0, .int .u8 0, .int .u8 0, .int .u8 0, .int .u8 0, .int .u8 0, .int .u8 0, .int .u8 0, .int .i64 0] 85) = W := ⟨_, rfl⟩
  have HBX : Hid (Below w.heap.size w W) := Lib.hid (by rw [← hW]; exact below_ext (below_two (Below.refl _ _)) (below_box0 _ _))
  have HT0 : Hid (TBlk W w.heap.size h c) := Lib.hid (by rw [← hW]; exact ((TBlk.new _ _ _).below (below_box0 _ _)).below (below_box0 _ _))
  have HIB : Hid (W.heap[w.heap.size + 1]? = some (.cells #[.int .i64 cI.kind, .int .i64 cI.n, .slice cI.B cI.nb cI.cb, .slice cI.L cI.nl cI.cl] 141 (0, 0))) := Lib.hid (by rw [← hW, ← (show (w.alloc (.cells (tcs h c) 85)).heap.size = w.heap.size + 1 by simp)]; exact heap_alloc2_old _ _ _)
  have HR0 : Hid (TBlk W (w.heap.size + 1 + 1) (zer 32) 0) := Lib.hid (by rw [← hW, ztr, show w.heap.size + 1 + 1 = (w.alloc (.cells (tcs h c) 85)).heap.size + 1 by simp]; exact heap_alloc2_new _ _ _)
  have HSZ : Hid (W.heap.size = w.heap.size + 3) := Lib.hid (by rw [← hW]; simp)
  have HV := Lib.hid (hv.out.below HBX.out)
  have HII := Lib.hid (hI.out.kept HBX.out)
  have HW := Lib.hid hW
  clear hW hv
  go_enter Tryz.func114, Tryz.ntmps114
  go_upto_region 1 with (fail)
  rw [HW.out]
  clear HW
  go_wp2_with ((with_reducible show wpList _ _ _ (⟨some 10, _, _, _, _, _⟩ :: _) _ _); refine wpList_load_row rfl 85 _ rfl w.heap.size rfl _ _ _ _ HT0.out Tryz.underlying85 rfl (tr_info hl.out) ?_)
  refine (tvalid_any h hl c hc0 (by omega) _).mono ?_
  rintro e w1 ⟨rfl, hb1⟩
  have HB1 := Lib.hid (below_ext HBX.out hb1)
  have HT1 := Lib.hid (HT0.out.below hb1)
  have HI1 := Lib.hid (HII.out.kept hb1)
  have HV1 := Lib.hid (HV.out.below hb1)
  have HR1 := Lib.hid (HR0.out.below hb1)
  have HIB1 : Hid (Four w1 (w.heap.size + 1) 0 cI) := Lib.hid (four_cells ((hb1.block _ (by have := HSZ.out; omega)).trans HIB.out))
  clear hb1 HT0 HII HV HR0 HIB HBX
  go_wp2_with fail
  refine (tlabel_any s hs true hr _).mono ?_
  rintro e w2 ⟨rfl, hb2⟩
  have HT2 := Lib.hid (HT1.out.below hb2)
  have HI2 := Lib.hid (HI1.out.kept hb2)
  have HV2 := Lib.hid (HV1.out.below hb2)
  have HR2 := Lib.hid (HR1.out.below hb2)
  have HIB2 := Lib.hid (HIB1.out.below hb2)
  have HB2 := Lib.hid (below_ext HB1.out hb2)
  clear hb2 HT1 HI1 HV1 HR1 HIB1 HB1
  obtain ⟨f0, f1, f2, f3⟩ := HIB2.out
  go_wp2_with ((with_reducible show wpList _ _ _ (⟨some 20, _, _, _, _, _⟩ :: _) _ _); refine wpList_load_row rfl 85 _ rfl w.heap.size rfl _ _ _ _ HT2.out Tryz.underlying85 rfl (tr_info hl.out) ?_)
  clear f0 f1 f2 f3
  obtain ⟨W3, hW3⟩ : ∃ u, w2.alloc (.cells #[.int .i64 cI.kind, .int .i64 cI.n, .slice cI.B cI.nb cI.cb, .slice cI.L cI.nl cI.cl] 141) = u := ⟨_, rfl⟩
  have HF3 : Hid (Four W3 w2.heap.size 0 cI) := Lib.hid (by rw [← hW3]; exact four_cells (heap_alloc_new _ _))
  have hb3 : Below w2.heap.size w2 W3 := by rw [← hW3]; exact below_box0 _ _
  rw [hW3]
  have HI3 := Lib.hid (HI2.out.kept hb3)
  have HV3 := Lib.hid (HV2.out.below hb3)
  refine (hash1_any tagAb (by decide) (by decide) h hl hb c s hs0 hs item cI w2.heap.size 1 W3 HV3 HF3 HI3 hfi hle).mono ?_
  rintro e w4 ⟨rfl, hb4⟩
  have HT4 := Lib.hid ((HT2.out.below hb3).below hb4)
  have HR4 := Lib.hid ((HR2.out.below hb3).below hb4)
  have HB4 := Lib.hid (below_ext (below_ext HB2.out hb3) hb4)
  obtain ⟨R, hR⟩ : ∃ R, tagged (bys tagAb) (enc (.lst [.byt h, .byt (bys s), item])) = R := ⟨_, rfl⟩
  have hRl : R.length = 32 := by rw [← hR]; exact tagged_len _ _
  have HN : Kp (abL h (bys s) item = R) := ⟨hR⟩
  have HRL := Lib.hid hRl
  rw [hR, show HashOk R = .tuple #[.agg (arr .u8 R), .int .i64 0] from rfl]
  clear hb3 hb4 hW3 HF3 HI3 HV3 HT2 HI2 HV2 HR2 HB2 HIB2 hR hRl
  go_upto_region 4 with ((with_reducible show wpList _ _ _ (⟨none, _, _, _, _, _⟩ :: _) _ _); refine wpList_store_row rfl 54 _ _ rfl w4.heap.size (arr .u8 R) rfl rfl _ _ (heap_alloc_new _ _) (hash_info HRL.out) (arrs_sz (l := zer 32) rfl HRL.out) (arr_one _) ?_)
  rw [World.setRow_alloc_new]
  try simp only [Act.put]
  have HK3 : Hid (Blk .u8 54 (w4.alloc (.cells (arr .u8 R) 54)) w4.heap.size R) := Lib.hid (Blk.new _ _)
  have HT5 := Lib.hid (HT4.out.below (below_box0 w4 (.cells (arr .u8 R) 54)))
  have HR5 := Lib.hid (HR4.out.below (below_box0 w4 (.cells (arr .u8 R) 54)))
  have HB5 := Lib.hid (below_ext HB4.out (below_box0 w4 (.cells (arr .u8 R) 54)))
  obtain ⟨W5, hW5⟩ : ∃ u, w4.alloc (.cells (arr .u8 R) 54) = u := ⟨_, rfl⟩
  rw [hW5] at HK3 HT5 HR5 HB5 ⊢
  clear hW5
  have hcnt := HT5.out.count hl.out
  have hcn : ¬ (c = 1000) := by omega
  have hwr : IntKind.i64.wrap (c + 1) = c + 1 := IntWalk.i64_in _ (by omega)
  go_wp2_with (first
    | ((with_reducible show wpList _ _ _ (⟨some 40, _, _, _, _, _⟩ :: _) _ _); refine wpList_load_row rfl 54 _ rfl w4.heap.size rfl _ _ _ _ HK3.out Tryz.underlying54 rfl (hash_info HRL.out) ?_)
    | ((with_reducible show wpList _ _ _ (⟨some 44, _, _, _, _, _⟩ :: _) _ _); refine wpList_built rfl 85 _ rfl _ (built2 R HRL.out (c + 1)) ?_)
    | ((with_reducible show wpList _ _ _ (⟨none, _, _, _, _, _⟩ :: _) _ _); refine wpList_store_row rfl 85 _ _ rfl (w.heap.size + 1 + 1) (tcs R (c + 1)) rfl rfl _ _ HR5.out (tr_info HRL.out) (tcs_sz rfl HRL.out) (tcs_one _ _) ?_))
  have HRR : Hid (TBlk (W5.setRow (w.heap.size + 1 + 1) (tcs R (c + 1))) (w.heap.size + 1 + 1) R (c + 1)) := Lib.hid HR5.out.setRow
  have HBF : Below w.heap.size w (W5.setRow (w.heap.size + 1 + 1) (tcs R (c + 1))) := below_setRow' HB5.out (by omega)
  exact bodyPost_ret (v := TrE R (c + 1) 0) (results_cell_tmp2 (p := 6) (q := 7) (ty := 85) rfl _ _ ⟨w.heap.size + 1 + 1, 0, none⟩ _ _ rfl rfl (run_loadVar_row _ _ _ _ _ _ _ HRR.out Tryz.underlying85 rfl (tr_info HRL.out))) rfl ⟨by rw [HN.out], HBF⟩
end Go.Proofs.YtdlhodbiaoafiaaGreatDoor
namespace Go.Proofs.YtdlhodbiaoafiaaGreatDoor
open Go.RowKit SpM
set_option linter.unusedVariables false
set_option linter.unusedSimpArgs false
set_option maxRecDepth 100000
set_option maxHeartbeats 3200000 in
theorem tints_ok (h : List Int) (hl : Hid (h.length = 32)) (hb : Hid (bytesB h = true)) (c : Int) (hc0 : 0 ≤ c) (hc1 : c < 1000) (s : ByteArray) (hs : s.size ≤ 1000) (hr : Hid (labB (bys s) = true)) (A : Option Addr) (l : List Int) (n cA : Nat) (hn : Hid (l.length = n)) (hbig : n ≤ 1000) (w : World) (hv : Hid (VarsD w)) (hS : Hid (Sl w A l)) (hfi : Hid (fits 7 (.lst (l.map .int)))) (hle : Hid ((enc (.lst (l.map .int))).length ≤ 14000)) :
    Calls Tryz.prog 85 #[.agg (tcs h c), .string s, .slice A n cA] w fun e w' => e = .returned (TrE (abL h (bys s) (.lst (l.map .int))) (c + 1) 0) ∧ Below w.heap.size w w' := by
  obtain ⟨W, hW⟩ : ∃ W, (w.alloc (.cells (tcs h c) 85)).alloc (.cells #[.int .u8 0, .int .u8 0, .int .u8 0, .int .u8 0, .int .u8 0, .int .u8 0, .int .u8 0, .int .u8 0, .int .u8 0, .int .u8 0, .int .u8 0, .int .u8 0, .int .u8 0, .int .u8 0, .int .u8 0, .int .u8 0, .int .u8 0, .int .u8 0, .int .u8 0, .int .u8 0, .int .u8 0, .int .u8 0, .int .u8 0, .int .u8 0, .int .u8 0, .int .u8 0, .int .u8 0, .int .u8 0, .int .u8 0, .int .u8 0, .int .u8 0, .int .u8 0, .int .i64 0] 85) = W := ⟨_, rfl⟩
  have HBX : Hid (Below w.heap.size w W) := Lib.hid (by rw [← hW]; exact below_two (Below.refl _ _))
  have HT0 : Hid (TBlk W w.heap.size h c) := Lib.hid (by rw [← hW]; exact heap_alloc2_old _ _ _)
  have HR0 : Hid (TBlk W (w.heap.size + 1) (zer 32) 0) := Lib.hid (by rw [← hW, ztr]; exact heap_alloc2_new _ _ _)
  have HV := Lib.hid (hv.out.below HBX.out)
  have HSL := Lib.hid (hS.out.below HBX.out)
  have HW := Lib.hid hW
  clear hW hv
  go_enter Tryz.func85, Tryz.ntmps85
  go_upto_region 1 with (fail)
  rw [HW.out]
  clear HW
  have HBd := Lib.hid ((Below.refl W.heap.size W).drew)
  have HTd := Lib.hid (HT0.out.below HBd.out)
  have HRd := Lib.hid (HR0.out.below HBd.out)
  have HVd := Lib.hid (HV.out.below HBd.out)
  have HSd := Lib.hid (HSL.out.below HBd.out)
  have HB3 := Lib.hid (below_ext HBX.out HBd.out)
  obtain ⟨Wd, hWd⟩ : ∃ u, W.drew = u := ⟨_, rfl⟩
  refine wp_region_T (S := fun w' => w'.heap[w.heap.size]? = some (.cells (tcs h c) 85 (0, 0))) (E := [7, 8]) (by kernel_rfl) (HTd.out) (fun hHeld => ?_)
  refine wpT_take (i := 0) (oi := _) (v := (.agg (tcs h c))) rfl (by kernel_rfl) (by kernel_rfl) (by kernel_rfl) (by kernel_rfl) (fun _ _ _ h => h) (Or.inl ⟨by rfl, yields_row 85 _ rfl w.heap.size rfl _ _ _ _ (fun _ h => h) Tryz.underlying85 rfl (tr_info hl.out)⟩) (by assumption) ?_
  try simp only [List.getElem_toArray, List.getElem_cons_zero, List.getElem_cons_succ, Act.put, List.setIfInBounds_toArray, List.set_cons_zero, List.set_cons_succ]
  refine wpT_take (i := 1) (oi := _) (v := ?_) rfl (by kernel_rfl) (by kernel_rfl) (by kernel_rfl) (by kernel_rfl) (fun _ _ _ h => h) (Or.inl ⟨by rfl, ?_⟩) (by assumption) ?_
  rotate_left; (intro wS hSw; (try dsimp only at hSw); go_simp <;> with_reducible rfl)
  try simp only [List.getElem_toArray, List.getElem_cons_zero, List.getElem_cons_succ, Act.put, List.setIfInBounds_toArray, List.set_cons_zero, List.set_cons_succ]
  refine wpT_take (i := 2) (oi := _) (v := ?_) rfl (by kernel_rfl) (by kernel_rfl) (by kernel_rfl) (by kernel_rfl) (fun _ _ _ h => h) (Or.inl ⟨by rfl, ?_⟩) (by assumption) ?_
  rotate_left; (intro wS hSw; (try dsimp only at hSw); go_simp <;> with_reducible rfl)
  try simp only [List.getElem_toArray, List.getElem_cons_zero, List.getElem_cons_succ, Act.put, List.setIfInBounds_toArray, List.set_cons_zero, List.set_cons_succ]
  refine wpT_one (i := 3) (by kernel_rfl) rfl (fun K hK => ?_)
  go_simp
  try rw [hWd]
  rw [hWd] at HBd HTd HRd HVd HSd HB3
  refine (ints_any A l n cA hn (by omega) _ HSd).mono ?_
  rintro e w4 ⟨cI, rfl, hI4, hb4⟩
  refine hK.out _ _ ?_ (fun hHeld => ?_)
  · exact HTd.out.below hb4
  clear hK K
  try simp only [List.getElem_toArray, List.getElem_cons_zero, List.getElem_cons_succ, Act.put, List.setIfInBounds_toArray, List.set_cons_zero, List.set_cons_succ]
  refine wpT_one (i := 4) (by kernel_rfl) rfl (fun K hK => ?_)
  go_simp
  have HV4 := Lib.hid (HVd.out.below hb4)
  rw [show cI.val = (.agg #[.int .i64 cI.kind, .int .i64 cI.n, .slice cI.B cI.nb cI.cb, .slice cI.L cI.nl cI.cl] : Value) from rfl]
  refine (tabsorb_ok h hl hb c hc0 hc1 s hs hr _ cI _ HV4 (Lib.hid hI4) hfi hle).mono ?_
  rintro e w5 ⟨rfl, hb5⟩
  have HR5 := Lib.hid ((HRd.out.below hb4).below hb5)
  have HB5 := Lib.hid (below_ext (below_ext HB3.out hb4) hb5)
  obtain ⟨R, hR⟩ : ∃ R, abL h (bys s) (.lst (l.map .int)) = R := ⟨_, rfl⟩
  have hRl : R.length = 32 := by rw [← hR]; exact abL_len _ _ _
  have HN : Kp (abL h (bys s) (.lst (l.map .int)) = R) := ⟨hR⟩
  have HRL := Lib.hid hRl
  rw [hR, show TrE R (c + 1) 0 = .tuple #[.agg (tcs R (c + 1)), .int .i64 0] from rfl]
  refine hK.out _ _ ?_ (fun hHeld => ?_)
  · exact (HTd.out.below hb4).below hb5
  clear hK K
  try simp only [List.getElem_toArray, List.getElem_cons_zero, List.getElem_cons_succ, Act.put, List.setIfInBounds_toArray, List.set_cons_zero, List.set_cons_succ]
  refine wpT_take (i := 5) (oi := _) (v := ?_) rfl (by kernel_rfl) (by kernel_rfl) (by kernel_rfl) (by kernel_rfl) (fun _ _ _ h => h) (Or.inl ⟨by rfl, ?_⟩) (by assumption) ?_
  rotate_left; (intro wS hSw; (try dsimp only at hSw); go_simp <;> with_reducible rfl)
  try simp only [List.getElem_toArray, List.getElem_cons_zero, List.getElem_cons_succ, Act.put, List.setIfInBounds_toArray, List.set_cons_zero, List.set_cons_succ]
  refine wpT_take (i := 6) (oi := _) (v := ?_) rfl (by kernel_rfl) (by kernel_rfl) (by kernel_rfl) (by kernel_rfl) (fun _ _ _ h => h) (Or.inl ⟨by rfl, ?_⟩) (by assumption) ?_
  rotate_left; (intro wS hSw; (try dsimp only at hSw); go_simp <;> with_reducible rfl)
  try simp only [List.getElem_toArray, List.getElem_cons_zero, List.getElem_cons_succ, Act.put, List.setIfInBounds_toArray, List.set_cons_zero, List.set_cons_succ]
  refine wpT_pass (i := 7) (by kernel_rfl) (by simp) rfl (fun K hK => ?_)
  rw [show (if Region.wanted _ _ = true then _ else _ : Prop) = _ from if_pos rfl]
  refine wp_store_row 85 _ _ rfl (w.heap.size + 1) (tcs R (c + 1)) rfl rfl 85 _ HR5.out (tr_info HRL.out) (tcs_sz rfl HRL.out) (tcs_one _ _) ?_
  refine hK.out _ _ ?_
  clear hK K
  try simp only [List.getElem_toArray, List.getElem_cons_zero, List.getElem_cons_succ, Act.put, List.setIfInBounds_toArray, List.set_cons_zero, List.set_cons_succ]
  refine wpT_pass (i := 8) (by kernel_rfl) (by simp) rfl (fun K hK => ?_)
  go_simp
  refine hK.out _ _ ?_
  clear hK K
  try simp only [List.getElem_toArray, List.getElem_cons_zero, List.getElem_cons_succ, Act.put, List.setIfInBounds_toArray, List.set_cons_zero, List.set_cons_succ]
  refine wpT_done (by kernel_rfl) ?_ _
  have HRR : Hid (TBlk (w5.setRow (w.heap.size + 1) (tcs R (c + 1))) (w.heap.size + 1) R (c + 1)) := Lib.hid HR5.out.setRow
  have HBF : Below w.heap.size w (w5.setRow (w.heap.size + 1) (tcs R (c + 1))) := below_setRow' HB5.out (by omega)
  clear hR hRl hb4 hb5 hI4 HV4 HB5 HR5 hWd
  go_wp2
  exact bodyPost_ret (v := TrE R (c + 1) 0) (results_cell_tmp2 (p := 6) (q := 7) (ty := 85) rfl _ _ ⟨w.heap.size + 1, 0, none⟩ _ _ rfl rfl (run_loadVar_row _ _ _ _ _ _ _ HRR.out Tryz.underlying85 rfl (tr_info HRL.out))) rfl ⟨by rw [HN.out], HBF⟩
end Go.Proofs.YtdlhodbiaoafiaaGreatDoor
namespace Go.Proofs.YtdlhodbiaoafiaaGreatDoor
open Go.RowKit SpM
set_option linter.unusedVariables false
set_option linter.unusedSimpArgs false
set_option maxRecDepth 100000
def tagCh : ByteArray := { data := #[115, 112, 101, 99, 105, 101, 47, 99, 104, 97, 108, 108, 101, 110, 103, 101] }
/-- the digest that a challenge is made of. -/
def chD (h s : List Int) : List Int := tagged (bys tagCh) (enc (.lst [.byt h, .byt s]))
/-- the challenge. -/
def chN (q : Int) (h s : List Int) : Int := numv q (chD h s)
/-- the state behind a challenge. -/
def chL (q : Int) (h s : List Int) : List Int := abL h s (.int (chN q h s))
theorem chD_bytes (h s : List Int) : bytesB (chD h s) = true := sha_bytes _
theorem results_cell_tmp3 {P : Program} {fn : Func} {p q r : Tmp} {ty : TypeId} (h : fn.results = #[.cell p ty, .tmp q, .tmp r]) (tmps : Array Value) (w : World) (a : Addr) (v u x : Value)
    (hp : tmps.getD p undef = .pointer (some a)) (hq : tmps.getD q undef = u) (hr : tmps.getD r undef = x) (hl : (loadVar ty a).run P w = .ok v w) : (results fn tmps).run P w = .ok (.tuple #[v, u, x]) w := by
  have hp' : tmps[p]?.getD undef = .pointer (some a) := by simpa using hp
  have hq' : tmps[q]?.getD undef = u := by simpa using hq
  have hr' : tmps[r]?.getD undef = x := by simpa using hr
  simp [results, h, hp', hq', hr', asAddr, hl]
/-- the answer of a challenge. -/
def ChE (h : List Int) (c n e : Int) : Value := .tuple #[.agg (tcs h c), .int .i64 n, .int .i64 e]
set_option maxHeartbeats 3200000 in
theorem tchal_ok (h : List Int) (hl : Hid (h.length = 32)) (hb : Hid (bytesB h = true)) (c : Int) (hc0 : 0 ≤ c) (hc1 : c < 1000) (s : ByteArray) (hs : s.size ≤ 1000) (hr : Hid (labB (bys s) = true)) (q : Int) (hq1 : 2 ≤ q) (hq2 : q < 2305843009213693952) (w : World) (hv : Hid (VarsD w)) :
    Calls Tryz.prog 86 #[.agg (tcs h c), .string s, .int .i64 q] w fun e w' => e = .returned (ChE (chL q h (bys s)) (c + 1) (chN q h (bys s)) 0) ∧ Below w.heap.size w w' := by
  have hs0 : 1 ≤ s.size := by
    have h := hr.out
    rw [labB, bys_len] at h
    simp at h
    exact h.1.1
  obtain ⟨W, hW⟩ : ∃ W, (w.alloc (.cells (tcs h c) 85)).alloc (.cells #[.int .u8 0, .int .u8 0, .int .u8 0, .int .u8 0, .int .u8 0, .int .u8 0, .int .u8 0, .int .u8 0, .int .u8 0, .int .u8 0, .int .u8 0, .int .u8 0, .int .u8 0, .int .u8 0, .int .u8 0, .int .u8 0, .int .u8 0, .int .u8 0, .int .u8 0, .int .u8 0, .int .u8 0, .int .u8 0, .int .u8 0, .int .u8 0, .int .u8 0, .int .u8 0, .int .u8 0, .int .u8 0, .int .u8 0, .int .u8 0, .int .u8 0, .int .u8 0, .int .i64 0] 85) = W := ⟨_, rfl⟩
  have HBX : Hid (Below w.heap.size w W) := Lib.hid (by rw [← hW]; exact below_two (Below.refl _ _))
  have HT0 : Hid (TBlk W w.heap.size h c) := Lib.hid (by rw [← hW]; exact heap_alloc2_old _ _ _)
  have HR0 : Hid (TBlk W (w.heap.size + 1) (zer 32) 0) := Lib.hid (by rw [← hW, ztr]; exact heap_alloc2_new _ _ _)
  have HV := Lib.hid (hv.out.below HBX.out)
  have HW := Lib.hid hW
  have hcn : ¬ (c = 1000) := by omega
  have hqa : ¬ (q < 2) := by omega
  have hqb : ¬ (2305843009213693952 ≤ q) := by omega
  clear hW hv
  go_enter Tryz.func86, Tryz.ntmps86
  go_upto_region 1 with (fail)
  rw [HW.out]
  clear HW
  go_wp2_with ((with_reducible show wpList _ _ _ (⟨some 14, _, _, _, _, _⟩ :: _) _ _); refine wpList_load_row rfl 85 _ rfl w.heap.size rfl _ _ _ _ HT0.out Tryz.underlying85 rfl (tr_info hl.out) ?_)
  refine (tvalid_any h hl c hc0 (by omega) _).mono ?_
  rintro e w1 ⟨rfl, hb1⟩
  have HB1 := Lib.hid (below_ext HBX.out hb1)
  have HT1 := Lib.hid (HT0.out.below hb1)
  have HV1 := Lib.hid (HV.out.below hb1)
  have HR1 := Lib.hid (HR0.out.below hb1)
  clear hb1 HT0 HV HR0 HBX
  go_wp2_with fail
  refine (tlabel_any s hs true hr _).mono ?_
  rintro e w2 ⟨rfl, hb2⟩
  have HT2 := Lib.hid (HT1.out.below hb2)
  have HV2 := Lib.hid (HV1.out.below hb2)
  have HR2 := Lib.hid (HR1.out.below hb2)
  have HB2 := Lib.hid (below_ext HB1.out hb2)
  clear hb2 HT1 HV1 HR1 HB1
  have hcnt := HT2.out.count hl.out
  go_wp2_with ((with_reducible show wpList _ _ _ (⟨some 37, _, _, _, _, _⟩ :: _) _ _); refine wpList_load_row rfl 85 _ rfl w.heap.size rfl _ _ _ _ HT2.out Tryz.underlying85 rfl (tr_info hl.out) ?_)
  clear hcnt
  refine (hash0_any tagCh (by decide) (by decide) h hl hb c s hs0 hs _ HV2).mono ?_
  rintro e w4 ⟨rfl, hb4⟩
  have HT4 := Lib.hid (HT2.out.below hb4)
  have HR4 := Lib.hid (HR2.out.below hb4)
  have HV4 := Lib.hid (HV2.out.below hb4)
  have HB4 := Lib.hid (below_ext HB2.out hb4)
  obtain ⟨R, hR⟩ : ∃ R, tagged (bys tagCh) (enc (.lst [.byt h, .byt (bys s)])) = R := ⟨_, rfl⟩
  have hRl : R.length = 32 := by rw [← hR]; exact tagged_len _ _
  have HRB : Hid (bytesB R = true) := Lib.hid (by rw [← hR]; exact chD_bytes _ _)
  have HN : Kp (chD h (bys s) = R) := ⟨hR⟩
  have HRL := Lib.hid hRl
  rw [hR, show HashOk R = .tuple #[.agg (arr .u8 R), .int .i64 0] from rfl]
  clear hb4 HT2 HV2 HR2 HB2 hR hRl
  go_upto_region 8 with ((with_reducible show wpList _ _ _ (⟨none, _, _, _, _, _⟩ :: _) _ _); refine wpList_store_row rfl 54 _ _ rfl w4.heap.size (arr .u8 R) rfl rfl _ _ (heap_alloc_new _ _) (hash_info HRL.out) (arrs_sz (l := zer 32) rfl HRL.out) (arr_one _) ?_)
  rw [World.setRow_alloc_new]
  try simp only [Act.put]
  have HK5 : Hid (Blk .u8 54 (w4.alloc (.cells (arr .u8 R) 54)) w4.heap.size R) := Lib.hid (Blk.new _ _)
  have HT5 := Lib.hid (HT4.out.below (below_box0 w4 (.cells (arr .u8 R) 54)))
  have HR5 := Lib.hid (HR4.out.below (below_box0 w4 (.cells (arr .u8 R) 54)))
  have HV5 := Lib.hid (HV4.out.below (below_box0 w4 (.cells (arr .u8 R) 54)))
  have HB5 := Lib.hid (below_ext HB4.out (below_box0 w4 (.cells (arr .u8 R) 54)))
  obtain ⟨W5, hW5⟩ : ∃ u, w4.alloc (.cells (arr .u8 R) 54) = u := ⟨_, rfl⟩
  rw [hW5] at HK5 HT5 HR5 HB5 HV5 ⊢
  clear hW5 HT4 HR4 HV4 HB4
  go_wp2_with ((with_reducible show wpList _ _ _ (⟨some 47, _, _, _, _, _⟩ :: _) _ _); refine wpList_load_row rfl 54 _ rfl w4.heap.size rfl _ _ _ _ HK5.out Tryz.underlying54 rfl (hash_info HRL.out) ?_)
  refine (number_any R HRL HRB q (by omega) hq2 _).mono ?_
  rintro e w6 ⟨rfl, hb6⟩
  have HT6 := Lib.hid (HT5.out.below hb6)
  have HR6 := Lib.hid (HR5.out.below hb6)
  have HV6 := Lib.hid (HV5.out.below hb6)
  have HB6 := Lib.hid (below_ext HB5.out hb6)
  obtain ⟨n, hn⟩ : ∃ n, numv q R = n := ⟨_, rfl⟩
  have hn0 : 0 ≤ n ∧ n < q := by rw [← hn]; exact numL_lo (by omega) 16
  obtain ⟨hn1, hn2⟩ := hn0
  have HNN : Kp (chN q h (bys s) = n) := ⟨by rw [chN, HN.1]; exact hn⟩
  rw [hn]
  clear hb6 hn HT5 HR5 HV5 HB5 HK5
  go_wp2_with ((with_reducible show wpList _ _ _ (⟨some 57, _, _, _, _, _⟩ :: _) _ _); refine wpList_load_row rfl 85 _ rfl w.heap.size rfl _ _ _ _ HT6.out Tryz.underlying85 rfl (tr_info hl.out) ?_)
  refine (tabsorb_ok h hl hb c hc0 hc1 s hs hr (.int n) ⟨1, n, none, 0, 0, none, 0, 0⟩ _ HV6 (Lib.hid (.int n _ rfl rfl rfl rfl)) (Lib.hid ⟨by omega, by omega⟩) (Lib.hid (by rw [enc_int, List.length_cons, be8_len]; decide))).mono ?_
  rintro e w7 ⟨rfl, hb7⟩
  have HR7 := Lib.hid (HR6.out.below hb7)
  have HB7 := Lib.hid (below_ext HB6.out hb7)
  obtain ⟨G, hG⟩ : ∃ G, abL h (bys s) (.int n) = G := ⟨_, rfl⟩
  have HGL : Hid (G.length = 32) := Lib.hid (by rw [← hG]; exact abL_len _ _ _)
  have HNG : Kp (chL q h (bys s) = G) := ⟨by rw [chL, HNN.1]; exact hG⟩
  rw [hG, show TrE G (c + 1) 0 = .tuple #[.agg (tcs G (c + 1)), .int .i64 0] from rfl]
  clear hb7 hG HR6 HB6 HT6 HV6
  go_upto_region 14 with ((with_reducible show wpList _ _ _ (⟨none, _, _, _, _, _⟩ :: _) _ _); refine wpList_store_row rfl 85 _ _ rfl w7.heap.size (tcs G (c + 1)) rfl rfl _ _ (heap_alloc_new _ _) (tr_info HGL.out) (tcs_sz (h := zer 32) (c := 0) rfl HGL.out) (tcs_one _ _) ?_)
  rw [World.setRow_alloc_new]
  try simp only [Act.put]
  have HK8 : Hid (TBlk (w7.alloc (.cells (tcs G (c + 1)) 85)) w7.heap.size G (c + 1)) := Lib.hid (TBlk.new _ _ _)
  have HR8 := Lib.hid (HR7.out.below (below_box0 w7 (.cells (tcs G (c + 1)) 85)))
  have HB8 := Lib.hid (below_ext HB7.out (below_box0 w7 (.cells (tcs G (c + 1)) 85)))
  obtain ⟨W8, hW8⟩ : ∃ u, w7.alloc (.cells (tcs G (c + 1)) 85) = u := ⟨_, rfl⟩
  rw [hW8] at HK8 HR8 HB8 ⊢
  clear hW8 HR7 HB7
  go_wp2_with (first
    | ((with_reducible show wpList _ _ _ (⟨some 68, _, _, _, _, _⟩ :: _) _ _); refine wpList_load_row rfl 85 _ rfl w7.heap.size rfl _ _ _ _ HK8.out Tryz.underlying85 rfl (tr_info HGL.out) ?_)
    | ((with_reducible show wpList _ _ _ (⟨none, _, _, _, _, _⟩ :: _) _ _); refine wpList_store_row rfl 85 _ _ rfl (w.heap.size + 1) (tcs G (c + 1)) rfl rfl _ _ HR8.out (tr_info HGL.out) (tcs_sz rfl HGL.out) (tcs_one _ _) ?_))
  have HRR : Hid (TBlk (W8.setRow (w.heap.size + 1) (tcs G (c + 1))) (w.heap.size + 1) G (c + 1)) := Lib.hid HR8.out.setRow
  have HBF : Below w.heap.size w (W8.setRow (w.heap.size + 1) (tcs G (c + 1))) := below_setRow' HB8.out (by omega)
  exact bodyPost_ret (v := ChE G (c + 1) n 0) (results_cell_tmp3 (p := 6) (q := 7) (r := 8) (ty := 85) rfl _ _ ⟨w.heap.size + 1, 0, none⟩ _ _ _ rfl rfl rfl (run_loadVar_row _ _ _ _ _ _ _ HRR.out Tryz.underlying85 rfl (tr_info HGL.out))) rfl ⟨by rw [HNG.out, HNN.out], HBF⟩
end Go.Proofs.YtdlhodbiaoafiaaGreatDoor
namespace Go.Proofs.YtdlhodbiaoafiaaGreatDoor
open Go.RowKit SpM
set_option linter.unusedVariables false
set_option linter.unusedSimpArgs false
set_option maxRecDepth 100000
theorem grown_setRow (w : World) (a : Nat) (cs : Array Value) : w.grownBy (w.setRow a cs) (some a) :=
  ⟨rfl, rfl, rfl, by simp [World.setRow], fun k hk hne => setRow_other w a k cs (fun e => hne (by rw [e]))⟩
theorem OwnI.setRow {w : World} {base a : Nat} {v : Value} {cs : List Ic} {r : Array Value} (h : OwnI w base v cs) (ha : a < base) : OwnI (w.setRow a r) base v cs :=
  World.ownsRow.kept h (grown_setRow w a r) (Or.inr (h.no ha))
theorem Sk.setRow {K : IntKind} {w : World} {b a : Nat} {l : List Int} {r : Array Value} (h : Sk K w (some ⟨b, 0, none⟩) l) (hne : a ≠ b) : Sk K (w.setRow a r) (some ⟨b, 0, none⟩) l :=
  h.grown (grown_setRow w a r) (fun b' o' e _ e2 => by cases e; cases e2; exact hne rfl)
theorem ic_info (c : Ic) : (Tryz.prog.info? 141).map (·.size) = some c.cs.size := by
  have h : (Tryz.prog.info? 141).map (·.size) = some 4 := by kernel_rfl
  exact h
theorem ic_one (c : Ic) : c.cs.all (·.oneCell') = true := by simp [Ic.cs, Value.oneCell']
set_option maxHeartbeats 3200000 in
theorem rframe0 (h : List Int) (hl : Hid (h.length = 32)) (hb : Hid (bytesB h = true)) (c : Int) (s : ByteArray) (hs0 : 1 ≤ s.size) (hs : s.size ≤ 1000) (w : World) :
    Calls Tryz.prog 142 #[.agg (tcs h c), .string s, .slice none 0 0] w (ItOut (.lst [.byt h, .byt (bys s)]) w) := by
  obtain ⟨i0, hi, hz0, hz1, hz2⟩ := info_parts itemInfo
  obtain ⟨i1, hi1, hy0, hy1, hy2⟩ := info_parts byteInfo
  obtain ⟨W, hW⟩ : ∃ W, (w.alloc (.cells (tcs h c) 85)).alloc (.cells #[.int .i64 0, .int .i64 0, .slice none 0 0, .slice none 0 0] 141) = W := ⟨_, rfl⟩
  have HBX : Hid (Below w.heap.size w W) := Lib.hid (by rw [← hW]; exact below_two (Below.refl _ _))
  have HT0 : Hid (TBlk W w.heap.size h c) := Lib.hid (by rw [← hW]; exact heap_alloc2_old _ _ _)
  have HR0 : Hid (W.heap[w.heap.size + 1]? = some (.cells #[.int .i64 0, .int .i64 0, .slice none 0 0, .slice none 0 0] 141 (0, 0))) := Lib.hid (by rw [← hW]; exact heap_alloc2_new _ _ _)
  have HSZ : Hid (W.heap.size = w.heap.size + 2) := Lib.hid (by rw [← hW]; simp)
  have HW := Lib.hid hW
  have hcv := fun w => run_bytes_of_string (P := Tryz.prog) w 9 114 5 s Tryz.underlying9 Tryz.underlying114 Tryz.underlying5
  clear hW
  go_enter Tryz.func142, Tryz.ntmps142
  go_upto_region 1 with (fail)
  rw [HW.out]
  clear HW
  have HT1 := Lib.hid (HT0.out.below (below_box0 W (.cells #[] 5)))
  have hrow : (W.alloc (.cells #[] 5)).ownsRow W.heap.size 5 1 (.slice (some ⟨W.heap.size, 0, none⟩) 0 0) 0 [] := ⟨rfl, Or.inr ⟨W.heap.size, 0, #[], rfl, Nat.le_refl _, heap_alloc_new _ _, Nat.le_refl _, by decide, rfl, rfl⟩⟩
  have b1 : 0 + 32 ≤ maxLen := by unfold maxLen; omega
  have b2 : (0 + 32) * 1 ≤ 140737488355328 := by omega
  have b3 : W.heap.size ≤ (W.alloc (.cells #[] 5)).heap.size := by simp
  have hlen : (h.map (Value.int .u8)).length = 32 * 1 := by simp [hl.out]
  go_upto_region 2 with (at_builtin; refine wpList_append_lies rfl _ _ 114 rfl W.heap.size 5 i1 (.int .u8 0) 1 1 Tryz.underlying114 hi1 hy0 hy1 hy2 rfl (by decide) (.slice (some ⟨W.heap.size, 0, none⟩) 0 0) _ _ rfl hrow ⟨w.heap.size, 0, none⟩ 32 32 (h.map (.int .u8)) rfl hlen HT1.out.sk.news (ints_oneCell .u8 _) (by decide) b1 b2 b3 _ rfl ?_; intro g1 cap1 w1 hown1 hgrow1 hat1 hlt1)
  have HOH : Hid (OwnK .u8 5 w1 W.heap.size (.slice (some ⟨g1, 0, none⟩) 32 cap1) h) := Lib.hid (by unfold OwnK; rw [hl.out]; simpa using hown1)
  have HB1 : Hid (Below W.heap.size W w1) := Lib.hid (((Below.refl W.heap.size W).alloc (Nat.le_refl _) (.cells #[] 5)).grown hgrow1 (by simp) (fun j hj => by cases hj; exact Nat.le_refl _))
  have HG1 : Hid (W.heap.size ≤ g1) := Lib.hid (HOH.out.lt g1 rfl).1
  have HSH : Hid (Sk .u8 w1 (some ⟨g1, 0, none⟩) h) := Lib.hid (by
    obtain ⟨g, cap, e, _, _, _, hsk⟩ := HOH.out.cells (by rw [hl.out]; decide)
    simp only [Value.slice.injEq, Option.some.injEq, Addr.mk.injEq] at e
    obtain ⟨⟨rfl, -⟩, -, -⟩ := e
    exact hsk)
  have HL1 := Lib.hid hlt1
  clear hown1 hgrow1 hat1 hlt1 hrow b1 b2 b3 hlen HT1 hcv HOH
  obtain ⟨gc, hgc⟩ : ∃ g, grownCap w1 s.size 0 5 = g := ⟨_, rfl⟩
  rw [hgc]
  obtain ⟨Wc, hWc⟩ : ∃ u, w1.alloc (.cells (bytesRow s gc) 5 ((bytesRow s gc).size, (bytesRow s gc).size + 1)) = u := ⟨_, rfl⟩
  rw [hWc]
  have HBc : Hid (Below w1.heap.size w1 Wc) := Lib.hid (by rw [← hWc]; exact below_box0 _ _)
  have HSc : Hid (Sk .u8 Wc (some ⟨w1.heap.size, 0, none⟩) (bys s)) := Lib.hid (by rw [← hWc]; exact bys_sk (heap_alloc_new w1 _))
  have HCZ : Hid (Wc.heap.size = w1.heap.size + 1) := Lib.hid (by rw [← hWc]; simp)
  obtain ⟨W2, hW2⟩ : ∃ u, (Wc.alloc (.cells #[.int .i64 2, .int .i64 0, .slice (some ⟨g1, 0, none⟩) 32 cap1, .slice none 0 0, .int .i64 2, .int .i64 0, .slice (some ⟨w1.heap.size, 0, none⟩) s.size gc, .slice none 0 0] 141)).drew = u := ⟨_, rfl⟩
  have HO2 : Hid (OwnI W2 Wc.heap.size (.slice (some ⟨w1.heap.size + 1, 0, none⟩) 2 2) [icByt (some ⟨g1, 0, none⟩) 32 cap1, icByt (some ⟨w1.heap.size, 0, none⟩) s.size gc]) := Lib.hid (by
    rw [← hW2]
    have h := (ownI_two Wc (icByt (some ⟨g1, 0, none⟩) 32 cap1) (icByt (some ⟨w1.heap.size, 0, none⟩) s.size gc)).keep (Below.refl _ _).drew
    rw [HCZ.out] at h ⊢
    exact h)
  have HB12 : Hid (Below w1.heap.size w1 W2) := Lib.hid (below_ext HBc.out (by rw [← hW2]; exact (below_box0 _ _).drew))
  have HB2 : Hid (Below W.heap.size W W2) := Lib.hid (below_ext HB1.out HB12.out)
  have HS2 : Hid (Sk .u8 W2 (some ⟨w1.heap.size, 0, none⟩) (bys s)) := Lib.hid (HSc.out.below (by rw [← hW2]; exact (below_box0 _ _).drew))
  have HSH2 : Hid (Sk .u8 W2 (some ⟨g1, 0, none⟩) h) := Lib.hid (HSH.out.below HB12.out)
  have HZ1 : Hid (W.heap.size ≤ w1.heap.size) := Lib.hid HB1.out.size
  have hzW : Wc.heap.size < W2.heap.size := by rw [← hW2]; simp
  rw [hW2]
  clear hW2 hWc hgc HSc HBc HSH
  have hrow : W2.ownsRow Wc.heap.size 141 4 (.slice (some ⟨w1.heap.size + 1, 0, none⟩) 2 2) 2 ([icByt (some ⟨g1, 0, none⟩) 32 cap1, icByt (some ⟨w1.heap.size, 0, none⟩) s.size gc].flatMap itemCells) := HO2.out
  have HRF : Hid (W2.heap[w.heap.size + 1]? = some (.cells #[.int .i64 0, .int .i64 0, .slice none 0 0, .slice none 0 0] 141 (0, 0))) := Lib.hid ((HB2.out.block _ (by have := HSZ.out; omega)).trans HR0.out)
  have HOL := HO2
  have HSHL := HSH2
  have HSL := HS2
  have HBL := HB2
  go_wp2_with (first
    | (at_builtin; refine wpList_append_own_none rfl _ _ 139 rfl Wc.heap.size 141 i0 4 Tryz.underlying139 hi _ _ _ rfl hrow rfl ?_)
    | ((with_reducible show wpList _ _ _ (⟨none, _, _, _, _, _⟩ :: _) _ _); refine wpList_store_row rfl 141 _ _ rfl (w.heap.size + 1) (Ic.cs ⟨3, 0, none, 0, 0, some ⟨w1.heap.size + 1, 0, none⟩, 2, 2⟩) rfl rfl _ _ HRF.out (ic_info _) rfl (ic_one _) ?_))
  skip
  obtain ⟨WF, hWF⟩ : ∃ u, W2.setRow (w.heap.size + 1) (Ic.cs ⟨3, 0, none, 0, 0, some ⟨w1.heap.size + 1, 0, none⟩, 2, 2⟩) = u := ⟨_, rfl⟩
  have HOF : Hid (OwnI WF Wc.heap.size (.slice (some ⟨w1.heap.size + 1, 0, none⟩) 2 2) [icByt (some ⟨g1, 0, none⟩) 32 cap1, icByt (some ⟨w1.heap.size, 0, none⟩) s.size gc]) := Lib.hid (by rw [← hWF]; exact HOL.out.setRow (by have := HCZ.out; have := HSZ.out; have := HZ1.out; omega))
  have HSHF : Hid (Sk .u8 WF (some ⟨g1, 0, none⟩) h) := Lib.hid (by rw [← hWF]; exact HSHL.out.setRow (by have := HG1.out; have := HSZ.out; omega))
  have HSF : Hid (Sk .u8 WF (some ⟨w1.heap.size, 0, none⟩) (bys s)) := Lib.hid (by rw [← hWF]; exact HSL.out.setRow (by have := HZ1.out; have := HSZ.out; omega))
  have HBF : Hid (Below w.heap.size w WF) := Lib.hid (by rw [← hWF]; exact below_setRow' (below_ext HBX.out HBL.out) (Nat.le_succ _))
  have HRW : Hid (WF.heap[w.heap.size + 1]? = some (.cells (Ic.cs ⟨3, 0, none, 0, 0, some ⟨w1.heap.size + 1, 0, none⟩, 2, 2⟩) 141 (0, 0))) := Lib.hid (by rw [← hWF]; exact setRow_heap _ _ _ _ _ _ HRF.out)
  have HIX : Hid (∃ g cap, (Value.slice (some ⟨w1.heap.size + 1, 0, none⟩) 2 2) = .slice (some ⟨g, 0, none⟩) 2 cap ∧ ItR WF (.lst [.byt h, .byt (bys s)]) ⟨3, 0, none, 0, 0, some ⟨g, 0, none⟩, 2, cap⟩) := Lib.hid (itr_list HOF.out rfl rfl (by decide) (fun k hk => by
    rcases (show k = 0 ∨ k = 1 by omega) with rfl | rfl
    · exact itr_byt HSHF.out hl.out
    · exact itr_byt HSF.out (bys_len s)))
  obtain ⟨g, cap, e3, hit⟩ := HIX.out
  simp only [Value.slice.injEq, Option.some.injEq, Addr.mk.injEq] at e3
  obtain ⟨⟨rfl, -⟩, -, rfl⟩ := e3
  have HIT := Lib.hid hit
  clear hit HIX
  rw [hWF]
  clear hWF
  exact bodyPost_ret (v := .agg (Ic.cs ⟨3, 0, none, 0, 0, some ⟨w1.heap.size + 1, 0, none⟩, 2, 2⟩)) (results_cell1 (p := 6) (ty := 141) rfl _ _ ⟨w.heap.size + 1, 0, none⟩ _ rfl (run_loadVar_row _ _ _ _ _ _ _ HRW.out Tryz.underlying141 rfl (ic_info _))) rfl ⟨⟨3, 0, none, 0, 0, some ⟨w1.heap.size + 1, 0, none⟩, 2, 2⟩, rfl, HIT.out, HBF.out⟩
set_option maxHeartbeats 3200000 in
theorem rframe1 (h : List Int) (hl : Hid (h.length = 32)) (hb : Hid (bytesB h = true)) (c : Int) (s : ByteArray) (hs0 : 1 ≤ s.size) (hs : s.size ≤ 1000) (item : It) (cI : Ic) (gm cm : Nat) (w : World) (hF : Hid (Four w gm 0 cI)) (hI : Hid (ItR w item cI)) :
    Calls Tryz.prog 142 #[.agg (tcs h c), .string s, .slice (some ⟨gm, 0, none⟩) 1 cm] w (ItOut (.lst [.byt h, .byt (bys s), item]) w) := by
  obtain ⟨i0, hi, hz0, hz1, hz2⟩ := info_parts itemInfo
  obtain ⟨i1, hi1, hy0, hy1, hy2⟩ := info_parts byteInfo
  obtain ⟨W, hW⟩ : ∃ W, (w.alloc (.cells (tcs h c) 85)).alloc (.cells #[.int .i64 0, .int .i64 0, .slice none 0 0, .slice none 0 0] 141) = W := ⟨_, rfl⟩
  have HBX : Hid (Below w.heap.size w W) := Lib.hid (by rw [← hW]; exact below_two (Below.refl _ _))
  have HT0 : Hid (TBlk W w.heap.size h c) := Lib.hid (by rw [← hW]; exact heap_alloc2_old _ _ _)
  have HR0 : Hid (W.heap[w.heap.size + 1]? = some (.cells #[.int .i64 0, .int .i64 0, .slice none 0 0, .slice none 0 0] 141 (0, 0))) := Lib.hid (by rw [← hW]; exact heap_alloc2_new _ _ _)
  have HSZ : Hid (W.heap.size = w.heap.size + 2) := Lib.hid (by rw [← hW]; simp)
  have HW := Lib.hid hW
  have hcv := fun w => run_bytes_of_string (P := Tryz.prog) w 9 114 5 s Tryz.underlying9 Tryz.underlying114 Tryz.underlying5
  clear hW
  go_enter Tryz.func142, Tryz.ntmps142
  go_upto_region 1 with (fail)
  rw [HW.out]
  clear HW
  have HT1 := Lib.hid (HT0.out.below (below_box0 W (.cells #[] 5)))
  have hrow : (W.alloc (.cells #[] 5)).ownsRow W.heap.size 5 1 (.slice (some ⟨W.heap.size, 0, none⟩) 0 0) 0 [] := ⟨rfl, Or.inr ⟨W.heap.size, 0, #[], rfl, Nat.le_refl _, heap_alloc_new _ _, Nat.le_refl _, by decide, rfl, rfl⟩⟩
  have b1 : 0 + 32 ≤ maxLen := by unfold maxLen; omega
  have b2 : (0 + 32) * 1 ≤ 140737488355328 := by omega
  have b3 : W.heap.size ≤ (W.alloc (.cells #[] 5)).heap.size := by simp
  have hlen : (h.map (Value.int .u8)).length = 32 * 1 := by simp [hl.out]
  go_upto_region 2 with (at_builtin; refine wpList_append_lies rfl _ _ 114 rfl W.heap.size 5 i1 (.int .u8 0) 1 1 Tryz.underlying114 hi1 hy0 hy1 hy2 rfl (by decide) (.slice (some ⟨W.heap.size, 0, none⟩) 0 0) _ _ rfl hrow ⟨w.heap.size, 0, none⟩ 32 32 (h.map (.int .u8)) rfl hlen HT1.out.sk.news (ints_oneCell .u8 _) (by decide) b1 b2 b3 _ rfl ?_; intro g1 cap1 w1 hown1 hgrow1 hat1 hlt1)
  have HOH : Hid (OwnK .u8 5 w1 W.heap.size (.slice (some ⟨g1, 0, none⟩) 32 cap1) h) := Lib.hid (by unfold OwnK; rw [hl.out]; simpa using hown1)
  have HB1 : Hid (Below W.heap.size W w1) := Lib.hid (((Below.refl W.heap.size W).alloc (Nat.le_refl _) (.cells #[] 5)).grown hgrow1 (by simp) (fun j hj => by cases hj; exact Nat.le_refl _))
  have HG1 : Hid (W.heap.size ≤ g1) := Lib.hid (HOH.out.lt g1 rfl).1
  have HSH : Hid (Sk .u8 w1 (some ⟨g1, 0, none⟩) h) := Lib.hid (by
    obtain ⟨g, cap, e, _, _, _, hsk⟩ := HOH.out.cells (by rw [hl.out]; decide)
    simp only [Value.slice.injEq, Option.some.injEq, Addr.mk.injEq] at e
    obtain ⟨⟨rfl, -⟩, -, -⟩ := e
    exact hsk)
  have HL1 := Lib.hid hlt1
  clear hown1 hgrow1 hat1 hlt1 hrow b1 b2 b3 hlen HT1 hcv HOH
  obtain ⟨gc, hgc⟩ : ∃ g, grownCap w1 s.size 0 5 = g := ⟨_, rfl⟩
  rw [hgc]
  obtain ⟨Wc, hWc⟩ : ∃ u, w1.alloc (.cells (bytesRow s gc) 5 ((bytesRow s gc).size, (bytesRow s gc).size + 1)) = u := ⟨_, rfl⟩
  rw [hWc]
  have HBc : Hid (Below w1.heap.size w1 Wc) := Lib.hid (by rw [← hWc]; exact below_box0 _ _)
  have HSc : Hid (Sk .u8 Wc (some ⟨w1.heap.size, 0, none⟩) (bys s)) := Lib.hid (by rw [← hWc]; exact bys_sk (heap_alloc_new w1 _))
  have HCZ : Hid (Wc.heap.size = w1.heap.size + 1) := Lib.hid (by rw [← hWc]; simp)
  obtain ⟨W2, hW2⟩ : ∃ u, (Wc.alloc (.cells #[.int .i64 2, .int .i64 0, .slice (some ⟨g1, 0, none⟩) 32 cap1, .slice none 0 0, .int .i64 2, .int .i64 0, .slice (some ⟨w1.heap.size, 0, none⟩) s.size gc, .slice none 0 0] 141)).drew = u := ⟨_, rfl⟩
  have HO2 : Hid (OwnI W2 Wc.heap.size (.slice (some ⟨w1.heap.size + 1, 0, none⟩) 2 2) [icByt (some ⟨g1, 0, none⟩) 32 cap1, icByt (some ⟨w1.heap.size, 0, none⟩) s.size gc]) := Lib.hid (by
    rw [← hW2]
    have h := (ownI_two Wc (icByt (some ⟨g1, 0, none⟩) 32 cap1) (icByt (some ⟨w1.heap.size, 0, none⟩) s.size gc)).keep (Below.refl _ _).drew
    rw [HCZ.out] at h ⊢
    exact h)
  have HB12 : Hid (Below w1.heap.size w1 W2) := Lib.hid (below_ext HBc.out (by rw [← hW2]; exact (below_box0 _ _).drew))
  have HB2 : Hid (Below W.heap.size W W2) := Lib.hid (below_ext HB1.out HB12.out)
  have HS2 : Hid (Sk .u8 W2 (some ⟨w1.heap.size, 0, none⟩) (bys s)) := Lib.hid (HSc.out.below (by rw [← hW2]; exact (below_box0 _ _).drew))
  have HSH2 : Hid (Sk .u8 W2 (some ⟨g1, 0, none⟩) h) := Lib.hid (HSH.out.below HB12.out)
  have HZ1 : Hid (W.heap.size ≤ w1.heap.size) := Lib.hid HB1.out.size
  have hzW : Wc.heap.size < W2.heap.size := by rw [← hW2]; simp
  rw [hW2]
  clear hW2 hWc hgc HSc HBc HSH
  have hrow : W2.ownsRow Wc.heap.size 141 4 (.slice (some ⟨w1.heap.size + 1, 0, none⟩) 2 2) 2 ([icByt (some ⟨g1, 0, none⟩) 32 cap1, icByt (some ⟨w1.heap.size, 0, none⟩) s.size gc].flatMap itemCells) := HO2.out
  have HF2 : Hid (Four W2 gm 0 cI) := Lib.hid ((hF.out.below HBX.out).below HB2.out)
  have HBW : Wc.heap.size ≤ W2.heap.size := by omega
  have b1 : 2 + 1 ≤ maxLen := by unfold maxLen; omega
  have b2 : (2 + 1) * 64 ≤ 140737488355328 := by omega
  have HNW : ∀ (j : Nat) (u : Value), (itemCells cI)[j]? = some u → W2.cell? ((⟨gm, 0, none⟩ : Addr).add j) = some u := four_news HF2.out
  go_wp2_with (first
    | (at_builtin; refine wpList_append_lies rfl _ _ 139 rfl Wc.heap.size 141 i0 (.agg #[.int .i64 0, .int .i64 0, .slice none 0 0, .slice none 0 0]) 4 64 Tryz.underlying139 hi hz0 hz1 hz2 rfl (by decide) (.slice (some ⟨w1.heap.size + 1, 0, none⟩) 2 2) _ _ rfl hrow ⟨gm, 0, none⟩ 1 cm (itemCells cI) rfl rfl HNW (itemCells_one cI) (by decide) b1 b2 HBW _ rfl ?_; intro g3 cap3 w3 hown3 hgrow3 hat3 hlt3; have HBL : Hid (Below W.heap.size W w3) := Lib.hid (HB2.out.grown hgrow3 (by have := HCZ.out; have := HZ1.out; omega) (fun j hj => by have := HCZ.out; have := HZ1.out; have := (World.ownsRow.lt hrow j hj).1; omega)); have HRF : Hid (w3.heap[w.heap.size + 1]? = some (.cells #[.int .i64 0, .int .i64 0, .slice none 0 0, .slice none 0 0] 141 (0, 0))) := Lib.hid ((HBL.out.block _ (by have := HSZ.out; omega)).trans HR0.out))
    | ((with_reducible show wpList _ _ _ (⟨none, _, _, _, _, _⟩ :: _) _ _); refine wpList_store_row rfl 141 _ _ rfl (w.heap.size + 1) (Ic.cs ⟨3, 0, none, 0, 0, some ⟨g3, 0, none⟩, 3, cap3⟩) rfl rfl _ _ HRF.out (ic_info _) rfl (ic_one _) ?_))
  have HB23 : Hid (Below (w1.heap.size + 1) W2 w3) := Lib.hid ((Below.refl _ _).grown hgrow3 (by have := HCZ.out; omega) (fun j hj => by have := HCZ.out; have := (World.ownsRow.lt hrow j hj).1; omega))
  have HOL : Hid (OwnI w3 Wc.heap.size (.slice (some ⟨g3, 0, none⟩) 3 cap3) [icByt (some ⟨g1, 0, none⟩) 32 cap1, icByt (some ⟨w1.heap.size, 0, none⟩) s.size gc, cI]) := Lib.hid hown3
  have HSHL : Hid (Sk .u8 w3 (some ⟨g1, 0, none⟩) h) := Lib.hid (sk_old HSH2.out HB23.out (by have := HL1.out; omega))
  have HSL : Hid (Sk .u8 w3 (some ⟨w1.heap.size, 0, none⟩) (bys s)) := Lib.hid (sk_old HS2.out HB23.out (by omega))
  clear hown3 hgrow3 hat3 hlt3 HNW
  obtain ⟨WF, hWF⟩ : ∃ u, w3.setRow (w.heap.size + 1) (Ic.cs ⟨3, 0, none, 0, 0, some ⟨g3, 0, none⟩, 3, cap3⟩) = u := ⟨_, rfl⟩
  have HOF : Hid (OwnI WF Wc.heap.size (.slice (some ⟨g3, 0, none⟩) 3 cap3) [icByt (some ⟨g1, 0, none⟩) 32 cap1, icByt (some ⟨w1.heap.size, 0, none⟩) s.size gc, cI]) := Lib.hid (by rw [← hWF]; exact HOL.out.setRow (by have := HCZ.out; have := HSZ.out; have := HZ1.out; omega))
  have HSHF : Hid (Sk .u8 WF (some ⟨g1, 0, none⟩) h) := Lib.hid (by rw [← hWF]; exact HSHL.out.setRow (by have := HG1.out; have := HSZ.out; omega))
  have HSF : Hid (Sk .u8 WF (some ⟨w1.heap.size, 0, none⟩) (bys s)) := Lib.hid (by rw [← hWF]; exact HSL.out.setRow (by have := HZ1.out; have := HSZ.out; omega))
  have HBF : Hid (Below w.heap.size w WF) := Lib.hid (by rw [← hWF]; exact below_setRow' (below_ext HBX.out HBL.out) (Nat.le_succ _))
  have HRW : Hid (WF.heap[w.heap.size + 1]? = some (.cells (Ic.cs ⟨3, 0, none, 0, 0, some ⟨g3, 0, none⟩, 3, cap3⟩) 141 (0, 0))) := Lib.hid (by rw [← hWF]; exact setRow_heap _ _ _ _ _ _ HRF.out)
  have HIX : Hid (∃ g cap, (Value.slice (some ⟨g3, 0, none⟩) 3 cap3) = .slice (some ⟨g, 0, none⟩) 3 cap ∧ ItR WF (.lst [.byt h, .byt (bys s), item]) ⟨3, 0, none, 0, 0, some ⟨g, 0, none⟩, 3, cap⟩) := Lib.hid (itr_list HOF.out rfl rfl (by decide) (fun k hk => by
    rcases (show k = 0 ∨ k = 1 ∨ k = 2 by omega) with rfl | rfl | rfl
    · exact itr_byt HSHF.out hl.out
    · exact itr_byt HSF.out (bys_len s)
    · exact hI.out.kept HBF.out))
  obtain ⟨g, cap, e3, hit⟩ := HIX.out
  simp only [Value.slice.injEq, Option.some.injEq, Addr.mk.injEq] at e3
  obtain ⟨⟨rfl, -⟩, -, rfl⟩ := e3
  have HIT := Lib.hid hit
  clear hit HIX
  rw [hWF]
  clear hWF
  exact bodyPost_ret (v := .agg (Ic.cs ⟨3, 0, none, 0, 0, some ⟨g3, 0, none⟩, 3, cap3⟩)) (results_cell1 (p := 6) (ty := 141) rfl _ _ ⟨w.heap.size + 1, 0, none⟩ _ rfl (run_loadVar_row _ _ _ _ _ _ _ HRW.out Tryz.underlying141 rfl (ic_info _))) rfl ⟨⟨3, 0, none, 0, 0, some ⟨g3, 0, none⟩, 3, cap3⟩, rfl, HIT.out, HBF.out⟩
end Go.Proofs.YtdlhodbiaoafiaaGreatDoor
namespace Go.Proofs.YtdlhodbiaoafiaaGreatDoor
open Go.RowKit SpM
set_option linter.unusedVariables false
set_option linter.unusedSimpArgs false
set_option maxRecDepth 100000
set_option maxHeartbeats 3200000 in
theorem rlist_any (A : Option Addr) (l : List Int) (n c : Nat) (hn : Hid (l.length = n)) (hbig : n ≤ 1000000) (w : World) (hs : Hid (Sl w A l)) :
    Calls Tryz.prog 138 #[.slice A n c] w (ItOut (.lst (l.map .int)) w) := by
  obtain ⟨i0, hi, hz0, hz1, hz2⟩ := info_parts itemInfo
  obtain ⟨W, hW⟩ : ∃ W, (w.alloc (.cells #[.int .i64 0, .int .i64 0, .slice none 0 0, .slice none 0 0] 141)).alloc (.cells #[.int .i64 3, .int .i64 0, .slice none 0 0, .slice none 0 0] 141) = W := ⟨_, rfl⟩
  have HBX : Hid (Below w.heap.size w W) := Lib.hid (by rw [← hW]; exact below_two (Below.refl _ _))
  have HSZ : Hid (W.heap.size = w.heap.size + 2) := Lib.hid (by rw [← hW]; simp)
  have hF : Four W (w.heap.size + 1) 0 ⟨3, 0, none, 0, 0, none, 0, 0⟩ := by
    rw [← hW]
    have h := heap_alloc2_new w (.cells #[.int .i64 0, .int .i64 0, .slice none 0 0, .slice none 0 0] 141) (.cells #[.int .i64 3, .int .i64 0, .slice none 0 0, .slice none 0 0] 141)
    exact ⟨cell_blk h 0, cell_blk h 1, cell_blk h 2, cell_blk h 3⟩
  have hf0 : ∀ j, W.frozen? ⟨w.heap.size + 1, j, none⟩ = false := by
    rw [← hW]
    exact fun j => frozen_blk (heap_alloc2_new _ _ _) j
  have HG : Hid ((Four W w.heap.size 0 ⟨0, 0, none, 0, 0, none, 0, 0⟩) ∧ ∀ j, W.frozen? ⟨w.heap.size, j, none⟩ = false) := Lib.hid (by
    rw [← hW]
    have h := heap_alloc2_old w (.cells #[.int .i64 0, .int .i64 0, .slice none 0 0, .slice none 0 0] 141) (.cells #[.int .i64 3, .int .i64 0, .slice none 0 0, .slice none 0 0] 141)
    exact ⟨⟨cell_blk h 0, cell_blk h 1, cell_blk h 2, cell_blk h 3⟩, fun j => frozen_blk h j⟩)
  have HGB : Hid (W.heap[w.heap.size]? = some (.cells #[.int .i64 0, .int .i64 0, .slice none 0 0, .slice none 0 0] 141 (0, 0))) := Lib.hid (by rw [← hW]; exact heap_alloc2_old w _ _)
  have HS := Lib.hid hs.out
  have HW := Lib.hid hW
  have HX : Hid (Own W ⟨w.heap.size + 1, 0, none⟩ (.int .i64 3) ∧ Own W ⟨w.heap.size + 1, 1, none⟩ (.int .i64 0) ∧ Own W ⟨w.heap.size + 1, 2, none⟩ (.slice none 0 0)) := Lib.hid ⟨⟨hF.1, hf0 0⟩, ⟨hF.2.1, hf0 1⟩, ⟨hF.2.2.1, hf0 2⟩⟩
  have HL : Hid (Own W ⟨w.heap.size + 1, 3, none⟩ (.slice none 0 0)) := Lib.hid ⟨hF.2.2.2, hf0 3⟩
  clear hW hs hF hf0
  go_enter Tryz.func138, Tryz.ntmps138
  go_wp2
  rw [HW.out]
  go_loopw [4] (fun i u => ∃ (k : Nat) (v : Value), k ≤ n ∧ i = .int .i64 k ∧ Hid (Own u ⟨w.heap.size + 1, 3, none⟩ v) ∧ Hid (OwnI u (w.heap.size + 2) v ((l.take k).map icInt)) ∧ Hid (Own u ⟨w.heap.size + 1, 0, none⟩ (.int .i64 3) ∧ Own u ⟨w.heap.size + 1, 1, none⟩ (.int .i64 0) ∧ Own u ⟨w.heap.size + 1, 2, none⟩ (.slice none 0 0)) ∧ Hid (Below (w.heap.size + 1) W u)) (fun i _ => n - (intOf i).toNat)
  case atStart => exact ⟨0, _, by omega, rfl, HL, Lib.hid (ownI_nil _ _), HX, Lib.hid (Below.refl _ _)⟩
  case round =>
    obtain ⟨k, v, hk, rfl, HV, HO, HX3, HBr⟩ := hrel
    by_cases hlt : k < n
    · have hkl : k < l.length := by rw [hn.out]; exact hlt
      obtain ⟨b, o, hA, hc⟩ := (HS.out.below (HBX.out.trans (HBr.out.mono (Nat.le_succ _)))) k hkl
      subst hA
      have HTK := Lib.hid (icInt_take hkl)
      obtain ⟨x, hx⟩ : ∃ x, l.getD k 0 = x := ⟨_, rfl⟩
      rw [hx] at hc HTK
      have HLN : Hid (((l.take k).map icInt).length = k) := Lib.hid (by rw [List.length_map, List.length_take]; omega)
      have hown : wr.ownsRow (w.heap.size + 2) 141 4 v k (((l.take k).map icInt).flatMap itemCells) := by have h := HO.out; unfold OwnI at h; rwa [HLN.out] at h
      have hbs : w.heap.size + 2 ≤ wr.heap.size := by have := HBr.out.size; have := HSZ.out; omega
      have hno : v.ownBlock ≠ some (w.heap.size + 1) := HO.out.no (by omega)
      obtain ⟨v3, v3f⟩ := HV.out
      have hS := Lib.hid (show ∀ u1 : World, Hid (Below wr.drew.heap.size wr.drew u1) → (u1.cell? ⟨w.heap.size + 1, 3, none⟩ = some v ∧ u1.cell? ⟨b, o + k, none⟩ = some (.int .i64 x) ∧ Hid (Below wr.drew.heap.size wr.drew u1)) from fun u1 h1 => ⟨cell_below (w := wr.drew) v3 h1.out, cell_below (w := wr.drew) hc h1.out, h1⟩)
      have HOWN := Lib.hid hown
      clear hx hkl hown v3 v3f hc
      go_wp2
      refine wp_region_T (S := fun w' => w'.cell? ⟨w.heap.size + 1, 3, none⟩ = some v ∧ w'.cell? ⟨b, o + k, none⟩ = some (.int .i64 x) ∧ Hid (Below wr.drew.heap.size wr.drew w')) (E := [8, 9, 10]) (by kernel_rfl) (hS.out _ (Lib.hid (Below.refl _ _))) (fun hHeld => ?_)
      refine wpT_take (i := 0) (oi := _) (v := ?_) rfl (by kernel_rfl) (by kernel_rfl) (by kernel_rfl) (by kernel_rfl) (fun _ _ _ h => h) (Or.inl ⟨by rfl, ?_⟩) (by assumption) ?_
      rotate_left; (intro wS hSw; (try dsimp only at hSw); go_simp <;> with_reducible rfl)
      try simp only [List.getElem_toArray, List.getElem_cons_zero, List.getElem_cons_succ, Act.put, List.setIfInBounds_toArray, List.set_cons_zero, List.set_cons_succ]
      refine wpT_take (i := 1) (oi := _) (v := ?_) rfl (by kernel_rfl) (by kernel_rfl) (by kernel_rfl) (by kernel_rfl) (fun _ _ _ h => h) (Or.inl ⟨by rfl, ?_⟩) (by assumption) ?_
      rotate_left; (intro wS hSw; (try dsimp only at hSw); go_simp <;> with_reducible rfl)
      try simp only [List.getElem_toArray, List.getElem_cons_zero, List.getElem_cons_succ, Act.put, List.setIfInBounds_toArray, List.set_cons_zero, List.set_cons_succ]
      refine wpT_take (i := 2) (oi := _) (v := ?_) rfl (by kernel_rfl) (by kernel_rfl) (by kernel_rfl) (by kernel_rfl) (fun _ _ _ h => h) (Or.inl ⟨by rfl, ?_⟩) (by assumption) ?_
      rotate_left; (intro wS hSw; (try dsimp only at hSw); go_simp <;> with_reducible rfl)
      try simp only [List.getElem_toArray, List.getElem_cons_zero, List.getElem_cons_succ, Act.put, List.setIfInBounds_toArray, List.set_cons_zero, List.set_cons_succ]
      refine wpT_take (i := 3) (oi := _) (v := ?_) rfl (by kernel_rfl) (by kernel_rfl) (by kernel_rfl) (by kernel_rfl) (fun _ _ _ h => h) (Or.inl ⟨by rfl, ?_⟩) (by assumption) ?_
      rotate_left; (intro wS hSw; (try dsimp only at hSw); go_simp <;> with_reducible rfl)
      try simp only [List.getElem_toArray, List.getElem_cons_zero, List.getElem_cons_succ, Act.put, List.setIfInBounds_toArray, List.set_cons_zero, List.set_cons_succ]
      refine wpT_take (i := 4) (oi := _) (v := ?_) rfl (by kernel_rfl) (by kernel_rfl) (by kernel_rfl) (by kernel_rfl) (fun _ _ _ h => h) (Or.inl ⟨by rfl, ?_⟩) (by assumption) ?_
      rotate_left; (intro wS hSw; (try dsimp only at hSw); go_simp <;> with_reducible rfl)
      try simp only [List.getElem_toArray, List.getElem_cons_zero, List.getElem_cons_succ, Act.put, List.setIfInBounds_toArray, List.set_cons_zero, List.set_cons_succ]
      refine wpT_take (i := 5) (oi := _) (v := ?_) rfl (by kernel_rfl) (by kernel_rfl) (by kernel_rfl) (by kernel_rfl) (fun _ _ _ h => h) (Or.inl ⟨by rfl, ?_⟩) (by assumption) ?_
      rotate_left; (intro wS hSw; (try dsimp only at hSw); go_simp <;> with_reducible rfl)
      try simp only [List.getElem_toArray, List.getElem_cons_zero, List.getElem_cons_succ, Act.put, List.setIfInBounds_toArray, List.set_cons_zero, List.set_cons_succ]
      refine wpT_take (i := 6) (oi := _) (v := ?_) rfl (by kernel_rfl) (by kernel_rfl) (by kernel_rfl) (by kernel_rfl) (fun _ _ _ h => h) (Or.inl ⟨by rfl, ?_⟩) (by assumption) ?_
      rotate_left; (intro wS hSw; (try dsimp only at hSw); go_simp <;> with_reducible rfl)
      try simp only [List.getElem_toArray, List.getElem_cons_zero, List.getElem_cons_succ, Act.put, List.setIfInBounds_toArray, List.set_cons_zero, List.set_cons_succ]
      refine wpT_one (i := 7) (by kernel_rfl) rfl (fun K hK => ?_)
      go_simp
      refine hK.out _ _ ?_ (fun hHeld => ?_)
      · exact hS.out _ (Lib.hid (below_box0 _ _))
      clear hK K
      try simp only [List.getElem_toArray, List.getElem_cons_zero, List.getElem_cons_succ, Act.put, List.setIfInBounds_toArray, List.set_cons_zero, List.set_cons_succ]
      refine wpT_pass (i := 8) (by kernel_rfl) (by simp) rfl (fun K hK => ?_)
      refine step_append_lies _ (by rfl) _ _ _ (by rfl) (w.heap.size + 2) 141 i0 _ 4 64 Tryz.underlying139 hi hz0 hz1 hz2 rfl (by omega) v k (((l.take k).map icInt).flatMap itemCells) (by rfl) ((HOWN.out.alloc _).drew)
        ⟨wr.heap.size, 0, none⟩ 1 1 [.int .i64 1, .int .i64 x, .slice none 0 0, .slice none 0 0] (by rfl) (by rfl) (World.news_of_block (cs := #[.int .i64 1, .int .i64 x, .slice none 0 0, .slice none 0 0]) (t := 141) (fr := (0, 0)) (heap_alloc_new wr _)) (by simp [Value.oneCell'])
        (by omega) (by unfold maxLen; omega) (by omega) (by simp; omega) (wr.heap.size + 1) (by simp) ?_; intro gg cap wz hown1 hgrow hat hlt2
      have HVz := own_grown2 (w := (wr.alloc (.cells #[.int .i64 1, .int .i64 x, .slice none 0 0, .slice none 0 0] 141)).drew) (HV.out.below (below_box0 wr (.cells #[.int .i64 1, .int .i64 x, .slice none 0 0, .slice none 0 0] 141)).drew) hgrow hno
      have HVY := HVz
      obtain ⟨p2, f2⟩ := HVY
      refine hK.out _ _ ?_
      clear hK K
      try simp only [List.getElem_toArray, List.getElem_cons_zero, List.getElem_cons_succ, Act.put, List.setIfInBounds_toArray, List.set_cons_zero, List.set_cons_succ]
      refine wpT_pass (i := 9) (by kernel_rfl) (by simp) rfl (fun K hK => ?_)
      go_simp
      refine hK.out _ _ ?_
      clear hK K
      try simp only [List.getElem_toArray, List.getElem_cons_zero, List.getElem_cons_succ, Act.put, List.setIfInBounds_toArray, List.set_cons_zero, List.set_cons_succ]
      refine wpT_pass (i := 10) (by kernel_rfl) (by simp) rfl (fun K hK => ?_)
      go_simp
      refine hK.out _ _ ?_
      clear hK K
      try simp only [List.getElem_toArray, List.getElem_cons_zero, List.getElem_cons_succ, Act.put, List.setIfInBounds_toArray, List.set_cons_zero, List.set_cons_succ]
      refine wpT_done (by kernel_rfl) ?_ _
      have HB2 : Hid (Below (w.heap.size + 1) W wz) := Lib.hid (((HBr.out.alloc (by omega) (.cells #[.int .i64 1, .int .i64 x, .slice none 0 0, .slice none 0 0] 141)).drew).grown hgrow (by simp; omega) (fun j hj => by have := (World.ownsRow.lt HOWN.out j hj).1; omega))
      have HO2 : Hid (OwnI wz (w.heap.size + 2) (.slice (some ⟨gg, 0, none⟩) (k + 1) cap) ((l.take (k + 1)).map icInt)) := Lib.hid (by
        rw [HTK.out]
        exact OwnI.app HLN.out.symm hown1)
      have hd := (Below.refl wr.heap.size wr)
      have a0 := own_grown2 (w := (wr.alloc (.cells #[.int .i64 1, .int .i64 x, .slice none 0 0, .slice none 0 0] 141)).drew) (HX3.out.1.below (below_box0 wr (.cells #[.int .i64 1, .int .i64 x, .slice none 0 0, .slice none 0 0] 141)).drew) hgrow hno
      have a1 := own_grown2 (w := (wr.alloc (.cells #[.int .i64 1, .int .i64 x, .slice none 0 0, .slice none 0 0] 141)).drew) (HX3.out.2.1.below (below_box0 wr (.cells #[.int .i64 1, .int .i64 x, .slice none 0 0, .slice none 0 0] 141)).drew) hgrow hno
      have a2 := own_grown2 (w := (wr.alloc (.cells #[.int .i64 1, .int .i64 x, .slice none 0 0, .slice none 0 0] 141)).drew) (HX3.out.2.2.below (below_box0 wr (.cells #[.int .i64 1, .int .i64 x, .slice none 0 0, .slice none 0 0] 141)).drew) hgrow hno
      have HV4 : Hid (Own (wz.setCell ⟨w.heap.size + 1, 3, none⟩ (.slice (some ⟨gg, 0, none⟩) (k + 1) cap)) ⟨w.heap.size + 1, 3, none⟩ (.slice (some ⟨gg, 0, none⟩) (k + 1) cap)) := Lib.hid (own_set_eq2 HVz)
      have HO4 : Hid (OwnI (wz.setCell ⟨w.heap.size + 1, 3, none⟩ (.slice (some ⟨gg, 0, none⟩) (k + 1) cap)) (w.heap.size + 2) (.slice (some ⟨gg, 0, none⟩) (k + 1) cap) ((l.take (k + 1)).map icInt)) := Lib.hid (HO2.out.set (by omega))
      have HX4 : Hid (Own (wz.setCell ⟨w.heap.size + 1, 3, none⟩ (.slice (some ⟨gg, 0, none⟩) (k + 1) cap)) ⟨w.heap.size + 1, 0, none⟩ (.int .i64 3) ∧ Own (wz.setCell ⟨w.heap.size + 1, 3, none⟩ (.slice (some ⟨gg, 0, none⟩) (k + 1) cap)) ⟨w.heap.size + 1, 1, none⟩ (.int .i64 0) ∧ Own (wz.setCell ⟨w.heap.size + 1, 3, none⟩ (.slice (some ⟨gg, 0, none⟩) (k + 1) cap)) ⟨w.heap.size + 1, 2, none⟩ (.slice none 0 0)) :=
        Lib.hid ⟨own_set_ne2 a0 (by simp), own_set_ne2 a1 (by simp), own_set_ne2 a2 (by simp)⟩
      have HB4 : Hid (Below (w.heap.size + 1) W (wz.setCell ⟨w.heap.size + 1, 3, none⟩ (.slice (some ⟨gg, 0, none⟩) (k + 1) cap))) := Lib.hid (HB2.out.setCell (Nat.le_refl _) _)
      clear hown1 hgrow HO HX3 HV p2 f2 a0 a1 a2 HB2 HO2 HVz hd
      go_wp2
      go_roundw
      case rel => exact ⟨k + 1, _, by omega, by go_num, HV4, HO4, HX4, HB4⟩
      case measure => simp [intOf]; omega
    · have HO5 : Hid (OwnI wr (w.heap.size + 2) v (l.map icInt)) := Lib.hid (by
        have h := HO.out
        rwa [List.take_of_length_le (by have := hn.out; omega)] at h)
      obtain ⟨L, cl, hLe⟩ := HO5.out.len
      rw [List.length_map, hn.out] at hLe
      subst hLe
      obtain ⟨p0, p0f⟩ := HX3.out.1
      obtain ⟨p1, p1f⟩ := HX3.out.2.1
      obtain ⟨p2, p2f⟩ := HX3.out.2.2
      obtain ⟨p3, p3f⟩ := HV.out
      have HGr := HG.out
      have r0 := (HBr.out.cell (p := ⟨w.heap.size, 0, none⟩) (Nat.lt_succ_self _)).trans HG.out.1.1
      have r1 := (HBr.out.cell (p := ⟨w.heap.size, 1, none⟩) (Nat.lt_succ_self _)).trans HG.out.1.2.1
      have r2 := (HBr.out.cell (p := ⟨w.heap.size, 2, none⟩) (Nat.lt_succ_self _)).trans HG.out.1.2.2.1
      have r3 := (HBr.out.cell (p := ⟨w.heap.size, 3, none⟩) (Nat.lt_succ_self _)).trans HG.out.1.2.2.2
      have z0 := (HBr.out.frozen (p := ⟨w.heap.size, 0, none⟩) (Nat.lt_succ_self _)).trans (HG.out.2 0)
      have z1 := (HBr.out.frozen (p := ⟨w.heap.size, 1, none⟩) (Nat.lt_succ_self _)).trans (HG.out.2 1)
      have z2 := (HBr.out.frozen (p := ⟨w.heap.size, 2, none⟩) (Nat.lt_succ_self _)).trans (HG.out.2 2)
      have z3 := (HBr.out.frozen (p := ⟨w.heap.size, 3, none⟩) (Nat.lt_succ_self _)).trans (HG.out.2 3)
      have HBW := Lib.hid (HBX.out.trans (HBr.out.mono (Nat.le_succ _)))
      clear HX3 HV HO HGr
      obtain ⟨WF, hWF⟩ : ∃ u, (((wr.setCell ⟨w.heap.size, 0, none⟩ (.int .i64 3)).setCell ⟨w.heap.size, 1, none⟩ (.int .i64 0)).setCell ⟨w.heap.size, 2, none⟩ (.slice none 0 0)).setCell ⟨w.heap.size, 3, none⟩ (.slice L n cl) = u := ⟨_, rfl⟩
      have hgB : WF.heap[w.heap.size]? = some (.cells #[.int .i64 3, .int .i64 0, .slice none 0 0, .slice L n cl] 141 (0, 0)) := by
        have h0 := (HBr.out.block w.heap.size (Nat.lt_succ_self _)).trans HGB.out
        rw [← hWF, heap_setCell_same _ _ _ _ _ _ (heap_setCell_same _ _ _ _ _ _ (heap_setCell_same _ _ _ _ _ _ (heap_setCell_same _ _ _ _ _ _ h0)))]
        rfl
      have HO6 : Hid (OwnI WF (w.heap.size + 2) (.slice L n cl) (l.map icInt)) := Lib.hid (by
        rw [← hWF]
        exact (((HO5.out.set (by omega)).set (by omega)).set (by omega)).set (by omega))
      have HBF : Hid (Below w.heap.size w WF) := Lib.hid (by
        rw [← hWF]
        exact (((HBW.out.setCell (Nat.le_refl _) _).setCell (Nat.le_refl _) _).setCell (Nat.le_refl _) _).setCell (Nat.le_refl _) _)
      obtain ⟨L', cl', e, hitr⟩ := itr_ints HO6.out
      rw [hn.out] at e hitr
      simp only [Value.slice.injEq] at e
      obtain ⟨rfl, _, rfl⟩ := e
      have HIT := Lib.hid hitr
      have HLD : Kp ((loadVar 141 ⟨w.heap.size, 0, none⟩).run Tryz.prog WF = .ok (.agg #[.int .i64 3, .int .i64 0, .slice none 0 0, .slice L n cl]) WF) := ⟨run_loadVar_row _ _ _ _ _ _ _ hgB Tryz.underlying141 rfl (by kernel_rfl)⟩
      have HWF := Lib.hid hWF
      clear hitr HO5 HO6 hgB hWF
      go_wp2
      rw [HWF.out]
      exact bodyPost_ret (v := .agg #[.int .i64 3, .int .i64 0, .slice none 0 0, .slice L n cl]) (results_cell1 (p := 2) (ty := 141) rfl _ _ ⟨w.heap.size, 0, none⟩ _ rfl HLD.out) rfl ⟨⟨3, 0, none, 0, 0, L, n, cl⟩, rfl, HIT.out, HBF.out⟩
end Go.Proofs.YtdlhodbiaoafiaaGreatDoor
namespace Go.Proofs.YtdlhodbiaoafiaaGreatDoor
open Go.RowKit SpM
set_option linter.unusedVariables false
set_option linter.unusedSimpArgs false
set_option maxRecDepth 100000
theorem lab_pos {s : ByteArray} (h : labB (bys s) = true) : 1 ≤ s.size := by
  rw [labB, bys_len] at h
  simp at h
  exact h.1.1
theorem frame_fits {h : List Int} (hl : h.length = 32) (hb : bytesB h = true) {s : ByteArray} (hs0 : 1 ≤ s.size) (hs : s.size ≤ 1000) {item : It} (hf : fits 7 item) : fits 8 (.lst [.byt h, .byt (bys s), item]) := by
  refine ⟨by simp, fun x hx => ?_⟩
  rcases (by simpa using hx : x = .byt h ∨ x = .byt (bys s) ∨ x = item) with rfl | rfl | rfl
  · exact ⟨⟨by rw [hl]; decide, by rw [hl]; decide⟩, hb⟩
  · exact ⟨⟨by rw [bys_len]; omega, by rw [bys_len]; omega⟩, bys_bytes s⟩
  · exact hf
theorem frame_fits0 {h : List Int} (hl : h.length = 32) (hb : bytesB h = true) {s : ByteArray} (hs0 : 1 ≤ s.size) (hs : s.size ≤ 1000) : fits 8 (.lst [.byt h, .byt (bys s)]) := by
  refine ⟨by simp, fun x hx => ?_⟩
  rcases (by simpa using hx : x = .byt h ∨ x = .byt (bys s)) with rfl | rfl
  · exact ⟨⟨by rw [hl]; decide, by rw [hl]; decide⟩, hb⟩
  · exact ⟨⟨by rw [bys_len]; omega, by rw [bys_len]; omega⟩, bys_bytes s⟩
theorem frame_len {h : List Int} (hl : h.length = 32) {s : ByteArray} (hs : s.size ≤ 1000) {item : It} (hle : (enc item).length ≤ 14000) : (enc (.lst [.byt h, .byt (bys s), item])).length ≤ 16384 := by
  rw [enc_lst]
  simp only [encL, enc_byt, List.length_cons, List.length_append, be4_len, hl, bys_len, List.length_nil]
  omega
theorem frame_len0 {h : List Int} (hl : h.length = 32) {s : ByteArray} (hs : s.size ≤ 1000) : (enc (.lst [.byt h, .byt (bys s)])).length ≤ 16384 := by
  rw [enc_lst]
  simp only [encL, enc_byt, List.length_cons, List.length_append, be4_len, hl, bys_len, List.length_nil]
  omega
theorem yields_built {P : Program} {S : World → Prop} {o : Oper} {a : Act} (t : TypeId) (l : List (Nat × Operand)) (ho : o.op = .build t l.toArray) (cells : Array Value)
    (hf : P.built t (l.map fun x => (x.1, a.eval x.2)) = some cells) : ∀ w, S w → (execOp a.eval o).run P w = .ok (.value (.agg cells)) w := by
  intro w _
  have e : (l.toArray.map fun (x : Nat × Operand) => (x.1, a.eval x.2)).toList = l.map fun x => (x.1, a.eval x.2) := by simp
  unfold execOp
  simp only [ho]
  have h := run_build w t (l.toArray.map fun (x : Nat × Operand) => (x.1, a.eval x.2)) cells (by rw [e]; exact hf)
  simp only [Sem.run_bind, h, Result.andThen_ok, Sem.run_pure]
set_option maxHeartbeats 6400000 in
theorem rabsorb_ok (h : List Int) (hl : Hid (h.length = 32)) (hb : Hid (bytesB h = true)) (c : Int) (hc0 : 0 ≤ c) (hc1 : c < 1000) (s : ByteArray) (hs : s.size ≤ 1000) (hr : Hid (labB (bys s) = true)) (item : It) (cI : Ic) (w : World) (hI : Hid (ItR w item cI)) (hfi : Hid (fits 7 item)) (hle : Hid ((enc item).length ≤ 14000)) :
    Calls Tryz.prog 137 #[.agg (tcs h c), .string s, .agg #[.int .i64 cI.kind, .int .i64 cI.n, .slice cI.B cI.nb cI.cb, .slice cI.L cI.nl cI.cl]] w fun e w' => e = .returned (TrE (abL h (bys s) item) (c + 1) 0) ∧ Below w.heap.size w w' := by
  have hs0 : 1 ≤ s.size := lab_pos hr.out
  obtain ⟨W, hW⟩ : ∃ W, ((w.alloc (.cells (tcs h c) 85)).alloc (.cells #[.int .i64 cI.kind, .int .i64 cI.n, .slice cI.B cI.nb cI.cb, .slice cI.L cI.nl cI.cl] 141)).alloc (.cells #[.int .u8 0, .int .u8 0, .int .u8 0, .int .u8 0, .int .u8 0, .int .u8 0, .int .u8 0, .int .u8 0, .int .u8 0, .int .u8 0, .int .u8 0, .int .u8 0, .int .u8 0, .int .u8 0, .int .u8 0, .int .u8 0, .int .u8 0, .int .u8 0, .int .u8 0, .int .u8 0, .int .u8 0, .int .u8 0, .int .u8 0, .int .u8 0, .int .u8 0, .int .u8 0, .int .u8 0, .int .u8 0, .int .u8 0, .int .u8 0, .int .u8 0, .int .u8 0, .int .i64 0] 85) = W := ⟨_, rfl⟩
  have HBX : Hid (Below w.heap.size w W) := Lib.hid (by rw [← hW]; exact below_ext (below_two (Below.refl _ _)) (below_box0 _ _))
  have HT0 : Hid (TBlk W w.heap.size h c) := Lib.hid (by rw [← hW]; exact ((TBlk.new _ _ _).below (below_box0 _ _)).below (below_box0 _ _))
  have HIB : Hid (W.heap[w.heap.size + 1]? = some (.cells #[.int .i64 cI.kind, .int .i64 cI.n, .slice cI.B cI.nb cI.cb, .slice cI.L cI.nl cI.cl] 141 (0, 0))) := Lib.hid (by rw [← hW, ← (show (w.alloc (.cells (tcs h c) 85)).heap.size = w.heap.size + 1 by simp)]; exact heap_alloc2_old _ _ _)
  have HR0 : Hid (TBlk W (w.heap.size + 1 + 1) (zer 32) 0) := Lib.hid (by rw [← hW, ztr, show w.heap.size + 1 + 1 = (w.alloc (.cells (tcs h c) 85)).heap.size + 1 by simp]; exact heap_alloc2_new _ _ _)
  have HSZ : Hid (W.heap.size = w.heap.size + 3) := Lib.hid (by rw [← hW]; simp)
  have HII := Lib.hid (hI.out.kept HBX.out)
  have HF0 : Hid (Four W (w.heap.size + 1) 0 cI) := Lib.hid (four_cells HIB.out)
  have HW := Lib.hid hW
  clear hW
  go_enter Tryz.func137, Tryz.ntmps137
  go_upto_region 1 with (fail)
  rw [HW.out]
  clear HW
  go_wp2_with ((with_reducible show wpList _ _ _ (⟨some 10, _, _, _, _, _⟩ :: _) _ _); refine wpList_load_row rfl 85 _ rfl w.heap.size rfl _ _ _ _ HT0.out Tryz.underlying85 rfl (tr_info hl.out) ?_)
  refine (rtvalid_any h hl c hc0 (by omega) _).mono ?_
  rintro e w1 ⟨rfl, hb1⟩
  have HB1 := Lib.hid (below_ext HBX.out hb1)
  have HT1 := Lib.hid (HT0.out.below hb1)
  have HI1 := Lib.hid (HII.out.kept hb1)
  have HR1 := Lib.hid (HR0.out.below hb1)
  have HF1 := Lib.hid (HF0.out.below hb1)
  clear hb1 HT0 HII HR0 HIB HBX HF0
  go_wp2_with fail
  refine (rlabel_any s hs true hr _).mono ?_
  rintro e w2 ⟨rfl, rfl⟩
  obtain ⟨f0, f1, f2, f3⟩ := HF1.out
  go_wp2_with ((with_reducible show wpList _ _ _ (⟨some 19, _, _, _, _, _⟩ :: _) _ _); refine wpList_load_row rfl 85 _ rfl w.heap.size rfl _ _ _ _ HT1.out Tryz.underlying85 rfl (tr_info hl.out) ?_)
  clear f0 f1 f2 f3
  obtain ⟨W3, hW3⟩ : ∃ u, w1.alloc (.cells #[.int .i64 cI.kind, .int .i64 cI.n, .slice cI.B cI.nb cI.cb, .slice cI.L cI.nl cI.cl] 141) = u := ⟨_, rfl⟩
  have HF3 : Hid (Four W3 w1.heap.size 0 cI) := Lib.hid (by rw [← hW3]; exact four_cells (heap_alloc_new _ _))
  have hb3 : Below w1.heap.size w1 W3 := by rw [← hW3]; exact below_box0 _ _
  rw [hW3]
  have HI3 := Lib.hid (HI1.out.kept hb3)
  refine (rframe1 h hl hb c s hs0 hs item cI w1.heap.size 1 W3 HF3 HI3).mono ?_
  rintro e w4 ⟨cf, rfl, hcf, hb4⟩
  have HT4 := Lib.hid ((HT1.out.below hb3).below hb4)
  have HR4 := Lib.hid ((HR1.out.below hb3).below hb4)
  have HB4 := Lib.hid (below_ext (below_ext HB1.out hb3) hb4)
  have HC4 := Lib.hid hcf
  rw [show cf.val = .agg cf.cs from rfl]
  clear hb3 hb4 hW3 HF3 HI3 HT1 HR1 HB1 HF1 HI1 hcf
  go_upto_region 4 with ((with_reducible show wpList _ _ _ (⟨none, _, _, _, _, _⟩ :: _) _ _); refine wpList_store_row rfl 141 _ _ rfl w4.heap.size cf.cs rfl rfl _ _ (heap_alloc_new _ _) (ic_info _) rfl (ic_one _) ?_)
  rw [World.setRow_alloc_new]
  try simp only [Act.put]
  have HK5 : Hid ((w4.alloc (.cells cf.cs 141)).heap[w4.heap.size]? = some (.cells cf.cs 141 (0, 0))) := Lib.hid (heap_alloc_new _ _)
  have HT5 := Lib.hid (HT4.out.below (below_box0 w4 (.cells cf.cs 141)))
  have HR5 := Lib.hid (HR4.out.below (below_box0 w4 (.cells cf.cs 141)))
  have HB5 := Lib.hid (below_ext HB4.out (below_box0 w4 (.cells cf.cs 141)))
  have HC5 := Lib.hid (HC4.out.kept (below_box0 w4 (.cells cf.cs 141)))
  have HZ5 : Hid (w4.heap.size < (w4.alloc (.cells cf.cs 141)).heap.size) := Lib.hid (by simp)
  obtain ⟨W5, hW5⟩ : ∃ u, w4.alloc (.cells cf.cs 141) = u := ⟨_, rfl⟩
  rw [hW5] at HK5 HT5 HR5 HB5 HC5 HZ5 ⊢
  clear hW5 HT4 HR4 HB4 HC4
  obtain ⟨bt, hbt⟩ : ∃ b, w4.heap.size = b := ⟨_, rfl⟩
  rw [hbt] at HK5 HZ5 ⊢
  clear hbt
  go_wp2_with ((with_reducible show wpList _ _ _ (⟨some 24, _, _, _, _, _⟩ :: _) _ _); refine wpList_load_row rfl 141 _ rfl bt rfl _ _ _ _ HK5.out Tryz.underlying141 rfl (ic_info _) ?_)
  have HFIT : Hid (fits 8 (.lst [.byt h, .byt (bys s), item])) := Lib.hid (frame_fits hl.out hb.out hs0 hs hfi.out)
  have HLEN : Hid ((enc (.lst [.byt h, .byt (bys s), item])).length ≤ 16384) := Lib.hid (frame_len hl.out hs hle.out)
  rw [show (Value.agg cf.cs) = cf.val from rfl]
  refine (rvalid07_any _ cf _ HFIT.out HC5.out).mono ?_
  rintro e w6 ⟨rfl, hb6⟩
  have HT6 := Lib.hid (HT5.out.below hb6)
  have HR6 := Lib.hid (HR5.out.below hb6)
  have HB6 := Lib.hid (below_ext HB5.out hb6)
  have HC6 := Lib.hid (HC5.out.kept hb6)
  have HK6 := Lib.hid ((hb6.block _ HZ5.out).trans HK5.out)
  clear hb6 HT5 HR5 HB5 HC5 HK5 HZ5
  rw [show cf.val = .agg cf.cs from rfl]
  go_wp2_with ((with_reducible show wpList _ _ _ (⟨some 28, _, _, _, _, _⟩ :: _) _ _); refine wpList_load_row rfl 141 _ rfl bt rfl _ _ _ _ HK6.out Tryz.underlying141 rfl (ic_info _) ?_)
  rw [show (Value.agg cf.cs) = cf.val from rfl]
  refine (renc_any 8 _ cf _ HFIT.out HC6.out HLEN.out).mono ?_
  rintro e w7 ⟨v7, rfl, ho7, hb7⟩
  obtain ⟨E, hE⟩ : ∃ E, enc (.lst [.byt h, .byt (bys s), item]) = E := ⟨_, rfl⟩
  have HEB : Hid (bytesB E = true) := Lib.hid (by rw [← hE]; exact enc_bytes HFIT.out)
  have HEL : Hid (0 < E.length ∧ E.length ≤ 16384) := Lib.hid (by rw [← hE]; exact ⟨enc_pos _, HLEN.out⟩)
  rw [hE] at ho7
  obtain ⟨g7, cap7, e7, hg7, -, -, hsk7⟩ := ho7.cells HEL.out.1
  obtain ⟨n7, hn7⟩ : ∃ n, E.length = n := ⟨_, rfl⟩
  rw [hn7] at e7 HEL
  subst e7
  have HN7 := Lib.hid hn7
  have HS7 := Lib.hid hsk7
  have HT7 := Lib.hid (HT6.out.below hb7)
  have HR7 := Lib.hid (HR6.out.below hb7)
  have HB7 := Lib.hid (below_ext HB6.out hb7)
  have HEE : Kp (enc (.lst [.byt h, .byt (bys s), item]) = E) := ⟨hE⟩
  clear hE hsk7 ho7 hb7 hn7 HFIT HLEN HT6 HR6 HB6 HC6 HK6
  rw [show cf.val = .agg cf.cs from rfl]
  obtain ⟨he0, he1⟩ := HEL.out
  have hcn : ¬ (c = 1000) := by omega
  have hwr : IntKind.i64.wrap (c + 1) = c + 1 := IntWalk.i64_in _ (by omega)
  have hnb : decide ((16384 : Int) < (n7 : Int)) = false := by simp; omega
  have hcnt := HT7.out.count hl.out
  go_wp2_with fail
  clear hcnt
  refine wp_region_T (S := fun w' => w'.cell? ⟨w.heap.size, 32, none⟩ = some (.int .i64 c)) (E := [6, 7]) (by kernel_rfl) (((HT7.out.below (Below.refl _ _).drew)).count hl.out) (fun hHeld => ?_)
  refine wpT_take (i := 0) (oi := _) (v := ?_) rfl (by kernel_rfl) (by kernel_rfl) (by kernel_rfl) (by kernel_rfl) (fun _ _ _ h => h) (Or.inl ⟨by rfl, ?_⟩) (by assumption) ?_
  rotate_left; (intro wS hSw; (try dsimp only at hSw); go_simp <;> with_reducible rfl)
  try simp only [List.getElem_toArray, List.getElem_cons_zero, List.getElem_cons_succ, Act.put, List.setIfInBounds_toArray, List.set_cons_zero, List.set_cons_succ]
  refine wpT_take (i := 2) (oi := _) (v := ?_) rfl (by kernel_rfl) (by kernel_rfl) (by kernel_rfl) (by kernel_rfl) (fun _ _ _ h => h) (Or.inl ⟨by rfl, ?_⟩) (by assumption) ?_
  rotate_left; (intro wS hSw; (try dsimp only at hSw); go_simp <;> with_reducible rfl)
  try simp only [List.getElem_toArray, List.getElem_cons_zero, List.getElem_cons_succ, Act.put, List.setIfInBounds_toArray, List.set_cons_zero, List.set_cons_succ]
  refine wpT_take (i := 3) (oi := _) (v := ?_) rfl (by kernel_rfl) (by kernel_rfl) (by kernel_rfl) (by kernel_rfl) (fun _ _ _ h => h) (Or.inl ⟨by rfl, ?_⟩) (by assumption) ?_
  rotate_left; (intro wS hSw; (try dsimp only at hSw); go_simp <;> with_reducible rfl)
  try simp only [List.getElem_toArray, List.getElem_cons_zero, List.getElem_cons_succ, Act.put, List.setIfInBounds_toArray, List.set_cons_zero, List.set_cons_succ]
  refine wpT_take (i := 4) (oi := _) (v := ?_) rfl (by kernel_rfl) (by kernel_rfl) (by kernel_rfl) (by kernel_rfl) (fun _ _ _ h => h) (Or.inl ⟨by rfl, ?_⟩) (by assumption) ?_
  rotate_left; (intro wS hSw; (try dsimp only at hSw); go_simp <;> with_reducible rfl)
  try simp only [List.getElem_toArray, List.getElem_cons_zero, List.getElem_cons_succ, Act.put, List.setIfInBounds_toArray, List.set_cons_zero, List.set_cons_succ]
  refine wpT_one (i := 1) (by kernel_rfl) rfl (fun K hK => ?_)
  go_simp
  refine (rtagged_any tagAb (by decide) (by decide) g7 0 cap7 E n7 HN7 he0 (by omega) HEB _ (Lib.hid (HS7.out.below (Below.refl _ _).drew))).mono ?_
  rintro e w8 ⟨rfl, hb8⟩
  have HR8 := Lib.hid ((HR7.out.below (Below.refl _ _).drew).below hb8)
  have HT8 := Lib.hid ((HT7.out.below (Below.refl _ _).drew).below hb8)
  have HB8 := Lib.hid (below_ext (below_ext HB7.out (Below.refl _ _).drew) hb8)
  obtain ⟨R, hR⟩ : ∃ R, tagged (bys tagAb) E = R := ⟨_, rfl⟩
  have hRl : R.length = 32 := by rw [← hR]; exact tagged_len _ _
  have HNN : Kp (abL h (bys s) item = R) := ⟨by rw [abL, HEE.1]; exact hR⟩
  have HRL := Lib.hid hRl
  rw [hR]
  clear hR hRl
  refine hK.out _ _ ?_ (fun hHeld => ?_)
  · exact HT8.out.count hl.out
  clear hK K
  try simp only [List.getElem_toArray, List.getElem_cons_zero, List.getElem_cons_succ, Act.put, List.setIfInBounds_toArray, List.set_cons_zero, List.set_cons_succ]
  refine wpT_take (i := 5) (oi := _) (v := (.agg (tcs R (c + 1)))) rfl (by kernel_rfl) (by kernel_rfl) (by kernel_rfl) (by kernel_rfl) (fun _ _ _ h => h) (Or.inl ⟨by rfl, yields_built 85 _ rfl _ (built2 R HRL.out (c + 1))⟩) (by assumption) ?_
  try simp only [List.getElem_toArray, List.getElem_cons_zero, List.getElem_cons_succ, Act.put, List.setIfInBounds_toArray, List.set_cons_zero, List.set_cons_succ]
  refine wpT_pass (i := 6) (by kernel_rfl) (by simp) rfl (fun K hK => ?_)
  rw [show (if Region.wanted _ _ = true then _ else _ : Prop) = _ from if_pos rfl]
  refine wp_store_row 85 _ _ rfl (w.heap.size + 1 + 1) (tcs R (c + 1)) rfl rfl 85 _ HR8.out (tr_info HRL.out) (tcs_sz rfl HRL.out) (tcs_one _ _) ?_
  refine hK.out _ _ ?_
  clear hK K
  try simp only [List.getElem_toArray, List.getElem_cons_zero, List.getElem_cons_succ, Act.put, List.setIfInBounds_toArray, List.set_cons_zero, List.set_cons_succ]
  refine wpT_pass (i := 7) (by kernel_rfl) (by simp) rfl (fun K hK => ?_)
  go_simp
  refine hK.out _ _ ?_
  clear hK K
  try simp only [List.getElem_toArray, List.getElem_cons_zero, List.getElem_cons_succ, Act.put, List.setIfInBounds_toArray, List.set_cons_zero, List.set_cons_succ]
  refine wpT_done (by kernel_rfl) ?_ _
  have HRR : Hid (TBlk (w8.setRow (w.heap.size + 1 + 1) (tcs R (c + 1))) (w.heap.size + 1 + 1) R (c + 1)) := Lib.hid HR8.out.setRow
  have HBF : Below w.heap.size w (w8.setRow (w.heap.size + 1 + 1) (tcs R (c + 1))) := below_setRow' HB8.out (by omega)
  go_wp2
  exact bodyPost_ret (v := TrE R (c + 1) 0) (results_cell_tmp2 (p := 6) (q := 7) (ty := 85) rfl _ _ ⟨w.heap.size + 1 + 1, 0, none⟩ _ _ rfl rfl (run_loadVar_row _ _ _ _ _ _ _ HRR.out Tryz.underlying85 rfl (tr_info HRL.out))) rfl ⟨by rw [HNN.1], HBF⟩
end Go.Proofs.YtdlhodbiaoafiaaGreatDoor
namespace Go.Proofs.YtdlhodbiaoafiaaGreatDoor
open Go.RowKit SpM
set_option linter.unusedVariables false
set_option linter.unusedSimpArgs false
set_option maxRecDepth 100000
set_option maxHeartbeats 3200000 in
theorem rints_ok (h : List Int) (hl : Hid (h.length = 32)) (hb : Hid (bytesB h = true)) (c : Int) (hc0 : 0 ≤ c) (hc1 : c < 1000) (s : ByteArray) (hs : s.size ≤ 1000) (hr : Hid (labB (bys s) = true)) (A : Option Addr) (l : List Int) (n cA : Nat) (hn : Hid (l.length = n)) (hbig : n ≤ 1000) (w : World) (hS : Hid (Sl w A l)) (hfi : Hid (fits 7 (.lst (l.map .int)))) (hle : Hid ((enc (.lst (l.map .int))).length ≤ 14000)) :
    Calls Tryz.prog 104 #[.agg (tcs h c), .string s, .slice A n cA] w fun e w' => e = .returned (TrE (abL h (bys s) (.lst (l.map .int))) (c + 1) 0) ∧ Below w.heap.size w w' := by
  obtain ⟨W, hW⟩ : ∃ W, (w.alloc (.cells (tcs h c) 85)).alloc (.cells #[.int .u8 0, .int .u8 0, .int .u8 0, .int .u8 0, .int .u8 0, .int .u8 0, .int .u8 0, .int .u8 0, .int .u8 0, .int .u8 0, .int .u8 0, .int .u8 0, .int .u8 0, .int .u8 0, .int .u8 0, .int .u8 0, .int .u8 0, .int .u8 0, .int .u8 0, .int .u8 0, .int .u8 0, .int .u8 0, .int .u8 0, .int .u8 0, .int .u8 0, .int .u8 0, .int .u8 0, .int .u8 0, .int .u8 0, .int .u8 0, .int .u8 0, .int .u8 0, .int .i64 0] 85) = W := ⟨_, rfl⟩
  have HBX : Hid (Below w.heap.size w W) := Lib.hid (by rw [← hW]; exact below_two (Below.refl _ _))
  have HT0 : Hid (TBlk W w.heap.size h c) := Lib.hid (by rw [← hW]; exact heap_alloc2_old _ _ _)
  have HR0 : Hid (TBlk W (w.heap.size + 1) (zer 32) 0) := Lib.hid (by rw [← hW, ztr]; exact heap_alloc2_new _ _ _)
  have HSL := Lib.hid (hS.out.below HBX.out)
  have HW := Lib.hid hW
  clear hW
  go_enter Tryz.func104, Tryz.ntmps104
  go_upto_region 1 with (fail)
  rw [HW.out]
  clear HW
  have HBd := Lib.hid ((Below.refl W.heap.size W).drew)
  have HTd := Lib.hid (HT0.out.below HBd.out)
  have HRd := Lib.hid (HR0.out.below HBd.out)
  have HSd := Lib.hid (HSL.out.below HBd.out)
  have HB3 := Lib.hid (below_ext HBX.out HBd.out)
  obtain ⟨Wd, hWd⟩ : ∃ u, W.drew = u := ⟨_, rfl⟩
  refine wp_region_T (S := fun w' => w'.heap[w.heap.size]? = some (.cells (tcs h c) 85 (0, 0))) (E := [7, 8]) (by kernel_rfl) (HTd.out) (fun hHeld => ?_)
  refine wpT_take (i := 0) (oi := _) (v := (.agg (tcs h c))) rfl (by kernel_rfl) (by kernel_rfl) (by kernel_rfl) (by kernel_rfl) (fun _ _ _ h => h) (Or.inl ⟨by rfl, yields_row 85 _ rfl w.heap.size rfl _ _ _ _ (fun _ h => h) Tryz.underlying85 rfl (tr_info hl.out)⟩) (by assumption) ?_
  try simp only [List.getElem_toArray, List.getElem_cons_zero, List.getElem_cons_succ, Act.put, List.setIfInBounds_toArray, List.set_cons_zero, List.set_cons_succ]
  refine wpT_take (i := 1) (oi := _) (v := ?_) rfl (by kernel_rfl) (by kernel_rfl) (by kernel_rfl) (by kernel_rfl) (fun _ _ _ h => h) (Or.inl ⟨by rfl, ?_⟩) (by assumption) ?_
  rotate_left; (intro wS hSw; (try dsimp only at hSw); go_simp <;> with_reducible rfl)
  try simp only [List.getElem_toArray, List.getElem_cons_zero, List.getElem_cons_succ, Act.put, List.setIfInBounds_toArray, List.set_cons_zero, List.set_cons_succ]
  refine wpT_take (i := 2) (oi := _) (v := ?_) rfl (by kernel_rfl) (by kernel_rfl) (by kernel_rfl) (by kernel_rfl) (fun _ _ _ h => h) (Or.inl ⟨by rfl, ?_⟩) (by assumption) ?_
  rotate_left; (intro wS hSw; (try dsimp only at hSw); go_simp <;> with_reducible rfl)
  try simp only [List.getElem_toArray, List.getElem_cons_zero, List.getElem_cons_succ, Act.put, List.setIfInBounds_toArray, List.set_cons_zero, List.set_cons_succ]
  refine wpT_one (i := 3) (by kernel_rfl) rfl (fun K hK => ?_)
  go_simp
  try rw [hWd]
  rw [hWd] at HBd HTd HRd HSd HB3
  refine (rlist_any A l n cA hn (by omega) _ HSd).mono ?_
  rintro e w4 ⟨cI, rfl, hI4, hb4⟩
  refine hK.out _ _ ?_ (fun hHeld => ?_)
  · exact HTd.out.below hb4
  clear hK K
  try simp only [List.getElem_toArray, List.getElem_cons_zero, List.getElem_cons_succ, Act.put, List.setIfInBounds_toArray, List.set_cons_zero, List.set_cons_succ]
  refine wpT_one (i := 4) (by kernel_rfl) rfl (fun K hK => ?_)
  go_simp
  rw [show cI.val = (.agg #[.int .i64 cI.kind, .int .i64 cI.n, .slice cI.B cI.nb cI.cb, .slice cI.L cI.nl cI.cl] : Value) from rfl]
  refine (rabsorb_ok h hl hb c hc0 hc1 s hs hr _ cI _ (Lib.hid hI4) hfi hle).mono ?_
  rintro e w5 ⟨rfl, hb5⟩
  have HR5 := Lib.hid ((HRd.out.below hb4).below hb5)
  have HB5 := Lib.hid (below_ext (below_ext HB3.out hb4) hb5)
  obtain ⟨R, hR⟩ : ∃ R, abL h (bys s) (.lst (l.map .int)) = R := ⟨_, rfl⟩
  have hRl : R.length = 32 := by rw [← hR]; exact abL_len _ _ _
  have HN : Kp (abL h (bys s) (.lst (l.map .int)) = R) := ⟨hR⟩
  have HRL := Lib.hid hRl
  rw [hR, show TrE R (c + 1) 0 = .tuple #[.agg (tcs R (c + 1)), .int .i64 0] from rfl]
  refine hK.out _ _ ?_ (fun hHeld => ?_)
  · exact (HTd.out.below hb4).below hb5
  clear hK K
  try simp only [List.getElem_toArray, List.getElem_cons_zero, List.getElem_cons_succ, Act.put, List.setIfInBounds_toArray, List.set_cons_zero, List.set_cons_succ]
  refine wpT_take (i := 5) (oi := _) (v := ?_) rfl (by kernel_rfl) (by kernel_rfl) (by kernel_rfl) (by kernel_rfl) (fun _ _ _ h => h) (Or.inl ⟨by rfl, ?_⟩) (by assumption) ?_
  rotate_left; (intro wS hSw; (try dsimp only at hSw); go_simp <;> with_reducible rfl)
  try simp only [List.getElem_toArray, List.getElem_cons_zero, List.getElem_cons_succ, Act.put, List.setIfInBounds_toArray, List.set_cons_zero, List.set_cons_succ]
  refine wpT_take (i := 6) (oi := _) (v := ?_) rfl (by kernel_rfl) (by kernel_rfl) (by kernel_rfl) (by kernel_rfl) (fun _ _ _ h => h) (Or.inl ⟨by rfl, ?_⟩) (by assumption) ?_
  rotate_left; (intro wS hSw; (try dsimp only at hSw); go_simp <;> with_reducible rfl)
  try simp only [List.getElem_toArray, List.getElem_cons_zero, List.getElem_cons_succ, Act.put, List.setIfInBounds_toArray, List.set_cons_zero, List.set_cons_succ]
  refine wpT_pass (i := 7) (by kernel_rfl) (by simp) rfl (fun K hK => ?_)
  rw [show (if Region.wanted _ _ = true then _ else _ : Prop) = _ from if_pos rfl]
  refine wp_store_row 85 _ _ rfl (w.heap.size + 1) (tcs R (c + 1)) rfl rfl 85 _ HR5.out (tr_info HRL.out) (tcs_sz rfl HRL.out) (tcs_one _ _) ?_
  refine hK.out _ _ ?_
  clear hK K
  try simp only [List.getElem_toArray, List.getElem_cons_zero, List.getElem_cons_succ, Act.put, List.setIfInBounds_toArray, List.set_cons_zero, List.set_cons_succ]
  refine wpT_pass (i := 8) (by kernel_rfl) (by simp) rfl (fun K hK => ?_)
  go_simp
  refine hK.out _ _ ?_
  clear hK K
  try simp only [List.getElem_toArray, List.getElem_cons_zero, List.getElem_cons_succ, Act.put, List.setIfInBounds_toArray, List.set_cons_zero, List.set_cons_succ]
  refine wpT_done (by kernel_rfl) ?_ _
  have HRR : Hid (TBlk (w5.setRow (w.heap.size + 1) (tcs R (c + 1))) (w.heap.size + 1) R (c + 1)) := Lib.hid HR5.out.setRow
  have HBF : Below w.heap.size w (w5.setRow (w.heap.size + 1) (tcs R (c + 1))) := below_setRow' HB5.out (by omega)
  clear hR hRl hb4 hb5 hI4 HB5 HR5 hWd
  go_wp2
  exact bodyPost_ret (v := TrE R (c + 1) 0) (results_cell_tmp2 (p := 6) (q := 7) (ty := 85) rfl _ _ ⟨w.heap.size + 1, 0, none⟩ _ _ rfl rfl (run_loadVar_row _ _ _ _ _ _ _ HRR.out Tryz.underlying85 rfl (tr_info HRL.out))) rfl ⟨by rw [HN.out], HBF⟩
set_option maxHeartbeats 6400000 in
theorem rchal_ok (h : List Int) (hl : Hid (h.length = 32)) (hb : Hid (bytesB h = true)) (c : Int) (hc0 : 0 ≤ c) (hc1 : c < 1000) (s : ByteArray) (hs : s.size ≤ 1000) (hr : Hid (labB (bys s) = true)) (q : Int) (hq1 : 2 ≤ q) (hq2 : q < 2305843009213693952) (w : World) :
    Calls Tryz.prog 105 #[.agg (tcs h c), .string s, .int .i64 q] w fun e w' => e = .returned (ChE (chL q h (bys s)) (c + 1) (chN q h (bys s)) 0) ∧ Below w.heap.size w w' := by
  have hs0 : 1 ≤ s.size := lab_pos hr.out
  obtain ⟨W, hW⟩ : ∃ W, (w.alloc (.cells (tcs h c) 85)).alloc (.cells #[.int .u8 0, .int .u8 0, .int .u8 0, .int .u8 0, .int .u8 0, .int .u8 0, .int .u8 0, .int .u8 0, .int .u8 0, .int .u8 0, .int .u8 0, .int .u8 0, .int .u8 0, .int .u8 0, .int .u8 0, .int .u8 0, .int .u8 0, .int .u8 0, .int .u8 0, .int .u8 0, .int .u8 0, .int .u8 0, .int .u8 0, .int .u8 0, .int .u8 0, .int .u8 0, .int .u8 0, .int .u8 0, .int .u8 0, .int .u8 0, .int .u8 0, .int .u8 0, .int .i64 0] 85) = W := ⟨_, rfl⟩
  have HBX : Hid (Below w.heap.size w W) := Lib.hid (by rw [← hW]; exact below_two (Below.refl _ _))
  have HT0 : Hid (TBlk W w.heap.size h c) := Lib.hid (by rw [← hW]; exact heap_alloc2_old _ _ _)
  have HR0 : Hid (TBlk W (w.heap.size + 1) (zer 32) 0) := Lib.hid (by rw [← hW, ztr]; exact heap_alloc2_new _ _ _)
  have HW := Lib.hid hW
  have hcn : ¬ (c = 1000) := by omega
  have hqa : ¬ (q < 2) := by omega
  have hqb : ¬ (2305843009213693952 ≤ q) := by omega
  clear hW
  go_enter Tryz.func105, Tryz.ntmps105
  go_upto_region 1 with (fail)
  rw [HW.out]
  clear HW
  go_wp2_with ((with_reducible show wpList _ _ _ (⟨some 12, _, _, _, _, _⟩ :: _) _ _); refine wpList_load_row rfl 85 _ rfl w.heap.size rfl _ _ _ _ HT0.out Tryz.underlying85 rfl (tr_info hl.out) ?_)
  refine (rtvalid_any h hl c hc0 (by omega) _).mono ?_
  rintro e w1 ⟨rfl, hb1⟩
  have HB1 := Lib.hid (below_ext HBX.out hb1)
  have HT1 := Lib.hid (HT0.out.below hb1)
  have HR1 := Lib.hid (HR0.out.below hb1)
  clear hb1 HT0 HR0 HBX
  go_wp2_with fail
  refine (rlabel_any s hs true hr _).mono ?_
  rintro e w2 ⟨rfl, rfl⟩
  have hcnt := HT1.out.count hl.out
  go_wp2_with ((with_reducible show wpList _ _ _ (⟨some 32, _, _, _, _, _⟩ :: _) _ _); refine wpList_load_row rfl 85 _ rfl w.heap.size rfl _ _ _ _ HT1.out Tryz.underlying85 rfl (tr_info hl.out) ?_)
  clear hcnt
  refine (rframe0 h hl hb c s hs0 hs _).mono ?_
  rintro e w2 ⟨cf, rfl, hcf, hb2⟩
  have HFIT : Hid (fits 8 (.lst [.byt h, .byt (bys s)])) := Lib.hid (frame_fits0 hl.out hb.out hs0 hs)
  have HLEN : Hid ((enc (.lst [.byt h, .byt (bys s)])).length ≤ 16384) := Lib.hid (frame_len0 hl.out hs)
  have HT2 := Lib.hid (HT1.out.below hb2)
  have HR2 := Lib.hid (HR1.out.below hb2)
  have HB2 := Lib.hid (below_ext HB1.out hb2)
  have HC2 := Lib.hid hcf
  rw [show cf.val = .agg cf.cs from rfl]
  clear hb2 HT1 HR1 HB1 hcf
  go_wp2_with fail
  rw [show (Value.agg cf.cs) = cf.val from rfl]
  refine (renc_any 8 _ cf _ HFIT.out HC2.out HLEN.out).mono ?_
  rintro e w3 ⟨v3, rfl, ho3, hb3⟩
  obtain ⟨E, hE⟩ : ∃ E, enc (.lst [.byt h, .byt (bys s)]) = E := ⟨_, rfl⟩
  have HEB : Hid (bytesB E = true) := Lib.hid (by rw [← hE]; exact enc_bytes HFIT.out)
  have HEL : Hid (0 < E.length ∧ E.length ≤ 16384) := Lib.hid (by rw [← hE]; exact ⟨enc_pos _, HLEN.out⟩)
  rw [hE] at ho3
  obtain ⟨g3, cap3, e3, hg3, -, -, hsk3⟩ := ho3.cells HEL.out.1
  obtain ⟨n3, hn3⟩ : ∃ n, E.length = n := ⟨_, rfl⟩
  rw [hn3] at e3 HEL
  subst e3
  have HN3 := Lib.hid hn3
  have HS3 := Lib.hid hsk3
  have HT3 := Lib.hid (HT2.out.below hb3)
  have HR3 := Lib.hid (HR2.out.below hb3)
  have HB3 := Lib.hid (below_ext HB2.out hb3)
  have HEE : Kp (enc (.lst [.byt h, .byt (bys s)]) = E) := ⟨hE⟩
  clear hE hsk3 ho3 hb3 hn3 HFIT HLEN HT2 HR2 HB2 HC2
  rw [show cf.val = .agg cf.cs from rfl]
  obtain ⟨he0, he1⟩ := HEL.out
  go_wp2_with fail
  refine (rtagged_any tagCh (by decide) (by decide) g3 0 cap3 E n3 HN3 he0 (by omega) HEB _ HS3).mono ?_
  rintro e w4 ⟨rfl, hb4⟩
  have HT4 := Lib.hid (HT3.out.below hb4)
  have HR4 := Lib.hid (HR3.out.below hb4)
  have HB4 := Lib.hid (below_ext HB3.out hb4)
  obtain ⟨R, hR⟩ : ∃ R, tagged (bys tagCh) E = R := ⟨_, rfl⟩
  have hRl : R.length = 32 := by rw [← hR]; exact tagged_len _ _
  have HRB : Hid (bytesB R = true) := Lib.hid (by rw [← hR]; exact sha_bytes _)
  have HN : Kp (chD h (bys s) = R) := ⟨by rw [chD, HEE.1]; exact hR⟩
  have HRL := Lib.hid hRl
  rw [hR]
  clear hb4 hR hRl HT3 HR3 HB3
  go_wp2_with fail
  refine (rnumber_any R HRL HRB q (by omega) hq2 _).mono ?_
  rintro e w6 ⟨rfl, hb6⟩
  have HT6 := Lib.hid (HT4.out.below hb6)
  have HR6 := Lib.hid (HR4.out.below hb6)
  have HB6 := Lib.hid (below_ext HB4.out hb6)
  obtain ⟨n, hn⟩ : ∃ n, numv q R = n := ⟨_, rfl⟩
  have hn0 : 0 ≤ n ∧ n < q := by rw [← hn]; exact numL_lo (by omega) 16
  obtain ⟨hn1, hn2⟩ := hn0
  have HNN : Kp (chN q h (bys s) = n) := ⟨by rw [chN, HN.1]; exact hn⟩
  rw [hn]
  clear hb6 hn HT4 HR4 HB4
  go_wp2_with ((with_reducible show wpList _ _ _ (⟨some 40, _, _, _, _, _⟩ :: _) _ _); refine wpList_load_row rfl 85 _ rfl w.heap.size rfl _ _ _ _ HT6.out Tryz.underlying85 rfl (tr_info hl.out) ?_)
  refine (rabsorb_ok h hl hb c hc0 hc1 s hs hr (.int n) ⟨1, n, none, 0, 0, none, 0, 0⟩ _ (Lib.hid (.int n _ rfl rfl rfl rfl)) (Lib.hid ⟨by omega, by omega⟩) (Lib.hid (by rw [enc_int, List.length_cons, be8_len]; decide))).mono ?_
  rintro e w7 ⟨rfl, hb7⟩
  have HR7 := Lib.hid (HR6.out.below hb7)
  have HB7 := Lib.hid (below_ext HB6.out hb7)
  obtain ⟨G, hG⟩ : ∃ G, abL h (bys s) (.int n) = G := ⟨_, rfl⟩
  have HGL : Hid (G.length = 32) := Lib.hid (by rw [← hG]; exact abL_len _ _ _)
  have HNG : Kp (chL q h (bys s) = G) := ⟨by rw [chL, HNN.1]; exact hG⟩
  rw [hG, show TrE G (c + 1) 0 = .tuple #[.agg (tcs G (c + 1)), .int .i64 0] from rfl]
  clear hb7 hG HR6 HB6 HT6
  go_upto_region 9 with ((with_reducible show wpList _ _ _ (⟨none, _, _, _, _, _⟩ :: _) _ _); refine wpList_store_row rfl 85 _ _ rfl w7.heap.size (tcs G (c + 1)) rfl rfl _ _ (heap_alloc_new _ _) (tr_info HGL.out) (tcs_sz (h := zer 32) (c := 0) rfl HGL.out) (tcs_one _ _) ?_)
  rw [World.setRow_alloc_new]
  try simp only [Act.put]
  have HK8 : Hid (TBlk (w7.alloc (.cells (tcs G (c + 1)) 85)) w7.heap.size G (c + 1)) := Lib.hid (TBlk.new _ _ _)
  have HR8 := Lib.hid (HR7.out.below (below_box0 w7 (.cells (tcs G (c + 1)) 85)))
  have HB8 := Lib.hid (below_ext HB7.out (below_box0 w7 (.cells (tcs G (c + 1)) 85)))
  obtain ⟨W8, hW8⟩ : ∃ u, w7.alloc (.cells (tcs G (c + 1)) 85) = u := ⟨_, rfl⟩
  rw [hW8] at HK8 HR8 HB8 ⊢
  clear hW8 HR7 HB7
  go_wp2_with (first
    | ((with_reducible show wpList _ _ _ (⟨some 47, _, _, _, _, _⟩ :: _) _ _); refine wpList_load_row rfl 85 _ rfl w7.heap.size rfl _ _ _ _ HK8.out Tryz.underlying85 rfl (tr_info HGL.out) ?_)
    | ((with_reducible show wpList _ _ _ (⟨none, _, _, _, _, _⟩ :: _) _ _); refine wpList_store_row rfl 85 _ _ rfl (w.heap.size + 1) (tcs G (c + 1)) rfl rfl _ _ HR8.out (tr_info HGL.out) (tcs_sz rfl HGL.out) (tcs_one _ _) ?_))
  have HRR : Hid (TBlk (W8.setRow (w.heap.size + 1) (tcs G (c + 1))) (w.heap.size + 1) G (c + 1)) := Lib.hid HR8.out.setRow
  have HBF : Below w.heap.size w (W8.setRow (w.heap.size + 1) (tcs G (c + 1))) := below_setRow' HB8.out (by omega)
  exact bodyPost_ret (v := ChE G (c + 1) n 0) (results_cell_tmp3 (p := 6) (q := 7) (r := 8) (ty := 85) rfl _ _ ⟨w.heap.size + 1, 0, none⟩ _ _ _ rfl rfl rfl (run_loadVar_row _ _ _ _ _ _ _ HRR.out Tryz.underlying85 rfl (tr_info HGL.out))) rfl ⟨by rw [HNG.out, HNN.out], HBF⟩
end Go.Proofs.YtdlhodbiaoafiaaGreatDoor
namespace Go.Proofs.YtdlhodbiaoafiaaGreatDoor
open Go.RowKit SpM
set_option linter.unusedVariables false
set_option linter.unusedSimpArgs false
set_option maxRecDepth 100000
/-- a list of machine integers, not too long. -/
def okL (l : List Int) : Prop := l.length ≤ 1000 ∧ ∀ x ∈ l, -9223372036854775808 ≤ x ∧ x < 9223372036854775808
theorem okL.fits {l : List Int} (h : okL l) : Hid (fits 7 (.lst (l.map .int))) := Lib.hid (by
  refine ⟨by rw [List.length_map]; exact h.1, fun x hx => ?_⟩
  obtain ⟨y, hy, rfl⟩ := List.mem_map.1 hx
  exact h.2 y hy)
theorem encL_ints (l : List Int) : (encL (l.map .int)).length = 9 * l.length := by
  induction l with
  | nil => rfl
  | cons x l ih => rw [List.map_cons, encL, List.length_append, ih, enc_int, List.length_cons, be8_len, List.length_cons]; omega
theorem okL.len {l : List Int} (h : okL l) : Hid ((enc (.lst (l.map .int))).length ≤ 14000) := Lib.hid (by
  rw [enc_lst, List.length_cons, List.length_append, be4_len, encL_ints]
  have := h.1
  omega)
/-- the state behind a list of integers absorbed. -/
def absL (h s l : List Int) : List Int := abL h s (.lst (l.map .int))
theorem absL_len (h s l : List Int) : (absL h s l).length = 32 := abL_len _ _ _
theorem absL_bytes (h s l : List Int) : bytesB (absL h s l) = true := sha_bytes _
end Go.Proofs.YtdlhodbiaoafiaaGreatDoor
namespace Go.Proofs.YtdlhodbiaoafiaaGreatDoor
open Go.RowKit SpM
set_option linter.unusedVariables false
set_option linter.unusedSimpArgs false
set_option maxRecDepth 20000
theorem OwnL.mono {w : World} {B B' : Nat} {v : Value} {xs : List Int} (h : OwnL w B v xs) (hb : B' ≤ B) : OwnL w B' v xs := by
  obtain ⟨h1, h2⟩ := h
  refine ⟨h1, h2.imp id ?_⟩
  rintro ⟨g, cap, cur, rfl, hg, rest⟩
  exact ⟨g, cap, cur, rfl, by omega, rest⟩
/-- a list that the call made. -/
def ListOut (zs : List Int) (w : World) (e : Ending) (w' : World) : Prop := ∃ v, e = .returned v ∧ OwnL w' w.heap.size v zs ∧ Below w.heap.size w w'
end Go.Proofs.YtdlhodbiaoafiaaGreatDoor
namespace Go.Proofs.YtdlhodbiaoafiaaGreatDoor
open Go.RowKit SpM
set_option linter.unusedVariables false
set_option linter.unusedSimpArgs false
set_option maxRecDepth 20000
theorem sl_of_cells {w : World} {b : Nat} {xs : List Int} (h : Cells w b xs) : Sl w (some ⟨b, 0, none⟩) xs := fun k hk => ⟨b, 0, rfl, by rw [Nat.zero_add]; exact h k hk⟩
end Go.Proofs.YtdlhodbiaoafiaaGreatDoor
namespace Go.Proofs.YtdlhodbiaoafiaaGreatDoor
open Go.RowKit SpM
set_option linter.unusedVariables false
set_option linter.unusedSimpArgs false
set_option maxRecDepth 100000
def lbGroup : ByteArray := { data := #[103, 114, 111, 117, 112] }
def lbCh : ByteArray := { data := #[99, 104, 97, 108, 108, 101, 110, 103, 101] }
theorem labGroup : Hid (labB (bys lbGroup) = true) := Lib.hid (by kernel_rfl)
theorem labCh : Hid (labB (bys lbCh) = true) := Lib.hid (by kernel_rfl)
/-- a state: 32 bytes. -/
def St32 (h : List Int) : Prop := h.length = 32 ∧ bytesB h = true
theorem st_abs (h s l : List Int) : St32 (absL h s l) := ⟨absL_len _ _ _, absL_bytes _ _ _⟩
theorem st_new (l : List Int) : St32 (newL l) := ⟨tagged_len _ _, sha_bytes _⟩
/-- what stands while the lists are absorbed. -/
def LcI (W : World) (a : Nat) (h : List Int) (c : Int) (x : Int) (u : World) : Prop := TBlk u a h c ∧ Own u ⟨a + 1, 0, none⟩ (.int .i64 x) ∧ Below W.heap.size W u
theorem LcI.alloc {W : World} {a : Nat} {h : List Int} {c x : Int} {u : World} (hI : LcI W a h c x u) (o : Obj) : LcI W a h c x (u.alloc o) :=
  ⟨hI.1.below (below_box0 _ _), hI.2.1.below (below_box0 _ _), below_ext hI.2.2 (below_box0 _ _)⟩
theorem LcI.below {W : World} {a : Nat} {h : List Int} {c x : Int} {u u' : World} (hI : LcI W a h c x u) (hb : Below u.heap.size u u') : LcI W a h c x u' :=
  ⟨hI.1.below hb, hI.2.1.below hb, below_ext hI.2.2 hb⟩
theorem cells3l (w : World) (T : TypeId) (a b c : Int) : Cells (w.alloc (.cells #[.int .i64 a, .int .i64 b, .int .i64 c] T)) w.heap.size [a, b, c] := by
  intro k hk
  rw [World.cell?_alloc_at _ _ _ _ rfl]
  match k, hk with
  | 0, _ => rfl
  | 1, _ => rfl
  | 2, _ => rfl
end Go.Proofs.YtdlhodbiaoafiaaGreatDoor
namespace Go.Proofs.YtdlhodbiaoafiaaGreatDoor
open Go.RowKit SpM
set_option linter.unusedVariables false
set_option linter.unusedSimpArgs false
set_option maxRecDepth 100000
/-- what stands while the reference absorbs. -/
def RcI (W : World) (a : Nat) (h : List Int) (c : Int) (u : World) : Prop := TBlk u a h c ∧ Below W.heap.size W u
theorem RcI.step {W : World} {a : Nat} {h h' : List Int} {c c' : Int} {u u' : World} (hI : RcI W a h c u) (hb : Below u.heap.size u u') (hWa : W.heap.size ≤ a) : RcI W a h' c' (u'.setRow a (tcs h' c')) :=
  ⟨(hI.1.below hb).setRow, below_setRow' (below_ext hI.2 hb) hWa⟩
theorem rints_st (W : World) (a : Nat) (h : List Int) (hst : Hid (St32 h)) (c : Int) (hc0 : 0 ≤ c) (hc1 : c < 1000) (s : ByteArray) (hs : s.size ≤ 1000) (hr : Hid (labB (bys s) = true)) (A : Option Addr) (l : List Int) (n cA : Nat) (hn : Hid (l.length = n)) (hok : Hid (okL l)) (u : World) (hS : Hid (Sl u A l)) :
    Calls Tryz.prog 104 #[.agg (tcs h c), .string s, .slice A n cA] u fun e u' => e = .returned (TrE (absL h (bys s) l) (c + 1) 0) ∧ Below u.heap.size u u' :=
  rints_ok h (Lib.hid hst.out.1) (Lib.hid hst.out.2) c hc0 hc1 s hs hr A l n cA hn (by rw [← hn.out]; exact hok.out.1) u hS hok.out.fits hok.out.len
end Go.Proofs.YtdlhodbiaoafiaaGreatDoor
namespace Go.Proofs.YtdlhodbiaoafiaaGreatDoor
open Go.RowKit SpM
set_option linter.unusedVariables false
set_option linter.unusedSimpArgs false
set_option maxRecDepth 100000
def lbState : ByteArray := { data := #[115, 116, 97, 116, 101, 109, 101, 110, 116] }
def lbComm : ByteArray := { data := #[99, 111, 109, 109, 105, 116, 109, 101, 110, 116] }
theorem labState : Hid (labB (bys lbState) = true) := Lib.hid (by kernel_rfl)
theorem labComm : Hid (labB (bys lbComm) = true) := Lib.hid (by kernel_rfl)
/-- the challenge of a base, an element, a commitment and a label. -/
def chalK (P Q G b y a0 : Int) (lb : List Int) : Int :=
  chN Q (absL (absL (absL (newL lb) (bys lbGroup) [P, Q, G]) (bys lbState) [b, y]) (bys lbComm) [a0]) (bys lbCh)
theorem tints_st (h : List Int) (hst : Hid (St32 h)) (c : Int) (hc0 : 0 ≤ c) (hc1 : c < 1000) (s : ByteArray) (hs : s.size ≤ 1000) (hr : Hid (labB (bys s) = true)) (A : Option Addr) (l : List Int) (n cA : Nat) (hn : Hid (l.length = n)) (hok : Hid (okL l)) (u : World) (hv : Hid (VarsD u)) (hS : Hid (Sl u A l)) :
    Calls Tryz.prog 85 #[.agg (tcs h c), .string s, .slice A n cA] u fun e u' => e = .returned (TrE (absL h (bys s) l) (c + 1) 0) ∧ Below u.heap.size u u' :=
  tints_ok h (Lib.hid hst.out.1) (Lib.hid hst.out.2) c hc0 hc1 s hs hr A l n cA hn (by rw [← hn.out]; exact hok.out.1) u hv hS hok.out.fits hok.out.len
theorem sl_farK {w w' : World} {g : Nat} {xs : List Int} (h : Sl w (some ⟨g, 0, none⟩) xs) (hb : w'.heap[g]? = w.heap[g]?) : Sl w' (some ⟨g, 0, none⟩) xs := fun k hk => by
  obtain ⟨b, o, e, h1⟩ := h k hk
  cases e
  exact ⟨_, _, rfl, (World.cell?_of_block hb).trans h1⟩
/-- the three labelled lists, laid from block g on. -/
def KcL (P Q G b y a0 : Int) (g : Nat) (u : World) : Prop :=
  Sl u (some ⟨g, 0, none⟩) [P, Q, G] ∧ Sl u (some ⟨g + 1, 0, none⟩) [b, y] ∧ Sl u (some ⟨g + 1 + 1, 0, none⟩) [a0] ∧
  u.cell? ⟨g + 1 + 1 + 1, 0, none⟩ = some (.string lbGroup) ∧ u.cell? ⟨g + 1 + 1 + 1, 1, none⟩ = some (.slice (some ⟨g, 0, none⟩) 3 3) ∧
  u.cell? ⟨g + 1 + 1 + 1, 2, none⟩ = some (.string lbState) ∧ u.cell? ⟨g + 1 + 1 + 1, 3, none⟩ = some (.slice (some ⟨g + 1, 0, none⟩) 2 2) ∧
  u.cell? ⟨g + 1 + 1 + 1, 4, none⟩ = some (.string lbComm) ∧ u.cell? ⟨g + 1 + 1 + 1, 5, none⟩ = some (.slice (some ⟨g + 1 + 1, 0, none⟩) 1 1)
theorem KcL.below {P Q G b y a0 : Int} {g : Nat} {u u' : World} (h : KcL P Q G b y a0 g u) (hb : Below u.heap.size u u') : KcL P Q G b y a0 g u' := by
  obtain ⟨h1, h2, h3, h4, h5, h6, h7, h8, h9⟩ := h
  exact ⟨h1.below hb, h2.below hb, h3.below hb, cell_below h4 hb, cell_below h5 hb, cell_below h6 hb, cell_below h7 hb, cell_below h8 hb, cell_below h9 hb⟩
theorem KcL.setRow {P Q G b y a0 : Int} {g : Nat} {u : World} (h : KcL P Q G b y a0 g u) (a : Nat) (ha : a < g) (cs : Array Value) : KcL P Q G b y a0 g (u.setRow a cs) := by
  have hc : ∀ (k j : Nat), g ≤ k → (u.setRow a cs).cell? ⟨k, j, none⟩ = u.cell? ⟨k, j, none⟩ := fun k j hk => World.cell?_of_block (setRow_other u a k cs (by omega))
  have hs : ∀ (k : Nat) (l : List Int), g ≤ k → Sl u (some ⟨k, 0, none⟩) l → Sl (u.setRow a cs) (some ⟨k, 0, none⟩) l := fun k l hk h => sl_farK h (setRow_other u a k cs (by omega))
  obtain ⟨h1, h2, h3, h4, h5, h6, h7, h8, h9⟩ := h
  exact ⟨hs _ _ (by omega) h1, hs _ _ (by omega) h2, hs _ _ (by omega) h3, (hc _ _ (by omega)).trans h4, (hc _ _ (by omega)).trans h5, (hc _ _ (by omega)).trans h6, (hc _ _ (by omega)).trans h7, (hc _ _ (by omega)).trans h8, (hc _ _ (by omega)).trans h9⟩
theorem kcL_laid (P Q G b y a0 : Int) (T1 T2 : TypeId) (w : World) :
    KcL P Q G b y a0 w.heap.size ((((w.alloc (.cells #[.int .i64 P, .int .i64 Q, .int .i64 G] T1)).alloc (.cells #[.int .i64 b, .int .i64 y] T1)).alloc (.cells #[.int .i64 a0] T1)).alloc (.cells #[.string lbGroup, .slice (some ⟨w.heap.size, 0, none⟩) 3 3, .string lbState, .slice (some ⟨w.heap.size + 1, 0, none⟩) 2 2, .string lbComm, .slice (some ⟨w.heap.size + 1 + 1, 0, none⟩) 1 1] T2)) ∧
    Below w.heap.size w ((((w.alloc (.cells #[.int .i64 P, .int .i64 Q, .int .i64 G] T1)).alloc (.cells #[.int .i64 b, .int .i64 y] T1)).alloc (.cells #[.int .i64 a0] T1)).alloc (.cells #[.string lbGroup, .slice (some ⟨w.heap.size, 0, none⟩) 3 3, .string lbState, .slice (some ⟨w.heap.size + 1, 0, none⟩) 2 2, .string lbComm, .slice (some ⟨w.heap.size + 1 + 1, 0, none⟩) 1 1] T2)) := by
  have s1 : Sl (w.alloc (.cells #[.int .i64 P, .int .i64 Q, .int .i64 G] T1)) (some ⟨w.heap.size, 0, none⟩) [P, Q, G] := sl_of_cells (cells3l w T1 P Q G)
  obtain ⟨w1, h1⟩ : ∃ x, w.alloc (.cells #[.int .i64 P, .int .i64 Q, .int .i64 G] T1) = x := ⟨_, rfl⟩
  have z1 : w1.heap.size = w.heap.size + 1 := by rw [← h1]; simp
  have b1 : Below w.heap.size w w1 := by rw [← h1]; exact below_box0 _ _
  rw [h1] at s1 ⊢
  obtain ⟨w2, h2⟩ : ∃ x, w1.alloc (.cells #[.int .i64 b, .int .i64 y] T1) = x := ⟨_, rfl⟩
  have s2 : Sl w2 (some ⟨w.heap.size + 1, 0, none⟩) [b, y] := by rw [← h2, ← z1]; exact sl_of_cells (cells2 w1 T1 b y)
  have z2 : w2.heap.size = w.heap.size + 1 + 1 := by rw [← h2]; simp [z1]
  have b2 : Below w1.heap.size w1 w2 := by rw [← h2]; exact below_box0 _ _
  rw [h2]
  obtain ⟨w3, h3⟩ : ∃ x, w2.alloc (.cells #[.int .i64 a0] T1) = x := ⟨_, rfl⟩
  have s3 : Sl w3 (some ⟨w.heap.size + 1 + 1, 0, none⟩) [a0] := by rw [← h3, ← z2]; exact sl_of_cells (cells1 w2 T1 a0)
  have z3 : w3.heap.size = w.heap.size + 1 + 1 + 1 := by rw [← h3]; simp [z2]
  have b3 : Below w2.heap.size w2 w3 := by rw [← h3]; exact below_box0 _ _
  rw [h3]
  have b4 := below_box0 w3 (.cells #[.string lbGroup, .slice (some ⟨w.heap.size, 0, none⟩) 3 3, .string lbState, .slice (some ⟨w.heap.size + 1, 0, none⟩) 2 2, .string lbComm, .slice (some ⟨w.heap.size + 1 + 1, 0, none⟩) 1 1] T2)
  refine ⟨⟨((s1.below b2).below b3).below b4, (s2.below b3).below b4, s3.below b4, ?_, ?_, ?_, ?_, ?_, ?_⟩, below_ext (below_ext (below_ext b1 b2) b3) b4⟩ <;> (rw [← z3]; exact World.cell?_alloc_at _ _ _ _ rfl)
set_option maxHeartbeats 12800000 in
theorem kchal_ok (P Q G b y a0 : Int) (s : ByteArray) (hs : s.size ≤ 1000) (hr : Hid (labB (bys s) = true)) (okg : Hid (okL [P, Q, G])) (okb : Hid (okL [b, y])) (oka : Hid (okL [a0]))
    (hQ1 : 2 ≤ Q) (hQ2 : Q < 2305843009213693952) (V : Int) (hV : Kp (chalK P Q G b y a0 (bys s) = V)) (w : World) (hv : Hid (VarsD w)) :
    Calls Tryz.prog 68 #[gv P Q G, .int .i64 b, .int .i64 y, .int .i64 a0, .string s] w fun e w' => e = .returned (.tuple #[.int .i64 V, .int .i64 0]) ∧ Below w.heap.size w w' := by
  obtain ⟨W, hW⟩ : ∃ W, w.alloc (gObj P Q G) = W := ⟨_, rfl⟩
  have HBX : Hid (Below w.heap.size w W) := Lib.hid (by rw [← hW]; exact below_box0 _ _)
  have HGX : Hid (GBox W w.heap.size P Q G) := Lib.hid (by rw [← hW]; exact gbox_alloc w P Q G)
  have HV := Lib.hid (hv.out.below HBX.out)
  have HW := Lib.hid hW
  clear hW hv
  go_enter Tryz.func68, Tryz.ntmps68
  go_upto_region 1 with (fail)
  rw [HW.out]
  clear HW
  go_wp2_with fail
  refine (tnew_ok s hs hr _ HV).mono ?_
  rintro e w1 ⟨rfl, hb1⟩
  obtain ⟨S0, hS0⟩ : ∃ S, newL (bys s) = S := ⟨_, rfl⟩
  have HS0 : Hid (St32 S0) := Lib.hid (by rw [← hS0]; exact st_new _)
  have HV0 : Kp (chN Q (absL (absL (absL S0 (bys lbGroup) [P, Q, G]) (bys lbState) [b, y]) (bys lbComm) [a0]) (bys lbCh) = V) := ⟨by rw [← hS0]; exact hV.1⟩
  rw [hS0, show TrE S0 0 0 = .tuple #[.agg (tcs S0 0), .int .i64 0] from rfl]
  have HL0 := Lib.hid HS0.out.1
  have HB1 := Lib.hid hb1
  clear hb1 hS0 hV
  go_upto_region 2 with ((with_reducible show wpList _ _ _ (⟨none, _, _, _, _, _⟩ :: _) _ _); refine wpList_store_row rfl 85 _ _ rfl w1.heap.size (tcs S0 0) rfl rfl _ _ (heap_alloc_new _ _) (tr_info HL0.out) (tcs_sz (h := zer 32) (c := 0) rfl HL0.out) (tcs_one _ _) ?_)
  rw [World.setRow_alloc_new]
  try simp only [Act.put]
  have hI2 : RcI W w1.heap.size S0 0 (w1.alloc (.cells (tcs S0 0) 85)) := ⟨TBlk.new _ _ _, below_ext HB1.out (below_box0 _ _)⟩
  obtain ⟨W2, hW2⟩ : ∃ u, w1.alloc (.cells (tcs S0 0) 85) = u := ⟨_, rfl⟩
  obtain ⟨a, ha⟩ : ∃ a, w1.heap.size = a := ⟨_, rfl⟩
  have hWa : W.heap.size ≤ a := by rw [← ha]; exact HB1.out.size
  have hs2 : W2.heap.size = a + 1 := by rw [← hW2, ← ha]; simp
  rw [hW2] at hI2 ⊢
  rw [ha] at hI2 ⊢
  have HI2 := Lib.hid hI2
  clear hW2 hI2 ha HB1
  obtain ⟨c0, c1, c2⟩ := HGX.out.below HI2.out.2
  go_upto_region 5 with (fail)
  clear c0 c1 c2
  have hK := kcL_laid P Q G b y a0 3 126 W2
  unfold lbGroup lbState lbComm at hK
  rw [hs2] at hK
  obtain ⟨W4, hW4⟩ : ∃ u, (((W2.alloc (.cells #[.int .i64 P, .int .i64 Q, .int .i64 G] 3)).alloc (.cells #[.int .i64 b, .int .i64 y] 3)).alloc (.cells #[.int .i64 a0] 3)).alloc (.cells #[.string { data := #[103, 114, 111, 117, 112] }, .slice (some ⟨a + 1, 0, none⟩) 3 3, .string { data := #[115, 116, 97, 116, 101, 109, 101, 110, 116] }, .slice (some ⟨a + 1 + 1, 0, none⟩) 2 2, .string { data := #[99, 111, 109, 109, 105, 116, 109, 101, 110, 116] }, .slice (some ⟨a + 1 + 1 + 1, 0, none⟩) 1 1] 126) = u := ⟨_, rfl⟩
  rw [hW4] at hK ⊢
  clear hW4
  obtain ⟨HKL, HB4⟩ := hK
  obtain ⟨HKL, HB4⟩ := And.intro (Lib.hid HKL) (Lib.hid HB4)
  have HI4 : Hid (RcI W a S0 0 W4) := Lib.hid ⟨HI2.out.1.below (by rw [hs2]; exact HB4.out), below_ext HI2.out.2 (by rw [hs2]; exact HB4.out)⟩
  clear HI2 HB4 hs2
  obtain ⟨S1, hS1⟩ : ∃ S, absL S0 (bys lbGroup) [P, Q, G] = S := ⟨_, rfl⟩
  have HS1 : Hid (St32 S1) := Lib.hid (by rw [← hS1]; exact st_abs _ _ _)
  have HE1 := Kp.mk hS1
  obtain ⟨S2, hS2⟩ : ∃ S, absL S1 (bys lbState) [b, y] = S := ⟨_, rfl⟩
  have HS2 : Hid (St32 S2) := Lib.hid (by rw [← hS2]; exact st_abs _ _ _)
  have HE2 := Kp.mk hS2
  obtain ⟨S3, hS3⟩ : ∃ S, absL S2 (bys lbComm) [a0] = S := ⟨_, rfl⟩
  have HS3 : Hid (St32 S3) := Lib.hid (by rw [← hS3]; exact st_abs _ _ _)
  have HE3 := Kp.mk hS3
  have HV3 : Kp (chN Q S3 (bys lbCh) = V) := ⟨by rw [← hS3, ← hS2, ← hS1]; exact HV0.1⟩
  clear hS1 hS2 hS3 HV0
  go_loopw [43] (fun i u => Hid (KcL P Q G b y a0 (a + 1) u) ∧ ((i = .int .i64 0 ∧ Hid (RcI W a S0 0 u)) ∨ (i = .int .i64 1 ∧ Hid (RcI W a S1 1 u)) ∨ (i = .int .i64 2 ∧ Hid (RcI W a S2 2 u)) ∨ (i = .int .i64 3 ∧ Hid (RcI W a S3 3 u)))) (fun i _ => 3 - (intOf i).toNat)
  case atStart => exact ⟨HKL, Or.inl ⟨rfl, HI4⟩⟩
  case round =>
    obtain ⟨HK, hcase⟩ := hrel
    obtain ⟨k1, k2, k3, e0, e1, e2, e3, e4, e5⟩ := HK.out
    have HA1 := Lib.hid k1
    have HA2 := Lib.hid k2
    have HA3 := Lib.hid k3
    clear k1 k2 k3
    unfold lbGroup at e0
    unfold lbState at e2
    unfold lbComm at e4
    rcases hcase with ⟨rfl, HI⟩ | ⟨rfl, HI⟩ | ⟨rfl, HI⟩ | ⟨rfl, HI⟩
    · have HLk := Lib.hid HS0.out.1
      have HLn := Lib.hid HS1.out.1
      have hq := below_box0 wr (.cells #[.string { data := #[103, 114, 111, 117, 112] }, .slice (some ⟨a + 1, 0, none⟩) 3 3] 126)
      have HTk := Lib.hid (HI.out.1.below hq)
      have HVk := Lib.hid ((HV.out.below HI.out.2).below hq)
      have HAk := Lib.hid (HA1.out.below hq)
      have HIq : Hid (RcI W a S0 0 (wr.alloc (.cells #[.string { data := #[103, 114, 111, 117, 112] }, .slice (some ⟨a + 1, 0, none⟩) 3 3] 126))) := Lib.hid ⟨HI.out.1.below hq, below_ext HI.out.2 hq⟩
      have HKq := Lib.hid (HK.out.below hq)
      clear hq
      go_wp2_with ((with_reducible show wpList _ _ _ (⟨some 48, _, _, _, _, _⟩ :: _) _ _); refine wpList_load_row rfl 85 _ rfl a rfl _ _ _ _ HTk.out Tryz.underlying85 rfl (tr_info HLk.out) ?_)
      refine (tints_st S0 HS0 0 (by omega) (by omega) lbGroup (by decide) labGroup (some ⟨a + 1, 0, none⟩) [P, Q, G] 3 3 (Lib.hid rfl) okg _ HVk HAk).mono ?_
      rintro e w6 ⟨rfl, hb6⟩
      rw [HE1.1, show TrE S1 (0 + 1) 0 = .tuple #[.agg (tcs S1 1), .int .i64 0] from rfl]
      have HT6 := Lib.hid (HTk.out.below hb6)
      have HI6 := Lib.hid (HIq.out.step (h' := S1) (c' := 1) hb6 hWa)
      have HK6 := Lib.hid (HKq.out.below hb6)
      clear hb6 e0 e1 e2 e3 e4 e5 HK HI HIq HKq
      go_wp2_with ((with_reducible show wpList _ _ _ (⟨none, _, _, _, _, _⟩ :: _) _ _); refine wpList_store_row rfl 85 _ _ rfl a (tcs S1 1) rfl rfl _ _ HT6.out (tr_info HLn.out) (tcs_sz HLk.out HLn.out) (tcs_one _ _) ?_)
      go_roundw
      case rel => exact ⟨Lib.hid (HK6.out.setRow a (Nat.lt_succ_self a) _), Or.inr (Or.inl ⟨by go_num, HI6⟩)⟩
      case measure => simp [intOf]
    · have HLk := Lib.hid HS1.out.1
      have HLn := Lib.hid HS2.out.1
      have hq := below_box0 wr (.cells #[.string { data := #[115, 116, 97, 116, 101, 109, 101, 110, 116] }, .slice (some ⟨a + 1 + 1, 0, none⟩) 2 2] 126)
      have HTk := Lib.hid (HI.out.1.below hq)
      have HVk := Lib.hid ((HV.out.below HI.out.2).below hq)
      have HAk := Lib.hid (HA2.out.below hq)
      have HIq : Hid (RcI W a S1 1 (wr.alloc (.cells #[.string { data := #[115, 116, 97, 116, 101, 109, 101, 110, 116] }, .slice (some ⟨a + 1 + 1, 0, none⟩) 2 2] 126))) := Lib.hid ⟨HI.out.1.below hq, below_ext HI.out.2 hq⟩
      have HKq := Lib.hid (HK.out.below hq)
      clear hq
      go_wp2_with ((with_reducible show wpList _ _ _ (⟨some 48, _, _, _, _, _⟩ :: _) _ _); refine wpList_load_row rfl 85 _ rfl a rfl _ _ _ _ HTk.out Tryz.underlying85 rfl (tr_info HLk.out) ?_)
      refine (tints_st S1 HS1 1 (by omega) (by omega) lbState (by decide) labState (some ⟨a + 1 + 1, 0, none⟩) [b, y] 2 2 (Lib.hid rfl) okb _ HVk HAk).mono ?_
      rintro e w6 ⟨rfl, hb6⟩
      rw [HE2.1, show TrE S2 (1 + 1) 0 = .tuple #[.agg (tcs S2 2), .int .i64 0] from rfl]
      have HT6 := Lib.hid (HTk.out.below hb6)
      have HI6 := Lib.hid (HIq.out.step (h' := S2) (c' := 2) hb6 hWa)
      have HK6 := Lib.hid (HKq.out.below hb6)
      clear hb6 e0 e1 e2 e3 e4 e5 HK HI HIq HKq
      go_wp2_with ((with_reducible show wpList _ _ _ (⟨none, _, _, _, _, _⟩ :: _) _ _); refine wpList_store_row rfl 85 _ _ rfl a (tcs S2 2) rfl rfl _ _ HT6.out (tr_info HLn.out) (tcs_sz HLk.out HLn.out) (tcs_one _ _) ?_)
      go_roundw
      case rel => exact ⟨Lib.hid (HK6.out.setRow a (Nat.lt_succ_self a) _), Or.inr (Or.inr (Or.inl ⟨by go_num, HI6⟩))⟩
      case measure => simp [intOf]
    · have HLk := Lib.hid HS2.out.1
      have HLn := Lib.hid HS3.out.1
      have hq := below_box0 wr (.cells #[.string { data := #[99, 111, 109, 109, 105, 116, 109, 101, 110, 116] }, .slice (some ⟨a + 1 + 1 + 1, 0, none⟩) 1 1] 126)
      have HTk := Lib.hid (HI.out.1.below hq)
      have HVk := Lib.hid ((HV.out.below HI.out.2).below hq)
      have HAk := Lib.hid (HA3.out.below hq)
      have HIq : Hid (RcI W a S2 2 (wr.alloc (.cells #[.string { data := #[99, 111, 109, 109, 105, 116, 109, 101, 110, 116] }, .slice (some ⟨a + 1 + 1 + 1, 0, none⟩) 1 1] 126))) := Lib.hid ⟨HI.out.1.below hq, below_ext HI.out.2 hq⟩
      have HKq := Lib.hid (HK.out.below hq)
      clear hq
      go_wp2_with ((with_reducible show wpList _ _ _ (⟨some 48, _, _, _, _, _⟩ :: _) _ _); refine wpList_load_row rfl 85 _ rfl a rfl _ _ _ _ HTk.out Tryz.underlying85 rfl (tr_info HLk.out) ?_)
      refine (tints_st S2 HS2 2 (by omega) (by omega) lbComm (by decide) labComm (some ⟨a + 1 + 1 + 1, 0, none⟩) [a0] 1 1 (Lib.hid rfl) oka _ HVk HAk).mono ?_
      rintro e w6 ⟨rfl, hb6⟩
      rw [HE3.1, show TrE S3 (2 + 1) 0 = .tuple #[.agg (tcs S3 3), .int .i64 0] from rfl]
      have HT6 := Lib.hid (HTk.out.below hb6)
      have HI6 := Lib.hid (HIq.out.step (h' := S3) (c' := 3) hb6 hWa)
      have HK6 := Lib.hid (HKq.out.below hb6)
      clear hb6 e0 e1 e2 e3 e4 e5 HK HI HIq HKq
      go_wp2_with ((with_reducible show wpList _ _ _ (⟨none, _, _, _, _, _⟩ :: _) _ _); refine wpList_store_row rfl 85 _ _ rfl a (tcs S3 3) rfl rfl _ _ HT6.out (tr_info HLn.out) (tcs_sz HLk.out HLn.out) (tcs_one _ _) ?_)
      go_roundw
      case rel => exact ⟨Lib.hid (HK6.out.setRow a (Nat.lt_succ_self a) _), Or.inr (Or.inr (Or.inr ⟨by go_num, HI6⟩))⟩
      case measure => simp [intOf]
    · have HL3 := Lib.hid HS3.out.1
      have HTk := Lib.hid HI.out.1
      have HVk := Lib.hid (HV.out.below HI.out.2)
      obtain ⟨g0, g1, g2⟩ := HGX.out.below HI.out.2
      clear e0 e1 e2 e3 e4 e5 HK
      go_wp2_with ((with_reducible show wpList _ _ _ (⟨some 61, _, _, _, _, _⟩ :: _) _ _); refine wpList_load_row rfl 85 _ rfl a rfl _ _ _ _ HTk.out Tryz.underlying85 rfl (tr_info HL3.out) ?_)
      refine (tchal_ok S3 HL3 (Lib.hid HS3.out.2) 3 (by omega) (by omega) lbCh (by decide) labCh Q hQ1 hQ2 _ HVk).mono ?_
      rintro e w7 ⟨rfl, hb7⟩
      obtain ⟨G4, hG4⟩ : ∃ G4, chL Q S3 (bys lbCh) = G4 := ⟨_, rfl⟩
      have HG4 : Hid (G4.length = 32) := Lib.hid (by rw [← hG4]; exact abL_len _ _ _)
      rw [hG4, HV3.1, show ChE G4 (3 + 1) V 0 = .tuple #[.agg (tcs G4 4), .int .i64 V, .int .i64 0] from rfl]
      have HB7 := Lib.hid (below_ext HBX.out (below_ext HI.out.2 hb7))
      clear hb7 hG4 g0 g1 g2
      go_upto_region 12 with ((with_reducible show wpList _ _ _ (⟨none, _, _, _, _, _⟩ :: _) _ _); refine wpList_store_row rfl 85 _ _ rfl w7.heap.size (tcs G4 4) rfl rfl _ _ (heap_alloc_new _ _) (tr_info HG4.out) (tcs_sz (h := zer 32) (c := 0) rfl HG4.out) (tcs_one _ _) ?_)
      rw [World.setRow_alloc_new]
      try simp only [Act.put]
      have hBF := below_ext HB7.out (below_box0 w7 (.cells (tcs G4 4) 85))
      go_wp2
      go_ret2
      exact ⟨rfl, hBF⟩
end Go.Proofs.YtdlhodbiaoafiaaGreatDoor
