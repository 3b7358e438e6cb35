/- Contracts and lemmas: TlS4, TlS5, TlZ. -/
import Derived.Deep.DeepMust
import Derived.Test.YtpmjgkkcckhabaaDoorTk7
namespace Go.Proofs.YtpmjgkkcckhabaaDoor
open Go.RowKit SpM
set_option linter.unusedVariables false
set_option linter.unusedSimpArgs false
set_option maxRecDepth 100000
set_option maxHeartbeats 6400000 in
theorem tk_4 (O : Option Addr) (os : List OrdR) (n c : Nat) (K : Option Addr) (hs : List (List Int)) (m d : Nat) (hn : Hid (os.length = n)) (hm : Hid (hs.length = m)) (hI : ∀ k, k < n → OrdI (orL os k)) (wh kd : Int) (hw0 : 0 ≤ wh) (hw1 : wh < 256) (hk0 : 0 ≤ kd) (hk1 : kd < 256) (hq : kd % 6 = 4) (w : World) (hv : Hid (VarsD w)) (hO : Hid (Os w O os)) (hK : Hid (Hs w K hs)) :
    Calls Tryd.prog 3 #[tlV O n c K m d, .int .u8 wh, .int .u8 kd] w fun e' w' => e' = .returned (.bool true) ∧ Below w.heap.size w w' := by
  obtain ⟨w0, HW, HBw, kC⟩ := stTl O n c K m d w
  have kD := Lib.hid (show ∀ u : World, Hid (Below w0.heap.size w0 u) → Hid (VarsD u) from fun u h => Lib.hid ((hv.out.below) (below_ext HBw.out h.out)))
  have kO := Lib.hid (show ∀ u : World, Hid (Below w0.heap.size w0 u) → Hid (Os u O os) from fun u h => Lib.hid ((hO.out.below) (below_ext HBw.out h.out)))
  have kK := Lib.hid (show ∀ u : World, Hid (Below w0.heap.size w0 u) → Hid (Hs u K hs) from fun u h => Lib.hid ((hK.out.below) (below_ext HBw.out h.out)))
  have HB_0 : Hid (Below w0.heap.size w0 w0) := Lib.hid (Below.refl _ _)
  clear hO hK hv
  have HI := Lib.hid hI
  clear hI
  go_enter Tryd.func3, Tryd.ntmps3
  go_wp2_with fail
  rw [HW.out]
  obtain ⟨zc0, zc1⟩ := kC.out _ HB_0
  go_wp2_with fail
  refine (awake51 _ (kD.out _ HB_0)).mono ?_
  rintro e w1 ⟨rfl, hb0⟩
  have HB_1 := Lib.hid (below_ext HB_0.out hb0)
  clear zc0 zc1
  clear hb0
  obtain ⟨zc0, zc1⟩ := kC.out _ HB_1
  go_wp2_with fail
  refine (few51_any O os n c K m d hn _ (kO.out _ HB_1)).mono ?_
  rintro e w2 ⟨bf, rfl, hbf, hb0⟩
  have HB_2 := Lib.hid (below_ext HB_1.out hb0)
  clear zc0 zc1
  clear hb0
  obtain ⟨zc0, zc1⟩ := kC.out _ HB_2
  have HBF := Lib.hid hbf
  clear hbf
  cases bf with
  | false =>
    go_wp2_with fail
    refine (awake51 _ (kD.out _ HB_2)).mono ?_
    rintro e w3 ⟨rfl, hb0⟩
    have HB_3 := Lib.hid (below_ext HB_2.out hb0)
    clear zc0 zc1
    clear hb0
    obtain ⟨zc0, zc1⟩ := kC.out _ HB_3
    have hbF := below_ext HBw.out HB_3.out
    go_wp2
    go_ret
    exact ⟨rfl, hbF⟩
  | true =>
    have hbb := HBF.out rfl
    have hb1 : n ≤ 1000000 := by omega
    have hb2 : m ≤ 1000000 := by omega
    clear hbb HBF
    have d0 : ((m : Int) == 0) = decide (m = 0) := by rw [Bool.eq_iff_iff]; simp
    by_cases hm0 : m = 0
    · have d1 : decide (m = 0) = true := by simp [hm0]
      rw [d1] at d0
      go_wp2_with fail
      refine (awake51 _ (kD.out _ HB_2)).mono ?_
      rintro e w3 ⟨rfl, hb0⟩
      have HB_3 := Lib.hid (below_ext HB_2.out hb0)
      clear zc0 zc1
      clear hb0
      obtain ⟨zc0, zc1⟩ := kC.out _ HB_3
      have hbF := below_ext HBw.out HB_3.out
      go_wp2
      go_ret
      exact ⟨rfl, hbF⟩
    · have d1 : decide (m = 0) = false := by simp [hm0]
      rw [d1] at d0
      cases htr : trlB os hs with
      | false =>
        have HT : Kp (trlB os hs = false) := ⟨htr⟩
        clear htr
        go_wp2_with fail
        refine (tval_any O os n c K hs m d hn hm HI.out hb1 hb2 false HT _ (kD.out _ HB_2) (kO.out _ HB_2) (kK.out _ HB_2)).mono ?_
        rintro e w3 ⟨rfl, hb0⟩
        have HB_3 := Lib.hid (below_ext HB_2.out hb0)
        clear zc0 zc1
        clear hb0
        obtain ⟨zc0, zc1⟩ := kC.out _ HB_3
        go_wp2_with fail
        refine (awake51 _ (kD.out _ HB_3)).mono ?_
        rintro e w4 ⟨rfl, hb0⟩
        have HB_4 := Lib.hid (below_ext HB_3.out hb0)
        clear zc0 zc1
        clear hb0
        obtain ⟨zc0, zc1⟩ := kC.out _ HB_4
        have hbF := below_ext HBw.out HB_4.out
        go_wp2
        go_ret
        exact ⟨rfl, hbF⟩
      | true =>
        have HT : Kp (trlB os hs = true) := ⟨htr⟩
        clear htr
        go_wp2_with fail
        refine (tval_any O os n c K hs m d hn hm HI.out hb1 hb2 true HT _ (kD.out _ HB_2) (kO.out _ HB_2) (kK.out _ HB_2)).mono ?_
        rintro e w3 ⟨rfl, hb0⟩
        have HB_3 := Lib.hid (below_ext HB_2.out hb0)
        clear zc0 zc1
        clear hb0
        obtain ⟨zc0, zc1⟩ := kC.out _ HB_3
        go_wp2_with fail
        refine (rtval_any O os n c K hs m d hn hm HI.out hb1 hb2 true HT _ (kD.out _ HB_3) (kO.out _ HB_3) (kK.out _ HB_3)).mono ?_
        rintro e w4 ⟨rfl, hb0⟩
        have HB_4 := Lib.hid (below_ext HB_3.out hb0)
        clear zc0 zc1
        clear hb0
        obtain ⟨zc0, zc1⟩ := kC.out _ HB_4
        obtain ⟨i, hrem, him⟩ : ∃ i : Nat, wh % (m : Int) = (i : Int) ∧ i < m := ⟨(wh % (m : Int)).toNat, by rw [Int.toNat_of_nonneg (Int.emod_nonneg _ (by omega))], by have := Int.emod_lt_of_pos wh (show (0 : Int) < m by omega); have := Int.emod_nonneg wh (show (m : Int) ≠ 0 by omega); omega⟩
        have HCK := Lib.hid (closed_key HT.1 (i := i) (by rw [hm.out]; exact him))
        have hin : i < n := by rw [← hn.out]; exact HCK.out.1
        have HLN : Hid (∀ x ∈ hs, x.length = 32) := Lib.hid (hs_lens ((kK.out _ HB_4)).out)
        have HNP : ∀ k, k < n → (orL os k).np ≤ 1000000 := fun k hk => by
          have h1 := (trR_parts (trS_get (trl_parts HT.1).1 k (by rw [hn.out]; exact hk))).1
          simp only [ordB, Bool.and_eq_true, decide_eq_true_eq] at h1
          have := h1.2.2.2.2.1; omega
        have HOB := Lib.hid ((kO.out _ HB_4)).out
        have HB_w4_4 : Hid (Below w4.heap.size w4 w4) := Lib.hid (Below.refl _ _)
        go_wp2_with fail
        refine (copy_any O os n c K hs m d hn hm hb1 hb2 HNP _ (kO.out _ HB_4) (kK.out _ HB_4)).mono ?_
        rintro e w5 ⟨O', c', K', d', os', rfl, hl', hc', hd', hcp, hoO, hoK, hne1, hne2, hdis, hb0⟩
        have HBL := hb0
        have HB_5 := Lib.hid (below_ext HB_4.out hb0)
        have HB_w4_5 := Lib.hid (below_ext HB_w4_4.out hb0)
        clear zc0 zc1
        clear hb0
        obtain ⟨gO, gK, rfl, rfl, ⟨cc1, cc2⟩, ⟨cd1, cd2⟩, hcd⟩ := cpy_cpd hn.out hl' hm.out (by omega) (by omega) HLN.out HOB.out hcp hoO hoK hne1 hne2 HBL
        have HREL : Hid (∀ k, k < n → ∃ L cx, orL os' k = reL (orL os k) L cx) := Lib.hid fun k hk => by
          obtain ⟨L, cx, e, _⟩ := hcp k hk
          exact ⟨L, cx, e⟩
        have HDIS := Lib.hid hdis
        have HL' := Lib.hid hl'
        have HCD := Lib.hid hcd
        clear hl' hc' hd' hcp hoO hoK hne1 hne2 hdis hcd HNP HBL
        rw [hrem]
        clear hrem
        have HB_w5_5 : Hid (Below w5.heap.size w5 w5) := Lib.hid (Below.refl _ _)
        obtain ⟨zc0, zc1⟩ := kC.out _ HB_5
        have hq := below_box0 w5 (tlO (some ⟨gO, 0, none⟩) n c' (some ⟨gK, 0, none⟩) m d')
        have HB_6 := Lib.hid (below_ext HB_5.out hq)
        have HB_w4_6 := Lib.hid (below_ext HB_w4_5.out hq)
        have HB_w5_6 := Lib.hid (below_ext HB_w5_5.out hq)
        have hc : (w5.alloc (tlO (some ⟨gO, 0, none⟩) n c' (some ⟨gK, 0, none⟩) m d')).cell? ⟨w5.heap.size, 0, none⟩ = some (.slice (some ⟨gO, 0, none⟩) n c') ∧ (w5.alloc (tlO (some ⟨gO, 0, none⟩) n c' (some ⟨gK, 0, none⟩) m d')).cell? ⟨w5.heap.size, 1, none⟩ = some (.slice (some ⟨gK, 0, none⟩) m d') := ⟨allocs_cell rfl (by rfl), allocs_cell rfl (by rfl)⟩
        have HC6 := Lib.hid hc
        have HK6 := Lib.hid (heap_alloc_new w5 (tlO (some ⟨gO, 0, none⟩) n c' (some ⟨gK, 0, none⟩) m d'))
        clear zc0 zc1
        clear hq
        obtain ⟨zc0, zc1⟩ := kC.out _ HB_6
        obtain ⟨zq0, zq1⟩ := hc
        go_upto_region 18 with (fail)
        obtain ⟨w6, hw⟩ : ∃ x, (w5.alloc (tlO (some ⟨gO, 0, none⟩) n c' (some ⟨gK, 0, none⟩) m d')) = x := ⟨_, rfl⟩
        rw [hw] at HC6 HK6 HB_6 HB_w4_6 HB_w5_6 ⊢
        have HSN6 : Hid (w6.heap.size = w5.heap.size + 1) := Lib.hid (by rw [← hw]; simp)
        clear zc0 zc1 zq0 zq1
        clear hw
        have HB_w6_6 : Hid (Below w6.heap.size w6 w6) := Lib.hid (Below.refl _ _)
        have kT := Lib.hid (show ∀ u : World, Hid (Below w6.heap.size w6 u) → u.cell? ⟨w5.heap.size, 0, none⟩ = some (.slice (some ⟨gO, 0, none⟩) n c') ∧ u.cell? ⟨w5.heap.size, 1, none⟩ = some (.slice (some ⟨gK, 0, none⟩) m d') from fun u h => ⟨cell_below HC6.out.1 h.out, cell_below HC6.out.2 h.out⟩)
        obtain ⟨zc0, zc1⟩ := kC.out _ HB_6
        obtain ⟨kT_0, kT_1⟩ := kT.out _ HB_w6_6
        have HCD6 : Hid (Cpd w4 w6 w5.heap.size gO gK os' hs n m) := Lib.hid (HCD.out.keep (fun b hb => (HB_w5_6).out.block b hb) (HB_w4_6).out)
        have hil : i < os'.length := by rw [HL'.out]; exact hin
        obtain ⟨k, hkm, hkm2⟩ : ∃ k : Nat, ((i : Int) + 1) % (m : Int) = (k : Int) ∧ k < m := ⟨(((i : Int) + 1) % (m : Int)).toNat, by rw [Int.toNat_of_nonneg (Int.emod_nonneg _ (by omega))], by have := Int.emod_lt_of_pos ((i : Int) + 1) (show (0 : Int) < m by omega); have := Int.emod_nonneg ((i : Int) + 1) (show (m : Int) ≠ 0 by omega); omega⟩
        have hkn : k < n := by have := (closed_key HT.1 (i := k) (by rw [hm.out]; exact hkm2)).1; rw [hn.out] at this; exact this
        have hkl : k < os'.length := by rw [HL'.out]; exact hkn
        go_upto_region 19 with (fail)
        rw [hkm]
        clear hkm
        have d5 : ((k : Int) == (i : Int)) = decide (k = i) := by rw [Bool.eq_iff_iff, beq_iff_eq, decide_eq_true_eq]; omega
        by_cases hie : k = i
        · have d6 : decide (k = i) = true := by simp [hie]
          rw [d6] at d5
          clear hie d6
          have hbF := below_ext HBw.out HB_6.out
          go_wp2
          go_ret
          exact ⟨rfl, hbF⟩
        · have d6 : decide (k = i) = false := by simp [hie]
          rw [d6] at d5
          have HIE := Lib.hid hie
          clear hie d6
          obtain ⟨oi, hoi⟩ : ∃ x, orL os' i = x := ⟨_, rfl⟩
          obtain ⟨ok, hok⟩ : ∃ x, orL os' k = x := ⟨_, rfl⟩
          have HOI := Lib.hid hoi
          have HOK := Lib.hid hok
          have HNi : Hid (Nine w6 gO (i * 9) oi) := Lib.hid (by rw [← hoi]; exact nine_of (HCD6.out.ro.at_ i hil))
          have HNk : Hid (Nine w6 gO (k * 9) ok) := Lib.hid (by rw [← hok]; exact nine_of (HCD6.out.ro.at_ k hkl))
          have hinf : (Tryd.prog.info? 37).map (·.size) = some 9 := by kernel_rfl
          have HINF := Lib.hid hinf
          clear hoi hok hinf
          have HTH : Hid (∀ j, j < n → w6.there gO (j * 9) 9) := Lib.hid (fun j hj r hr => by have h1 : j * 9 + r < n * 9 := (by omega); have h2 := HCD6.out.ro.there _ h1; rw [Nat.zero_add] at h2; exact h2)
          have HNE : Hid (w5.heap.size ≠ gO) := Lib.hid (Nat.ne_of_gt HCD6.out.lg.2)
          go_upto_region 21 with (fail)
          have HONoi : Hid ((#[.int .i64 oi.num, .string oi.rs, .int .i64 oi.E1, .int .i64 oi.E2, .slice oi.A oi.na oi.ca, .int .i64 oi.C, .slice oi.Z oi.nz oi.cz, .slice oi.L oi.np oi.cp, .int .i64 oi.key] : Array Value).all (·.oneCell') = true) := Lib.hid (by simp [Value.oneCell'])
          have HONok : Hid ((#[.int .i64 ok.num, .string ok.rs, .int .i64 ok.E1, .int .i64 ok.E2, .slice ok.A ok.na ok.ca, .int .i64 ok.C, .slice ok.Z ok.nz ok.cz, .slice ok.L ok.np ok.cp, .int .i64 ok.key] : Array Value).all (·.oneCell') = true) := Lib.hid (by simp [Value.oneCell'])
          refine wp_region_T (S := fun w' => w'.cell? ⟨w5.heap.size, 0, none⟩ = some (.slice (some ⟨gO, 0, none⟩) n c')) (E := [19]) (by kernel_rfl) kT_0 (fun hHeld => ?_)
          have HNi2 : Hid (Nine w6.drew gO (i * 9) oi) := Lib.hid HNi.out
          have HNk2 : Hid (Nine w6.drew gO (k * 9) ok) := Lib.hid HNk.out
          have HTH2 : Hid (∀ j, j < n → w6.drew.there gO (j * 9) 9) := Lib.hid HTH.out
          have HCDD : Hid (Cpd w4 w6.drew w5.heap.size gO gK os' hs n m) := Lib.hid (HCD6.out.keep (fun b hb => rfl) HCD6.out.bel.drew)
          have HBD : Hid (Below w0.heap.size w0 w6.drew) := Lib.hid (HB_6.out.drew)
          have HPD : Hid (Own w6.drew ⟨w5.heap.size, 0, none⟩ (.slice (some ⟨gO, 0, none⟩) n c') ∧ Own w6.drew ⟨w5.heap.size, 1, none⟩ (.slice (some ⟨gK, 0, none⟩) m d')) := Lib.hid ⟨⟨HC6.out.1, frozen_blk HK6.out 0⟩, ⟨HC6.out.2, frozen_blk HK6.out 1⟩⟩
          obtain ⟨wD, hwD⟩ : ∃ u, w6.drew = u := ⟨_, rfl⟩
          rw [hwD] at HNi2 HNk2 HTH2 HCDD HBD HPD hHeld ⊢
          clear zc0 zc1 kT_0 kT_1
          clear hwD
          refine tkV 0 ?_
          try simp only [qq1, qq2, qq3, Act.put, qq4, qq5, qq6]
          refine tkV 1 ?_
          try simp only [qq1, qq2, qq3, Act.put, qq4, qq5, qq6]
          refine tkV 2 ?_
          try simp only [qq1, qq2, qq3, Act.put, qq4, qq5, qq6]
          refine tkV 3 ?_
          try simp only [qq1, qq2, qq3, Act.put, qq4, qq5, qq6]
          refine tkV 4 ?_
          try simp only [qq1, qq2, qq3, Act.put, qq4, qq5, qq6]
          refine tkV 5 ?_
          try simp only [qq1, qq2, qq3, Act.put, qq4, qq5, qq6]
          refine tkV 6 ?_
          try simp only [qq1, qq2, qq3, Act.put, qq4, qq5, qq6]
          refine tkV 7 ?_
          try simp only [qq1, qq2, qq3, Act.put, qq4, qq5, qq6]
          refine tkV 8 ?_
          try simp only [qq1, qq2, qq3, Act.put, qq4, qq5, qq6]
          refine tkV 9 ?_
          try simp only [qq1, qq2, qq3, Act.put, qq4, qq5, qq6]
          refine tkV 11 ?_
          try simp only [qq1, qq2, qq3, Act.put, qq4, qq5, qq6]
          refine tkV 12 ?_
          try simp only [qq1, qq2, qq3, Act.put, qq4, qq5, qq6]
          refine tkV 13 ?_
          try simp only [qq1, qq2, qq3, Act.put, qq4, qq5, qq6]
          refine tkV 14 ?_
          try simp only [qq1, qq2, qq3, Act.put, qq4, qq5, qq6]
          obtain ⟨i0, i1, i2, i3, i4, i5, i6, i7, i8⟩ := HNi2.out
          obtain ⟨k0, k1, k2, k3, k4, k5, k6, k7, k8⟩ := HNk2.out
          refine wpT_two (i1 := 10) (i2 := 15) (by kernel_rfl) rfl rfl (fun K hK => ?_) (fun K hK => ?_)
          · skip
            go_simp
            refine hK.out _ _ ?_ (fun hHeld => ?_)
            · exact hHeld
            clear hK K
            try simp only [qq1, qq2, qq3, Act.put, qq4, qq5, qq6]
            refine wpT_one (i := 15) (by kernel_rfl) rfl (fun K hK => ?_)
            go_simp
            refine hK.out _ _ ?_ (fun hHeld => ?_)
            · exact hHeld
            clear hK K
            try simp only [qq1, qq2, qq3, Act.put, qq4, qq5, qq6]
            refine tkV 16 ?_
            try simp only [qq1, qq2, qq3, Act.put, qq4, qq5, qq6]
            refine wpT_one (i := 17) (by kernel_rfl) rfl (fun K hK => ?_)
            rw [show (if Region.wanted _ _ = true then _ else _ : Prop) = _ from if_pos rfl]
            refine wp_store_mid 37 _ _ rfl gO (i * 9) #[.int .i64 ok.num, .string ok.rs, .int .i64 ok.E1, .int .i64 ok.E2, .slice ok.A ok.na ok.ca, .int .i64 ok.C, .slice ok.Z ok.nz ok.cz, .slice ok.L ok.np ok.cp, .int .i64 ok.key] rfl rfl (HTH2.out i hin) HINF.out HONok.out ?_
            refine hK.out _ _ ?_ (fun hHeld => ?_)
            · exact (World.cell?_setCells_out gO _ _ _ _ (fun e _ => absurd e HNE.out)).trans hHeld
            clear hK K
            try simp only [qq1, qq2, qq3, Act.put, qq4, qq5, qq6]
            obtain ⟨wE, hwE⟩ : ∃ x, wD.setCells gO (i * 9) (ordC ok) = x := ⟨_, rfl⟩
            rw [hwE] at hHeld ⊢
            have HWE := Lib.hid hwE
            clear hwE
            refine tkV 18 ?_
            try simp only [qq1, qq2, qq3, Act.put, qq4, qq5, qq6]
            have HTHk : Hid (wE.there gO (k * 9) 9) := Lib.hid (by rw [← HWE.out]; exact World.there_setCells (HTH2.out k hkn) _ _ _)
            refine wpT_pass (i := 19) (by kernel_rfl) (by simp) rfl (fun K hK => ?_)
            rw [show (if Region.wanted _ _ = true then _ else _ : Prop) = _ from if_pos rfl]
            refine wp_store_mid 37 _ _ rfl gO (k * 9) #[.int .i64 oi.num, .string oi.rs, .int .i64 oi.E1, .int .i64 oi.E2, .slice oi.A oi.na oi.ca, .int .i64 oi.C, .slice oi.Z oi.nz oi.cz, .slice oi.L oi.np oi.cp, .int .i64 oi.key] rfl rfl (HTHk.out) HINF.out HONoi.out ?_
            refine hK.out _ _ ?_
            clear hK K
            obtain ⟨wX, hwX⟩ : ∃ x, wE.setCells gO (k * 9) (ordC oi) = x := ⟨_, rfl⟩
            rw [hwX]
            have HWX := Lib.hid hwX
            clear hwX
            try simp only [qq1, qq2, qq3, Act.put, qq4, qq5, qq6]
            refine wpT_done (by kernel_rfl) ?_ _
            clear i0 i1 i2 i3 i4 i5 i6 i7 i8 k0 k1 k2 k3 k4 k5 k6 k7 k8 hHeld
            have HC1 : Hid (Cpd w4 wE w5.heap.size gO gK (os'.set i ok) hs n m) := Lib.hid (by rw [← HWE.out]; exact HCDD.out.putO hil (by rw [← HOK.out]; exact HCDD.out.el _ (orL_mem hkl)))
            have HCDX : Hid (Cpd w4 wX w5.heap.size gO gK ((os'.set i ok).set k oi) hs n m) := Lib.hid (by rw [← HWX.out]; exact HC1.out.putO (by rw [List.length_set]; exact hkl) (by rw [← HWE.out, ← HOI.out]; exact (HCDD.out.el _ (orL_mem hil)).agree (fun b h1 _ _ => heap_setCells_ne h1 _ _)))
            have HBX : Hid (Below w0.heap.size w0 wX) := Lib.hid (by
              have h1 : w0.heap.size ≤ gO := Nat.le_trans HB_4.out.size HCD6.out.lg.1
              rw [← HWX.out, ← HWE.out]; exact below_setCells h1 _ _ (below_setCells h1 _ _ HBD.out))
            have HPX : Hid (wX.cell? ⟨w5.heap.size, 0, none⟩ = some (.slice (some ⟨gO, 0, none⟩) n c') ∧ wX.cell? ⟨w5.heap.size, 1, none⟩ = some (.slice (some ⟨gK, 0, none⟩) m d')) := Lib.hid (by
              have ha : wX.heap[w5.heap.size]? = wD.heap[w5.heap.size]? := by rw [← HWX.out, ← HWE.out, heap_setCells_ne HNE.out, heap_setCells_ne HNE.out]
              exact ⟨(own_agree3 HPD.out.1 ha).1, (own_agree3 HPD.out.2 ha).1⟩)
            have HL2 : Hid (((os'.set i ok).set k oi).length = n) := Lib.hid (by rw [List.length_set, List.length_set]; exact HL'.out)
            have HI1 : Hid (∀ k, k < n → OrdI (orL os' k)) := Lib.hid (fun k hk => by
              obtain ⟨L, c, e⟩ := HREL.out k hk
              rw [e]; exact ordI_re (HI.out k hk))
            have HI2 : Hid (∀ j, j < n → OrdI (orL ((os'.set i ok).set k oi) j)) := Lib.hid (fun j hj => by
              rw [orL_set (by rw [List.length_set]; exact hkl)]; split
              · rw [← HOI.out]; exact HI1.out i hin
              · rw [orL_set hil]; split
                · rw [← HOK.out]; exact HI1.out k hkn
                · exact HI1.out j hj)
            have HT2 : Kp (trlB ((os'.set i ok).set k oi) hs = false) := ⟨num_bad (i := i) (by rw [HL2.out]; exact hin) (by
              rw [orL_set (by rw [List.length_set]; exact hkl), if_neg (fun e => HIE.out e.symm), orL_set hil, if_pos rfl, ← HOK.out]
              obtain ⟨L, c, e⟩ := HREL.out k hkn
              rw [e]
              show (orL os k).num ≠ _
              rw [num_at HT.1 (by rw [hn.out]; exact hkn)]
              have := HIE.out; omega)⟩
            obtain ⟨os2, hos2⟩ : ∃ x, (os'.set i ok).set k oi = x := ⟨_, rfl⟩
            rw [hos2] at HCDX HT2 HL2 HI2
            clear hos2
            have HB_wX_20 : Hid (Below wX.heap.size wX wX) := Lib.hid (Below.refl _ _)
            have kO2 := Lib.hid (show ∀ u : World, Hid (Below wX.heap.size wX u) → Hid (Os u (some ⟨gO, 0, none⟩) os2) from fun u h => Lib.hid (HCDX.out.osr.below h.out))
            have kK2 := Lib.hid (show ∀ u : World, Hid (Below wX.heap.size wX u) → Hid (Hs u (some ⟨gK, 0, none⟩) hs) from fun u h => Lib.hid ((HCDX.out.hsr HLN.out).below h.out))
            have kT2 := Lib.hid (show ∀ u : World, Hid (Below wX.heap.size wX u) → u.cell? ⟨w5.heap.size, 0, none⟩ = some (.slice (some ⟨gO, 0, none⟩) n c') ∧ u.cell? ⟨w5.heap.size, 1, none⟩ = some (.slice (some ⟨gK, 0, none⟩) m d') from fun u h => ⟨cell_below HPX.out.1 h.out, cell_below HPX.out.2 h.out⟩)
            obtain ⟨zc0, zc1⟩ := kC.out _ HBX
            obtain ⟨kT2_0, kT2_1⟩ := kT2.out _ HB_wX_20
            go_wp2_with fail
            refine (tval_any (some ⟨gO, 0, none⟩) os2 n c' (some ⟨gK, 0, none⟩) hs m d' HL2 hm HI2.out hb1 hb2 false HT2 _ (kD.out _ HBX) (kO2.out _ HB_wX_20) (kK2.out _ HB_wX_20)).mono ?_
            rintro e w21 ⟨rfl, hb0⟩
            have HB_21 := Lib.hid (below_ext HBX.out hb0)
            have HB_wX_21 := Lib.hid (below_ext HB_wX_20.out hb0)
            clear zc0 zc1 kT2_0 kT2_1
            clear hb0
            obtain ⟨zc0, zc1⟩ := kC.out _ HB_21
            obtain ⟨kT2_0, kT2_1⟩ := kT2.out _ HB_wX_21
            have hbF := below_ext HBw.out HB_21.out
            go_wp2
            go_ret
            exact ⟨rfl, hbF⟩
          · skip
            go_simp
            refine hK.out _ _ ?_ (fun hHeld => ?_)
            · exact hHeld
            clear hK K
            try simp only [qq1, qq2, qq3, Act.put, qq4, qq5, qq6]
            refine wpT_one (i := 10) (by kernel_rfl) rfl (fun K hK => ?_)
            go_simp
            refine hK.out _ _ ?_ (fun hHeld => ?_)
            · exact hHeld
            clear hK K
            try simp only [qq1, qq2, qq3, Act.put, qq4, qq5, qq6]
            refine tkV 16 ?_
            try simp only [qq1, qq2, qq3, Act.put, qq4, qq5, qq6]
            refine wpT_one (i := 17) (by kernel_rfl) rfl (fun K hK => ?_)
            rw [show (if Region.wanted _ _ = true then _ else _ : Prop) = _ from if_pos rfl]
            refine wp_store_mid 37 _ _ rfl gO (i * 9) #[.int .i64 ok.num, .string ok.rs, .int .i64 ok.E1, .int .i64 ok.E2, .slice ok.A ok.na ok.ca, .int .i64 ok.C, .slice ok.Z ok.nz ok.cz, .slice ok.L ok.np ok.cp, .int .i64 ok.key] rfl rfl (HTH2.out i hin) HINF.out HONok.out ?_
            refine hK.out _ _ ?_ (fun hHeld => ?_)
            · exact (World.cell?_setCells_out gO _ _ _ _ (fun e _ => absurd e HNE.out)).trans hHeld
            clear hK K
            try simp only [qq1, qq2, qq3, Act.put, qq4, qq5, qq6]
            obtain ⟨wE, hwE⟩ : ∃ x, wD.setCells gO (i * 9) (ordC ok) = x := ⟨_, rfl⟩
            rw [hwE] at hHeld ⊢
            have HWE := Lib.hid hwE
            clear hwE
            refine tkV 18 ?_
            try simp only [qq1, qq2, qq3, Act.put, qq4, qq5, qq6]
            have HTHk : Hid (wE.there gO (k * 9) 9) := Lib.hid (by rw [← HWE.out]; exact World.there_setCells (HTH2.out k hkn) _ _ _)
            refine wpT_pass (i := 19) (by kernel_rfl) (by simp) rfl (fun K hK => ?_)
            rw [show (if Region.wanted _ _ = true then _ else _ : Prop) = _ from if_pos rfl]
            refine wp_store_mid 37 _ _ rfl gO (k * 9) #[.int .i64 oi.num, .string oi.rs, .int .i64 oi.E1, .int .i64 oi.E2, .slice oi.A oi.na oi.ca, .int .i64 oi.C, .slice oi.Z oi.nz oi.cz, .slice oi.L oi.np oi.cp, .int .i64 oi.key] rfl rfl (HTHk.out) HINF.out HONoi.out ?_
            refine hK.out _ _ ?_
            clear hK K
            obtain ⟨wX, hwX⟩ : ∃ x, wE.setCells gO (k * 9) (ordC oi) = x := ⟨_, rfl⟩
            rw [hwX]
            have HWX := Lib.hid hwX
            clear hwX
            try simp only [qq1, qq2, qq3, Act.put, qq4, qq5, qq6]
            refine wpT_done (by kernel_rfl) ?_ _
            clear i0 i1 i2 i3 i4 i5 i6 i7 i8 k0 k1 k2 k3 k4 k5 k6 k7 k8 hHeld
            have HC1 : Hid (Cpd w4 wE w5.heap.size gO gK (os'.set i ok) hs n m) := Lib.hid (by rw [← HWE.out]; exact HCDD.out.putO hil (by rw [← HOK.out]; exact HCDD.out.el _ (orL_mem hkl)))
            have HCDX : Hid (Cpd w4 wX w5.heap.size gO gK ((os'.set i ok).set k oi) hs n m) := Lib.hid (by rw [← HWX.out]; exact HC1.out.putO (by rw [List.length_set]; exact hkl) (by rw [← HWE.out, ← HOI.out]; exact (HCDD.out.el _ (orL_mem hil)).agree (fun b h1 _ _ => heap_setCells_ne h1 _ _)))
            have HBX : Hid (Below w0.heap.size w0 wX) := Lib.hid (by
              have h1 : w0.heap.size ≤ gO := Nat.le_trans HB_4.out.size HCD6.out.lg.1
              rw [← HWX.out, ← HWE.out]; exact below_setCells h1 _ _ (below_setCells h1 _ _ HBD.out))
            have HPX : Hid (wX.cell? ⟨w5.heap.size, 0, none⟩ = some (.slice (some ⟨gO, 0, none⟩) n c') ∧ wX.cell? ⟨w5.heap.size, 1, none⟩ = some (.slice (some ⟨gK, 0, none⟩) m d')) := Lib.hid (by
              have ha : wX.heap[w5.heap.size]? = wD.heap[w5.heap.size]? := by rw [← HWX.out, ← HWE.out, heap_setCells_ne HNE.out, heap_setCells_ne HNE.out]
              exact ⟨(own_agree3 HPD.out.1 ha).1, (own_agree3 HPD.out.2 ha).1⟩)
            have HL2 : Hid (((os'.set i ok).set k oi).length = n) := Lib.hid (by rw [List.length_set, List.length_set]; exact HL'.out)
            have HI1 : Hid (∀ k, k < n → OrdI (orL os' k)) := Lib.hid (fun k hk => by
              obtain ⟨L, c, e⟩ := HREL.out k hk
              rw [e]; exact ordI_re (HI.out k hk))
            have HI2 : Hid (∀ j, j < n → OrdI (orL ((os'.set i ok).set k oi) j)) := Lib.hid (fun j hj => by
              rw [orL_set (by rw [List.length_set]; exact hkl)]; split
              · rw [← HOI.out]; exact HI1.out i hin
              · rw [orL_set hil]; split
                · rw [← HOK.out]; exact HI1.out k hkn
                · exact HI1.out j hj)
            have HT2 : Kp (trlB ((os'.set i ok).set k oi) hs = false) := ⟨num_bad (i := i) (by rw [HL2.out]; exact hin) (by
              rw [orL_set (by rw [List.length_set]; exact hkl), if_neg (fun e => HIE.out e.symm), orL_set hil, if_pos rfl, ← HOK.out]
              obtain ⟨L, c, e⟩ := HREL.out k hkn
              rw [e]
              show (orL os k).num ≠ _
              rw [num_at HT.1 (by rw [hn.out]; exact hkn)]
              have := HIE.out; omega)⟩
            obtain ⟨os2, hos2⟩ : ∃ x, (os'.set i ok).set k oi = x := ⟨_, rfl⟩
            rw [hos2] at HCDX HT2 HL2 HI2
            clear hos2
            have HB_wX_20 : Hid (Below wX.heap.size wX wX) := Lib.hid (Below.refl _ _)
            have kO2 := Lib.hid (show ∀ u : World, Hid (Below wX.heap.size wX u) → Hid (Os u (some ⟨gO, 0, none⟩) os2) from fun u h => Lib.hid (HCDX.out.osr.below h.out))
            have kK2 := Lib.hid (show ∀ u : World, Hid (Below wX.heap.size wX u) → Hid (Hs u (some ⟨gK, 0, none⟩) hs) from fun u h => Lib.hid ((HCDX.out.hsr HLN.out).below h.out))
            have kT2 := Lib.hid (show ∀ u : World, Hid (Below wX.heap.size wX u) → u.cell? ⟨w5.heap.size, 0, none⟩ = some (.slice (some ⟨gO, 0, none⟩) n c') ∧ u.cell? ⟨w5.heap.size, 1, none⟩ = some (.slice (some ⟨gK, 0, none⟩) m d') from fun u h => ⟨cell_below HPX.out.1 h.out, cell_below HPX.out.2 h.out⟩)
            obtain ⟨zc0, zc1⟩ := kC.out _ HBX
            obtain ⟨kT2_0, kT2_1⟩ := kT2.out _ HB_wX_20
            go_wp2_with fail
            refine (tval_any (some ⟨gO, 0, none⟩) os2 n c' (some ⟨gK, 0, none⟩) hs m d' HL2 hm HI2.out hb1 hb2 false HT2 _ (kD.out _ HBX) (kO2.out _ HB_wX_20) (kK2.out _ HB_wX_20)).mono ?_
            rintro e w21 ⟨rfl, hb0⟩
            have HB_21 := Lib.hid (below_ext HBX.out hb0)
            have HB_wX_21 := Lib.hid (below_ext HB_wX_20.out hb0)
            clear zc0 zc1 kT2_0 kT2_1
            clear hb0
            obtain ⟨zc0, zc1⟩ := kC.out _ HB_21
            obtain ⟨kT2_0, kT2_1⟩ := kT2.out _ HB_wX_21
            have hbF := below_ext HBw.out HB_21.out
            go_wp2
            go_ret
            exact ⟨rfl, hbF⟩
set_option maxHeartbeats 6400000 in
theorem tk_5 (O : Option Addr) (os : List OrdR) (n c : Nat) (K : Option Addr) (hs : List (List Int)) (m d : Nat) (hn : Hid (os.length = n)) (hm : Hid (hs.length = m)) (hI : ∀ k, k < n → OrdI (orL os k)) (wh kd : Int) (hw0 : 0 ≤ wh) (hw1 : wh < 256) (hk0 : 0 ≤ kd) (hk1 : kd < 256) (hq : kd % 6 = 5) (w : World) (hv : Hid (VarsD w)) (hO : Hid (Os w O os)) (hK : Hid (Hs w K hs)) :
    Calls Tryd.prog 3 #[tlV O n c K m d, .int .u8 wh, .int .u8 kd] w fun e' w' => e' = .returned (.bool true) ∧ Below w.heap.size w w' := by
  obtain ⟨w0, HW, HBw, kC⟩ := stTl O n c K m d w
  have kD := Lib.hid (show ∀ u : World, Hid (Below w0.heap.size w0 u) → Hid (VarsD u) from fun u h => Lib.hid ((hv.out.below) (below_ext HBw.out h.out)))
  have kO := Lib.hid (show ∀ u : World, Hid (Below w0.heap.size w0 u) → Hid (Os u O os) from fun u h => Lib.hid ((hO.out.below) (below_ext HBw.out h.out)))
  have kK := Lib.hid (show ∀ u : World, Hid (Below w0.heap.size w0 u) → Hid (Hs u K hs) from fun u h => Lib.hid ((hK.out.below) (below_ext HBw.out h.out)))
  have HB_0 : Hid (Below w0.heap.size w0 w0) := Lib.hid (Below.refl _ _)
  clear hO hK hv
  have HI := Lib.hid hI
  clear hI
  go_enter Tryd.func3, Tryd.ntmps3
  go_wp2_with fail
  rw [HW.out]
  obtain ⟨zc0, zc1⟩ := kC.out _ HB_0
  go_wp2_with fail
  refine (awake51 _ (kD.out _ HB_0)).mono ?_
  rintro e w1 ⟨rfl, hb0⟩
  have HB_1 := Lib.hid (below_ext HB_0.out hb0)
  clear zc0 zc1
  clear hb0
  obtain ⟨zc0, zc1⟩ := kC.out _ HB_1
  go_wp2_with fail
  refine (few51_any O os n c K m d hn _ (kO.out _ HB_1)).mono ?_
  rintro e w2 ⟨bf, rfl, hbf, hb0⟩
  have HB_2 := Lib.hid (below_ext HB_1.out hb0)
  clear zc0 zc1
  clear hb0
  obtain ⟨zc0, zc1⟩ := kC.out _ HB_2
  have HBF := Lib.hid hbf
  clear hbf
  cases bf with
  | false =>
    go_wp2_with fail
    refine (awake51 _ (kD.out _ HB_2)).mono ?_
    rintro e w3 ⟨rfl, hb0⟩
    have HB_3 := Lib.hid (below_ext HB_2.out hb0)
    clear zc0 zc1
    clear hb0
    obtain ⟨zc0, zc1⟩ := kC.out _ HB_3
    have hbF := below_ext HBw.out HB_3.out
    go_wp2
    go_ret
    exact ⟨rfl, hbF⟩
  | true =>
    have hbb := HBF.out rfl
    have hb1 : n ≤ 1000000 := by omega
    have hb2 : m ≤ 1000000 := by omega
    clear hbb HBF
    have d0 : ((m : Int) == 0) = decide (m = 0) := by rw [Bool.eq_iff_iff]; simp
    by_cases hm0 : m = 0
    · have d1 : decide (m = 0) = true := by simp [hm0]
      rw [d1] at d0
      go_wp2_with fail
      refine (awake51 _ (kD.out _ HB_2)).mono ?_
      rintro e w3 ⟨rfl, hb0⟩
      have HB_3 := Lib.hid (below_ext HB_2.out hb0)
      clear zc0 zc1
      clear hb0
      obtain ⟨zc0, zc1⟩ := kC.out _ HB_3
      have hbF := below_ext HBw.out HB_3.out
      go_wp2
      go_ret
      exact ⟨rfl, hbF⟩
    · have d1 : decide (m = 0) = false := by simp [hm0]
      rw [d1] at d0
      cases htr : trlB os hs with
      | false =>
        have HT : Kp (trlB os hs = false) := ⟨htr⟩
        clear htr
        go_wp2_with fail
        refine (tval_any O os n c K hs m d hn hm HI.out hb1 hb2 false HT _ (kD.out _ HB_2) (kO.out _ HB_2) (kK.out _ HB_2)).mono ?_
        rintro e w3 ⟨rfl, hb0⟩
        have HB_3 := Lib.hid (below_ext HB_2.out hb0)
        clear zc0 zc1
        clear hb0
        obtain ⟨zc0, zc1⟩ := kC.out _ HB_3
        go_wp2_with fail
        refine (awake51 _ (kD.out _ HB_3)).mono ?_
        rintro e w4 ⟨rfl, hb0⟩
        have HB_4 := Lib.hid (below_ext HB_3.out hb0)
        clear zc0 zc1
        clear hb0
        obtain ⟨zc0, zc1⟩ := kC.out _ HB_4
        have hbF := below_ext HBw.out HB_4.out
        go_wp2
        go_ret
        exact ⟨rfl, hbF⟩
      | true =>
        have HT : Kp (trlB os hs = true) := ⟨htr⟩
        clear htr
        go_wp2_with fail
        refine (tval_any O os n c K hs m d hn hm HI.out hb1 hb2 true HT _ (kD.out _ HB_2) (kO.out _ HB_2) (kK.out _ HB_2)).mono ?_
        rintro e w3 ⟨rfl, hb0⟩
        have HB_3 := Lib.hid (below_ext HB_2.out hb0)
        clear zc0 zc1
        clear hb0
        obtain ⟨zc0, zc1⟩ := kC.out _ HB_3
        go_wp2_with fail
        refine (rtval_any O os n c K hs m d hn hm HI.out hb1 hb2 true HT _ (kD.out _ HB_3) (kO.out _ HB_3) (kK.out _ HB_3)).mono ?_
        rintro e w4 ⟨rfl, hb0⟩
        have HB_4 := Lib.hid (below_ext HB_3.out hb0)
        clear zc0 zc1
        clear hb0
        obtain ⟨zc0, zc1⟩ := kC.out _ HB_4
        obtain ⟨i, hrem, him⟩ : ∃ i : Nat, wh % (m : Int) = (i : Int) ∧ i < m := ⟨(wh % (m : Int)).toNat, by rw [Int.toNat_of_nonneg (Int.emod_nonneg _ (by omega))], by have := Int.emod_lt_of_pos wh (show (0 : Int) < m by omega); have := Int.emod_nonneg wh (show (m : Int) ≠ 0 by omega); omega⟩
        have HCK := Lib.hid (closed_key HT.1 (i := i) (by rw [hm.out]; exact him))
        have hin : i < n := by rw [← hn.out]; exact HCK.out.1
        have HLN : Hid (∀ x ∈ hs, x.length = 32) := Lib.hid (hs_lens ((kK.out _ HB_4)).out)
        have HNP : ∀ k, k < n → (orL os k).np ≤ 1000000 := fun k hk => by
          have h1 := (trR_parts (trS_get (trl_parts HT.1).1 k (by rw [hn.out]; exact hk))).1
          simp only [ordB, Bool.and_eq_true, decide_eq_true_eq] at h1
          have := h1.2.2.2.2.1; omega
        have HOB := Lib.hid ((kO.out _ HB_4)).out
        have HB_w4_4 : Hid (Below w4.heap.size w4 w4) := Lib.hid (Below.refl _ _)
        go_wp2_with fail
        refine (copy_any O os n c K hs m d hn hm hb1 hb2 HNP _ (kO.out _ HB_4) (kK.out _ HB_4)).mono ?_
        rintro e w5 ⟨O', c', K', d', os', rfl, hl', hc', hd', hcp, hoO, hoK, hne1, hne2, hdis, hb0⟩
        have HBL := hb0
        have HB_5 := Lib.hid (below_ext HB_4.out hb0)
        have HB_w4_5 := Lib.hid (below_ext HB_w4_4.out hb0)
        clear zc0 zc1
        clear hb0
        obtain ⟨gO, gK, rfl, rfl, ⟨cc1, cc2⟩, ⟨cd1, cd2⟩, hcd⟩ := cpy_cpd hn.out hl' hm.out (by omega) (by omega) HLN.out HOB.out hcp hoO hoK hne1 hne2 HBL
        have HREL : Hid (∀ k, k < n → ∃ L cx, orL os' k = reL (orL os k) L cx) := Lib.hid fun k hk => by
          obtain ⟨L, cx, e, _⟩ := hcp k hk
          exact ⟨L, cx, e⟩
        have HDIS := Lib.hid hdis
        have HL' := Lib.hid hl'
        have HCD := Lib.hid hcd
        clear hl' hc' hd' hcp hoO hoK hne1 hne2 hdis hcd HNP HBL
        rw [hrem]
        clear hrem
        have HB_w5_5 : Hid (Below w5.heap.size w5 w5) := Lib.hid (Below.refl _ _)
        obtain ⟨zc0, zc1⟩ := kC.out _ HB_5
        have hq := below_box0 w5 (tlO (some ⟨gO, 0, none⟩) n c' (some ⟨gK, 0, none⟩) m d')
        have HB_6 := Lib.hid (below_ext HB_5.out hq)
        have HB_w4_6 := Lib.hid (below_ext HB_w4_5.out hq)
        have HB_w5_6 := Lib.hid (below_ext HB_w5_5.out hq)
        have hc : (w5.alloc (tlO (some ⟨gO, 0, none⟩) n c' (some ⟨gK, 0, none⟩) m d')).cell? ⟨w5.heap.size, 0, none⟩ = some (.slice (some ⟨gO, 0, none⟩) n c') ∧ (w5.alloc (tlO (some ⟨gO, 0, none⟩) n c' (some ⟨gK, 0, none⟩) m d')).cell? ⟨w5.heap.size, 1, none⟩ = some (.slice (some ⟨gK, 0, none⟩) m d') := ⟨allocs_cell rfl (by rfl), allocs_cell rfl (by rfl)⟩
        have HC6 := Lib.hid hc
        have HK6 := Lib.hid (heap_alloc_new w5 (tlO (some ⟨gO, 0, none⟩) n c' (some ⟨gK, 0, none⟩) m d'))
        clear zc0 zc1
        clear hq
        obtain ⟨zc0, zc1⟩ := kC.out _ HB_6
        obtain ⟨zq0, zq1⟩ := hc
        go_upto_region 23 with (fail)
        obtain ⟨w6, hw⟩ : ∃ x, (w5.alloc (tlO (some ⟨gO, 0, none⟩) n c' (some ⟨gK, 0, none⟩) m d')) = x := ⟨_, rfl⟩
        rw [hw] at HC6 HK6 HB_6 HB_w4_6 HB_w5_6 ⊢
        have HSN6 : Hid (w6.heap.size = w5.heap.size + 1) := Lib.hid (by rw [← hw]; simp)
        clear zc0 zc1 zq0 zq1
        clear hw
        have HB_w6_6 : Hid (Below w6.heap.size w6 w6) := Lib.hid (Below.refl _ _)
        have kT := Lib.hid (show ∀ u : World, Hid (Below w6.heap.size w6 u) → u.cell? ⟨w5.heap.size, 0, none⟩ = some (.slice (some ⟨gO, 0, none⟩) n c') ∧ u.cell? ⟨w5.heap.size, 1, none⟩ = some (.slice (some ⟨gK, 0, none⟩) m d') from fun u h => ⟨cell_below HC6.out.1 h.out, cell_below HC6.out.2 h.out⟩)
        obtain ⟨zc0, zc1⟩ := kC.out _ HB_6
        obtain ⟨kT_0, kT_1⟩ := kT.out _ HB_w6_6
        have HCD6 : Hid (Cpd w4 w6 w5.heap.size gO gK os' hs n m) := Lib.hid (HCD.out.keep (fun b hb => (HB_w5_6).out.block b hb) (HB_w4_6).out)
        have hil : i < os'.length := by rw [HL'.out]; exact hin
        obtain ⟨n1, hn1⟩ : ∃ n1, n = n1 + 1 := ⟨n - 1, by omega⟩
        have HN1 := Lib.hid hn1
        have d5 : ((i : Int) == (n : Int) - 1) = decide (i = n1) := by rw [Bool.eq_iff_iff, beq_iff_eq, decide_eq_true_eq]; omega
        clear hn1
        by_cases hie : i = n1
        · have d6 : decide (i = n1) = true := by simp [hie]
          rw [d6] at d5
          clear hie d6
          have hbF := below_ext HBw.out HB_6.out
          go_wp2
          go_ret
          exact ⟨rfl, hbF⟩
        · have d6 : decide (i = n1) = false := by simp [hie]
          rw [d6] at d5
          have HIE := Lib.hid hie
          clear hie d6
          have HR6 := Lib.hid HCD6.out.ro
          have HNE : Hid (w5.heap.size ≠ gO ∧ w5.heap.size ≠ gK) := Lib.hid ⟨Nat.ne_of_gt HCD6.out.lg.2, Nat.ne_of_gt HCD6.out.lk.2⟩
          have HP6 : Hid (Own w6 ⟨w5.heap.size, 0, none⟩ (.slice (some ⟨gO, 0, none⟩) n c') ∧ Own w6 ⟨w5.heap.size, 1, none⟩ (.slice (some ⟨gK, 0, none⟩) m d')) := Lib.hid ⟨⟨HC6.out.1, frozen_blk HK6.out 0⟩, ⟨HC6.out.2, frozen_blk HK6.out 1⟩⟩
          go_upto_region 25 with (fail)
          go_wp2_with fail
          refine (del_ord gO c' i n os' HL' hin cc1 cc2 hb1 (Lib.hid (fun _ _ => rfl)) _ HR6).mono ?_
          rintro e w7 ⟨rfl, hr7, hd7⟩
          rw [show n - 1 = n1 by have := HN1.out; omega]
          have HD7 := Lib.hid hd7
          have HRR7 := Lib.hid hr7
          clear hd7 hr7
          clear zc0 zc1 kT_0 kT_1
          obtain ⟨⟨p0c, p0f⟩, ⟨p1c, p1f⟩⟩ : Own w7 ⟨w5.heap.size, 0, none⟩ (.slice (some ⟨gO, 0, none⟩) n c') ∧ Own w7 ⟨w5.heap.size, 1, none⟩ (.slice (some ⟨gK, 0, none⟩) m d') := ⟨own_agree3 HP6.out.1 (HD7.out.1 _ HNE.out.1), own_agree3 HP6.out.2 (HD7.out.1 _ HNE.out.1)⟩
          go_upto_region 26 with (fail)
          have HCD7 : Hid (Cpd w4 w7 w5.heap.size gO gK (os'.eraseIdx i) hs n m) := Lib.hid (HCD6.out.delO HRR7.out HD7.out)
          have HB7 : Hid (Below w0.heap.size w0 w7) := Lib.hid (HD7.out.2.2 _ _ (by have h1 := HCD6.out.lg.1; have h2 := HB_4.out.size; exact Nat.le_trans h2 h1) HB_6.out)
          have HCD8 : Hid (Cpd w4 (w7.setCell ⟨w5.heap.size, 0, none⟩ (.slice (some ⟨gO, 0, none⟩) n1 c')) w5.heap.size gO gK (os'.eraseIdx i) hs n m) := Lib.hid (HCD7.out.keep (fun b hb => Go.Deep.blk_setCell_other _ _ _ _ (Nat.ne_of_lt hb)) (HCD7.out.bel.setCell (p := ⟨w5.heap.size, 0, none⟩) (Nat.le_of_lt (Nat.lt_of_le_of_lt HCD6.out.lg.1 HCD6.out.lg.2)) _))
          have HB8 : Hid (Below w0.heap.size w0 (w7.setCell ⟨w5.heap.size, 0, none⟩ (.slice (some ⟨gO, 0, none⟩) n1 c'))) := Lib.hid (HB7.out.setCell (p := ⟨w5.heap.size, 0, none⟩) (by have h1 := HCD6.out.lg.1; have h2 := HB_4.out.size; have h3 := HCD6.out.lg.2; exact Nat.le_trans h2 (Nat.le_of_lt (Nat.lt_of_le_of_lt h1 h3))) _)
          have HP8 : Hid (Own (w7.setCell ⟨w5.heap.size, 0, none⟩ (.slice (some ⟨gO, 0, none⟩) n1 c')) ⟨w5.heap.size, 0, none⟩ (.slice (some ⟨gO, 0, none⟩) n1 c') ∧ Own (w7.setCell ⟨w5.heap.size, 0, none⟩ (.slice (some ⟨gO, 0, none⟩) n1 c')) ⟨w5.heap.size, 1, none⟩ (.slice (some ⟨gK, 0, none⟩) m d')) := Lib.hid ⟨own_set_eq2 ⟨p0c, p0f⟩, own_set_ne2 ⟨p1c, p1f⟩ (by simp)⟩
          obtain ⟨w8, hw8⟩ : ∃ x, (w7.setCell ⟨w5.heap.size, 0, none⟩ (.slice (some ⟨gO, 0, none⟩) n1 c')) = x := ⟨_, rfl⟩
          rw [hw8] at HCD8 HB8 HP8 ⊢
          clear hw8 p0c p0f p1c p1f HRR7 HD7
          obtain ⟨⟨p0c, p0f⟩, ⟨p1c, p1f⟩⟩ := HP8.out
          have hz3 := kC.out _ HB8
          obtain ⟨zc0, zc1⟩ := hz3
          have HR8 := Lib.hid HCD8.out.rk
          go_wp2_with fail
          refine (del_hsh gK d' i m hs hm him cd1 cd2 hb2 (Lib.hid (fun x hx => by rw [hshC, List.length_map]; exact HLN.out x hx)) _ HR8).mono ?_
          rintro e w9 ⟨rfl, hr9, hd9⟩
          have HD9 := Lib.hid hd9
          have HRR9 := Lib.hid hr9
          clear hd9 hr9 p0c p0f p1c p1f zc0 zc1
          obtain ⟨⟨p0c, p0f⟩, ⟨p1c, p1f⟩⟩ : Own w9 ⟨w5.heap.size, 0, none⟩ (.slice (some ⟨gO, 0, none⟩) n1 c') ∧ Own w9 ⟨w5.heap.size, 1, none⟩ (.slice (some ⟨gK, 0, none⟩) m d') := ⟨own_agree3 HP8.out.1 (HD9.out.1 _ HNE.out.2), own_agree3 HP8.out.2 (HD9.out.1 _ HNE.out.2)⟩
          go_upto_region 27 with (fail)
          have HCD9 : Hid (Cpd w4 w9 w5.heap.size gO gK (os'.eraseIdx i) (hs.eraseIdx i) n m) := Lib.hid (HCD8.out.delK HRR9.out HD9.out)
          have HB9 : Hid (Below w0.heap.size w0 w9) := Lib.hid (HD9.out.2.2 _ _ (by have h1 := HCD6.out.lk.1; have h2 := HB_4.out.size; exact Nat.le_trans h2 h1) HB8.out)
          have HCDX : Hid (Cpd w4 (w9.setCell ⟨w5.heap.size, 1, none⟩ (.slice (some ⟨gK, 0, none⟩) (m - 1) d')) w5.heap.size gO gK (os'.eraseIdx i) (hs.eraseIdx i) n m) := Lib.hid (HCD9.out.keep (fun b hb => Go.Deep.blk_setCell_other _ _ _ _ (Nat.ne_of_lt hb)) (HCD9.out.bel.setCell (p := ⟨w5.heap.size, 1, none⟩) (Nat.le_of_lt (Nat.lt_of_le_of_lt HCD6.out.lg.1 HCD6.out.lg.2)) _))
          have HBX : Hid (Below w0.heap.size w0 (w9.setCell ⟨w5.heap.size, 1, none⟩ (.slice (some ⟨gK, 0, none⟩) (m - 1) d'))) := Lib.hid (HB9.out.setCell (p := ⟨w5.heap.size, 1, none⟩) (by have h1 := HCD6.out.lg.1; have h2 := HB_4.out.size; have h3 := HCD6.out.lg.2; exact Nat.le_trans h2 (Nat.le_of_lt (Nat.lt_of_le_of_lt h1 h3))) _)
          have HPX : Hid ((w9.setCell ⟨w5.heap.size, 1, none⟩ (.slice (some ⟨gK, 0, none⟩) (m - 1) d')).cell? ⟨w5.heap.size, 0, none⟩ = some ((.slice (some ⟨gO, 0, none⟩) n1 c')) ∧ (w9.setCell ⟨w5.heap.size, 1, none⟩ (.slice (some ⟨gK, 0, none⟩) (m - 1) d')).cell? ⟨w5.heap.size, 1, none⟩ = some ((.slice (some ⟨gK, 0, none⟩) (m - 1) d'))) := Lib.hid ⟨(own_set_ne2 ⟨p0c, p0f⟩ (by simp)).1, (own_set_eq2 ⟨p1c, p1f⟩).1⟩
          obtain ⟨wX, hwX⟩ : ∃ x, (w9.setCell ⟨w5.heap.size, 1, none⟩ (.slice (some ⟨gK, 0, none⟩) (m - 1) d')) = x := ⟨_, rfl⟩
          rw [hwX] at HCDX HBX HPX ⊢
          clear hwX p0c p0f p1c p1f
          have HL2 : Hid ((os'.eraseIdx i).length = n1) := Lib.hid (by rw [List.length_eraseIdx, if_pos hil, HL'.out]; have := HN1.out; omega)
          have HM2 : Hid ((hs.eraseIdx i).length = m - 1) := Lib.hid (by rw [List.length_eraseIdx, if_pos (by rw [hm.out]; exact him), hm.out])
          have HLN2 : Hid (∀ x ∈ hs.eraseIdx i, x.length = 32) := Lib.hid (fun x hx => HLN.out x (List.mem_of_mem_eraseIdx hx))
          have HI1 : Hid (∀ k, k < n → OrdI (orL os' k)) := Lib.hid (fun k hk => by
            obtain ⟨L, c, e⟩ := HREL.out k hk
            rw [e]; exact ordI_re (HI.out k hk))
          have HI2 : Hid (∀ k, k < n1 → OrdI (orL (os'.eraseIdx i) k)) := Lib.hid (fun k hk => by
            have := HN1.out
            rw [orL_erase]; split
            · exact HI1.out k (by omega)
            · exact HI1.out (k + 1) (by omega))
          have HT2 : Kp (trlB (os'.eraseIdx i) (hs.eraseIdx i) = false) := ⟨num_bad (i := i) (by rw [HL2.out]; have := HN1.out; have := HIE.out; omega) (by
            rw [orL_erase, if_neg (Nat.lt_irrefl _)]
            obtain ⟨L, c, e⟩ := HREL.out (i + 1) (by have := HN1.out; have := HIE.out; omega)
            rw [e]
            show (orL os (i + 1)).num ≠ _
            rw [num_at HT.1 (by rw [hn.out]; have := HN1.out; have := HIE.out; omega)]
            omega)⟩
          obtain ⟨os2, hos2⟩ : ∃ x, os'.eraseIdx i = x := ⟨_, rfl⟩
          obtain ⟨hs2, hhs2⟩ : ∃ x, hs.eraseIdx i = x := ⟨_, rfl⟩
          rw [hos2, hhs2] at HCDX HT2
          rw [hos2] at HL2 HI2
          rw [hhs2] at HM2 HLN2
          have hbn1 : n1 ≤ 1000000 := by have := HN1.out; omega
          have hbm1 : m - 1 ≤ 1000000 := by omega
          clear hos2 hhs2
          have HB_wX_20 : Hid (Below wX.heap.size wX wX) := Lib.hid (Below.refl _ _)
          have kO2 := Lib.hid (show ∀ u : World, Hid (Below wX.heap.size wX u) → Hid (Os u (some ⟨gO, 0, none⟩) os2) from fun u h => Lib.hid (HCDX.out.osr.below h.out))
          have kK2 := Lib.hid (show ∀ u : World, Hid (Below wX.heap.size wX u) → Hid (Hs u (some ⟨gK, 0, none⟩) hs2) from fun u h => Lib.hid ((HCDX.out.hsr HLN2.out).below h.out))
          have kT2 := Lib.hid (show ∀ u : World, Hid (Below wX.heap.size wX u) → u.cell? ⟨w5.heap.size, 0, none⟩ = some ((.slice (some ⟨gO, 0, none⟩) n1 c')) ∧ u.cell? ⟨w5.heap.size, 1, none⟩ = some ((.slice (some ⟨gK, 0, none⟩) (m - 1) d')) from fun u h => ⟨cell_below HPX.out.1 h.out, cell_below HPX.out.2 h.out⟩)
          obtain ⟨zc0, zc1⟩ := kC.out _ HBX
          obtain ⟨kT2_0, kT2_1⟩ := kT2.out _ HB_wX_20
          go_wp2_with fail
          refine (tval_any (some ⟨gO, 0, none⟩) os2 n1 c' (some ⟨gK, 0, none⟩) hs2 (m - 1) d' HL2 HM2 HI2.out hbn1 hbm1 false HT2 _ (kD.out _ HBX) (kO2.out _ HB_wX_20) (kK2.out _ HB_wX_20)).mono ?_
          rintro e w21 ⟨rfl, hb0⟩
          have HB_21 := Lib.hid (below_ext HBX.out hb0)
          have HB_wX_21 := Lib.hid (below_ext HB_wX_20.out hb0)
          clear zc0 zc1 kT2_0 kT2_1
          clear hb0
          obtain ⟨zc0, zc1⟩ := kC.out _ HB_21
          obtain ⟨kT2_0, kT2_1⟩ := kT2.out _ HB_wX_21
          have hbF := below_ext HBw.out HB_21.out
          go_wp2
          go_ret
          exact ⟨rfl, hbF⟩
theorem tk_true (O : Option Addr) (os : List OrdR) (n c : Nat) (K : Option Addr) (hs : List (List Int)) (m d : Nat) (hn : Hid (os.length = n)) (hm : Hid (hs.length = m)) (hI : ∀ k, k < n → OrdI (orL os k)) (wh kd : Int) (hw0 : 0 ≤ wh) (hw1 : wh < 256) (hk0 : 0 ≤ kd) (hk1 : kd < 256) (w : World) (hv : Hid (VarsD w)) (hO : Hid (Os w O os)) (hK : Hid (Hs w K hs)) :
    Calls Tryd.prog 3 #[tlV O n c K m d, .int .u8 wh, .int .u8 kd] w fun e' w' => e' = .returned (.bool true) ∧ Below w.heap.size w w' := by
  have h : kd % 6 = 0 ∨ kd % 6 = 1 ∨ kd % 6 = 2 ∨ kd % 6 = 3 ∨ kd % 6 = 4 ∨ kd % 6 = 5 := by omega
  rcases h with h | h | h | h | h | h
  · exact tk_0 O os n c K hs m d hn hm hI wh kd hw0 hw1 hk0 hk1 h w hv hO hK
  · exact tk_1 O os n c K hs m d hn hm hI wh kd hw0 hw1 hk0 hk1 h w hv hO hK
  · exact tk_2 O os n c K hs m d hn hm hI wh kd hw0 hw1 hk0 hk1 h w hv hO hK
  · exact tk_3 O os n c K hs m d hn hm hI wh kd hw0 hw1 hk0 hk1 h w hv hO hK
  · exact tk_4 O os n c K hs m d hn hm hI wh kd hw0 hw1 hk0 hk1 h w hv hO hK
  · exact tk_5 O os n c K hs m d hn hm hI wh kd hw0 hw1 hk0 hk1 h w hv hO hK
end Go.Proofs.YtpmjgkkcckhabaaDoor
