/- Contracts and lemmas: TmM. -/
import Derived.Test.YtofkihlpbfcdkaaDoorOp9
namespace Go.Proofs.YtofkihlpbfcdkaaDoor
open Go.RowKit SpM
set_option linter.unusedVariables false
set_option linter.unusedSimpArgs false
set_option maxRecDepth 100000
def OpS (os : List OrdR) (hs : List (List Int)) (n m : Nat) (s : ByteArray) (na nz : Nat) (g : OrdR) (n7 m7 : Nat) (i7 e7 : Int) (os7 : List OrdR) (hs7 : List (List Int)) : Prop :=
  ((rsB s = false ∨ shB na nz = false) ∧ n7 = 0 ∧ m7 = 0 ∧ i7 = 0 ∧ e7 = 2) ∨ ((rsB s = true ∧ shB na nz = true) ∧ m < n ∧ n7 = 0 ∧ m7 = 0 ∧ i7 = 0 ∧ e7 = 6) ∨ ((rsB s = true ∧ shB na nz = true) ∧ ¬ m < n ∧ n = 100 ∧ n7 = 0 ∧ m7 = 0 ∧ i7 = 0 ∧ e7 = 5) ∨
  ((rsB s = true ∧ shB na nz = true) ∧ ¬ m < n ∧ n < 100 ∧ n7 = n + 1 ∧ m7 = m ∧ i7 = (n : Int) ∧ e7 = 0 ∧ hs7 = hs ∧ os7.length = n + 1 ∧ ∀ k, k < n + 1 → SamO (orL (os ++ [g]) k) (orL os7 k))
theorem at_mostD {os : List OrdR} {hs : List (List Int)} (h : trlB os hs = true) {k : Nat} (hk : k < os.length) : k ≤ hs.length := by
  obtain ⟨h1, h2, _⟩ := trl_parts h
  by_cases e : k < hs.length
  · omega
  · by_cases hz : k = 0
    · omega
    · have hkey : (orL os (k - 1)).key ≠ 0 := fun e0 => by
        have := (trR_parts (trS_get h1 (k - 1) (by omega))).2.2.1 e0
        omega
      have := (link_at h (i := k - 1) (by omega) hkey).1
      omega
theorem sh_b {na nz : Nat} (h : shB na nz = true) : na ≤ 20 ∧ nz ≤ 20 := by
  simp only [shB, Bool.and_eq_true, decide_eq_true_eq] at h
  exact h
theorem rs_b {s : ByteArray} (h : rsB s = true) : 1 ≤ s.size ∧ s.size ≤ 200 := by
  simp only [rsB, Bool.and_eq_true, decide_eq_true_eq] at h
  exact h
theorem opn_x (O : Option Addr) (os : List OrdR) (n c : Nat) (K : Option Addr) (hs : List (List Int)) (m d : Nat) (hn : Hid (os.length = n)) (hm : Hid (hs.length = m)) (hI : ∀ k, k < n → OrdI (orL os k)) (hb1 : n ≤ 1000000) (hb2 : m ≤ 1000000) (hSo : ∀ k, k < n → OrdS (orL os k)) (E1 E2 : Int) (A : Option Addr) (na ca : Nat) (al : List Int) (C : Int) (Z : Option Addr) (nz cz : Nat) (zs : List Int) (s : ByteArray) (hna : Hid (al.length = na)) (hnz : Hid (zs.length = nz)) (HT : Kp (trlB os hs = true)) (w : World) (hv : Hid (VarsD w)) (hO : Hid (Os w O os)) (hK : Hid (Hs w K hs)) (hA : Hid (Sl w A al)) (hZ : Hid (Sl w Z zs)) :
    Calls Tryd.prog 7 #[tlV O n c K m d, .string s, esV E1 E2 A na ca C Z nz cz] w fun e w' => ∃ O7 c7 K7 d7 n7 m7 os7 hs7 i7 e7, e = .returned (.tuple #[tlV O7 n7 c7 K7 m7 d7, .int .i64 i7, .int .i64 e7]) ∧ OpS os hs n m s na nz (⟨(n : Int), s, E1, E2, A, na, ca, al, C, Z, nz, cz, zs, none, 0, 0, [], 0⟩ : OrdR) n7 m7 i7 e7 os7 hs7 ∧ Os w' O7 os7 ∧ Hs w' K7 hs7 ∧ Below w.heap.size w w' := by
  have hlt : opnB os n = decide (m < n) := by have h := opn_lt HT.1; rw [hn.out, hm.out] at h; exact h
  cases h1 : rsB s with
  | false =>
    refine (opn_2 O os n c K hs m d hn hm hI hb1 hb2 E1 E2 A na ca C Z nz cz s (Lib.hid h1) HT w hv hO hK).mono ?_
    rintro e w' ⟨O7, c7, K7, d7, os7, rfl, _, _, ho, hh, hb⟩
    exact ⟨O7, c7, K7, d7, 0, 0, os7, [], 0, 2, rfl, .inl ⟨.inl h1, rfl, rfl, rfl, rfl⟩, ho, hh, hb⟩
  | true =>
    cases h2 : shB na nz with
    | false =>
      refine (opn_3 O os n c K hs m d hn hm hI hb1 hb2 E1 E2 A na ca C Z nz cz s (Lib.hid h1) (Lib.hid h2) HT w hv hO hK).mono ?_
      rintro e w' ⟨O7, c7, K7, d7, os7, rfl, _, _, ho, hh, hb⟩
      exact ⟨O7, c7, K7, d7, 0, 0, os7, [], 0, 2, rfl, .inl ⟨.inr h2, rfl, rfl, rfl, rfl⟩, ho, hh, hb⟩
    | true =>
      by_cases h3 : m < n
      · refine (opn_4 O os n c K hs m d hn hm hI hb1 hb2 E1 E2 A na ca C Z nz cz s (Lib.hid h1) (Lib.hid h2) (Lib.hid (by rw [hlt]; simpa using h3)) HT w hv hO hK).mono ?_
        rintro e w' ⟨O7, c7, K7, d7, os7, rfl, _, _, ho, hh, hb⟩
        exact ⟨O7, c7, K7, d7, 0, 0, os7, [], 0, 6, rfl, .inr (.inl ⟨⟨h1, h2⟩, h3, rfl, rfl, rfl, rfl⟩), ho, hh, hb⟩
      · have h4 : opnB os n = false := by rw [hlt]; simpa using h3
        by_cases h5 : n = 100
        · refine (opn_5 O os n c K hs m d hn hm hI hb1 hb2 E1 E2 A na ca C Z nz cz s (Lib.hid h1) (Lib.hid h2) (Lib.hid h4) (Lib.hid h5) HT w hv hO hK).mono ?_
          rintro e w' ⟨O7, c7, K7, d7, os7, rfl, _, _, ho, hh, hb⟩
          exact ⟨O7, c7, K7, d7, 0, 0, os7, [], 0, 5, rfl, .inr (.inr (.inl ⟨⟨h1, h2⟩, h3, h5, rfl, rfl, rfl, rfl⟩)), ho, hh, hb⟩
        · have h6 := sh_b h2
          have h7 : n ≤ 100 := by have := (trl_parts HT.1).2.2; rw [hn.out] at this; exact this
          refine (opn_ok O os n c K hs m d hn hm hI hb1 hb2 hSo E1 E2 A na ca al C Z nz cz zs s hna hnz (by omega) (by omega) (Lib.hid h1) (Lib.hid h2) (Lib.hid h4) (Lib.hid h5) HT w hv hO hK hA hZ).mono ?_
          rintro e w' ⟨O7, c7, K7, d7, os7, rfl, hl7, hsm, ho, hh, hb⟩
          exact ⟨O7, c7, K7, d7, n + 1, m, os7, hs, (n : Int), 0, rfl, .inr (.inr (.inr ⟨⟨h1, h2⟩, h3, by omega, rfl, rfl, rfl, rfl, rfl, hl7, hsm⟩)), ho, hh, hb⟩
theorem tlab_x (O : Option Addr) (os : List OrdR) (n c : Nat) (K : Option Addr) (hs : List (List Int)) (m d : Nat) (hn : Hid (os.length = n)) (hm : Hid (hs.length = m)) (hI : ∀ k, k < n → OrdI (orL os k)) (hb1 : n ≤ 1000000) (hb2 : m ≤ 1000000) (hSo : ∀ k, k < n → OrdS (orL os k)) (i : Int) (HT : Kp (trlB os hs = true)) (w : World) (hv : Hid (VarsD w)) (hO : Hid (Os w O os)) (hK : Hid (Hs w K hs)) :
    Calls Tryd.prog 8 #[tlV O n c K m d, .int .i64 i] w fun e w' => ∃ (S : ByteArray) (f : Int), e = .returned (.tuple #[.string S, .int .i64 f]) ∧ (((i < 0 ∨ (n : Int) ≤ i) ∧ S = ⟨#[]⟩ ∧ f = 7) ∨ ((0 ≤ i ∧ i < (n : Int)) ∧ S = lbS (befL hs i.toNat) (orL os i.toNat) ∧ f = 0)) ∧ Below w.heap.size w w' := by
  by_cases h1 : i < 0
  · refine (tlab_2 O os n c K hs m d hn hm hI hb1 hb2 i h1 HT w hv hO hK).mono ?_
    rintro e w' ⟨rfl, hb⟩
    exact ⟨_, _, rfl, .inl ⟨.inl h1, rfl, rfl⟩, hb⟩
  · by_cases h2 : (n : Int) ≤ i
    · refine (tlab_3 O os n c K hs m d hn hm hI hb1 hb2 i (by omega) h2 HT w hv hO hK).mono ?_
      rintro e w' ⟨rfl, hb⟩
      exact ⟨_, _, rfl, .inl ⟨.inr h2, rfl, rfl⟩, hb⟩
    · obtain ⟨k, rfl⟩ : ∃ k : Nat, i = (k : Int) := ⟨i.toNat, by omega⟩
      have hk : k < n := by omega
      have him : k ≤ m := by rw [← hm.out]; exact at_mostD HT.1 (by rw [hn.out]; exact hk)
      have hbl : (befL hs k).length = 32 := by rw [bef_hb HT.1 (by rw [hm.out]; exact him)]; exact hbL_len _ _
      have hbb : bytesB (befL hs k) = true := by rw [bef_hb HT.1 (by rw [hm.out]; exact him)]; exact hbL_b _ _
      refine (tlab_4 O os n c K hs m d hn hm hI hb1 hb2 k hk him (befL hs k) (Lib.hid rfl) (Lib.hid hbl) (Lib.hid hbb) (orL os k) (Lib.hid rfl) (hSo k hk) HT w hv hO hK).mono ?_
      rintro e w' ⟨rfl, hb⟩
      exact ⟨_, _, rfl, .inr ⟨⟨by omega, by omega⟩, by rw [Int.toNat_natCast], rfl⟩, hb⟩
set_option maxHeartbeats 51200000 in
theorem tops_true (O : Option Addr) (os : List OrdR) (n c : Nat) (K : Option Addr) (hs : List (List Int)) (m d : Nat) (hn : Hid (os.length = n)) (hm : Hid (hs.length = m)) (hI : ∀ k, k < n → OrdI (orL os k)) (E1 E2 : Int) (A : Option Addr) (na ca : Nat) (al : List Int) (C : Int) (Z : Option Addr) (nz cz : Nat) (zs : List Int) (s : ByteArray) (hna : Hid (al.length = na)) (hnz : Hid (zs.length = nz)) (hE : i64 E1 ∧ i64 E2 ∧ i64 C ∧ (∀ x ∈ al, i64 x) ∧ ∀ x ∈ zs, i64 x) (i : Int) (w : World) (hv : Hid (VarsD w)) (hO : Hid (Os w O os)) (hK : Hid (Hs w K hs)) (hA : Hid (Sl w A al)) (hZ : Hid (Sl w Z zs)) :
    Calls Tryd.prog 3 #[tlV O n c K m d, .string s, esV E1 E2 A na ca C Z nz cz, .int .i64 i] w fun e' w' => e' = .returned (.bool true) ∧ Below w.heap.size w w' := by
  obtain ⟨i0, hi, hz0, hz1, hz2⟩ := info_parts intInfoX
  obtain ⟨i1, hi1, hy0, hy1, hy2⟩ := info_parts ordInfo
  obtain ⟨w0, hW⟩ : ∃ W, ((w.alloc (tlO O n c K m d)).alloc (esO E1 E2 A na ca C Z nz cz)) = W := ⟨_, rfl⟩
  have HBw : Hid (Below w.heap.size w w0) := Lib.hid (by rw [← hW]; exact below_two (Below.refl _ _))
  have hc : w0.cell? ⟨w.heap.size, 0, none⟩ = some (.slice O n c) ∧ w0.cell? ⟨w.heap.size, 1, none⟩ = some (.slice K m d) ∧ w0.cell? ⟨w.heap.size + 1, 0, none⟩ = some (.int .i64 E1) ∧ w0.cell? ⟨w.heap.size + 1, 1, none⟩ = some (.int .i64 E2) ∧ w0.cell? ⟨w.heap.size + 1, 2, none⟩ = some (.slice A na ca) ∧ w0.cell? ⟨w.heap.size + 1, 3, none⟩ = some (.int .i64 C) ∧ w0.cell? ⟨w.heap.size + 1, 4, none⟩ = some (.slice Z nz cz) := by rw [← hW]; exact ⟨cell_below (allocs_cell (by simp) (by rfl)) (below_box0 _ _), cell_below (allocs_cell (by simp) (by rfl)) (below_box0 _ _), allocs_cell (by simp) (by rfl), allocs_cell (by simp) (by rfl), allocs_cell (by simp) (by rfl), allocs_cell (by simp) (by rfl), allocs_cell (by simp) (by rfl)⟩
  have kC := Lib.hid (show ∀ u : World, Hid (Below w0.heap.size w0 u) → u.cell? ⟨w.heap.size, 0, none⟩ = some (.slice O n c) ∧ u.cell? ⟨w.heap.size, 1, none⟩ = some (.slice K m d) ∧ u.cell? ⟨w.heap.size + 1, 0, none⟩ = some (.int .i64 E1) ∧ u.cell? ⟨w.heap.size + 1, 1, none⟩ = some (.int .i64 E2) ∧ u.cell? ⟨w.heap.size + 1, 2, none⟩ = some (.slice A na ca) ∧ u.cell? ⟨w.heap.size + 1, 3, none⟩ = some (.int .i64 C) ∧ u.cell? ⟨w.heap.size + 1, 4, none⟩ = some (.slice Z nz cz) from fun u h => ⟨cell_below hc.1 h.out, cell_below hc.2.1 h.out, cell_below hc.2.2.1 h.out, cell_below hc.2.2.2.1 h.out, cell_below hc.2.2.2.2.1 h.out, cell_below hc.2.2.2.2.2.1 h.out, cell_below hc.2.2.2.2.2.2 h.out⟩)
  have kD := Lib.hid (show ∀ u : World, Hid (Below w0.heap.size w0 u) → Hid (VarsD u) from fun u h => Lib.hid ((hv.out.below) (below_ext HBw.out h.out)))
  have kOs := Lib.hid (show ∀ u : World, Hid (Below w0.heap.size w0 u) → Hid (Os u O os) from fun u h => Lib.hid ((hO.out.below) (below_ext HBw.out h.out)))
  have kHs := Lib.hid (show ∀ u : World, Hid (Below w0.heap.size w0 u) → Hid (Hs u K hs) from fun u h => Lib.hid ((hK.out.below) (below_ext HBw.out h.out)))
  have kA := Lib.hid (show ∀ u : World, Hid (Below w0.heap.size w0 u) → Hid (Sl u A al) from fun u h => Lib.hid ((hA.out.below) (below_ext HBw.out h.out)))
  have kZ := Lib.hid (show ∀ u : World, Hid (Below w0.heap.size w0 u) → Hid (Sl u Z zs) from fun u h => Lib.hid ((hZ.out.below) (below_ext HBw.out h.out)))
  have HB_0 : Hid (Below w0.heap.size w0 w0) := Lib.hid (Below.refl _ _)
  have HW := Lib.hid hW
  clear hW hc 
  have HSW : Hid (w0.heap.size = w.heap.size + 2) := Lib.hid (by rw [← HW.out]; simp)
  go_enter Tryd.func3, Tryd.ntmps3
  go_upto_region 1 with (fail)
  rw [HW.out]
  obtain ⟨zc0, zc1, zc2, zc3, zc4, zc5, zc6⟩ := kC.out _ HB_0
  go_wp2_with fail
  refine (awake51 _ (kD.out _ HB_0)).mono ?_
  rintro e w1 ⟨rfl, hb0⟩
  have HB_1 := Lib.hid (below_ext HB_0.out hb0)
  clear zc0 zc1 zc2 zc3 zc4 zc5 zc6
  clear hb0
  obtain ⟨zc0, zc1, zc2, zc3, zc4, zc5, zc6⟩ := kC.out _ HB_1
  go_wp2_with fail
  refine (few51_any O os n c K m d hn _ (kOs.out _ HB_1)).mono ?_
  rintro e w2 ⟨bf, rfl, hbf, hb0⟩
  have HBF := Lib.hid hbf
  clear hbf
  have HB_2 := Lib.hid (below_ext HB_1.out hb0)
  clear zc0 zc1 zc2 zc3 zc4 zc5 zc6
  clear hb0
  obtain ⟨zc0, zc1, zc2, zc3, zc4, zc5, zc6⟩ := kC.out _ HB_2
  cases bf with
  | false =>
    go_wp2_with fail
    refine (awake51 _ (kD.out _ HB_2)).mono ?_
    rintro e w3 ⟨rfl, hb0⟩
    have HB_3 := Lib.hid (below_ext HB_2.out hb0)
    clear zc0 zc1 zc2 zc3 zc4 zc5 zc6
    clear hb0
    obtain ⟨zc0, zc1, zc2, zc3, zc4, zc5, zc6⟩ := kC.out _ HB_3
    have hbF := below_ext HBw.out HB_3.out
    go_wp2
    go_ret
    exact ⟨rfl, hbF⟩
  | true =>
    have hbb := HBF.out rfl
    have hb1 : n ≤ 1000000 := by omega
    have hb2 : m ≤ 1000000 := by omega
    have hn110 : n ≤ 110 := by omega
    clear hbb HBF
    by_cases h3 : 300 < s.size
    · skip
      have d3 : decide ((300 : Int) < (s.size : Int)) = true := by simp; omega
      go_wp2_with fail
      refine (awake51 _ (kD.out _ HB_2)).mono ?_
      rintro e w3 ⟨rfl, hb0⟩
      have HB_3 := Lib.hid (below_ext HB_2.out hb0)
      clear zc0 zc1 zc2 zc3 zc4 zc5 zc6
      clear hb0
      obtain ⟨zc0, zc1, zc2, zc3, zc4, zc5, zc6⟩ := kC.out _ HB_3
      have hbF := below_ext HBw.out HB_3.out
      go_wp2
      go_ret
      exact ⟨rfl, hbF⟩
    · skip
      have d3 : decide ((300 : Int) < (s.size : Int)) = false := by simp; omega
      go_wp2_with fail
      refine (light_any A na ca C Z nz cz _).mono ?_
      rintro e w3 ⟨bl, rfl, hb0⟩
      have HB_3 := Lib.hid (below_ext HB_2.out hb0)
      clear zc0 zc1 zc2 zc3 zc4 zc5 zc6
      clear hb0
      obtain ⟨zc0, zc1, zc2, zc3, zc4, zc5, zc6⟩ := kC.out _ HB_3
      cases bl with
      | false =>
        go_wp2_with fail
        refine (awake51 _ (kD.out _ HB_3)).mono ?_
        rintro e w4 ⟨rfl, hb0⟩
        have HB_4 := Lib.hid (below_ext HB_3.out hb0)
        clear zc0 zc1 zc2 zc3 zc4 zc5 zc6
        clear hb0
        obtain ⟨zc0, zc1, zc2, zc3, zc4, zc5, zc6⟩ := kC.out _ HB_4
        have hbF := below_ext HBw.out HB_4.out
        go_wp2
        go_ret
        exact ⟨rfl, hbF⟩
      | true =>
        cases h1 : trlB os hs with
        | false =>
          have HT : Kp (trlB os hs = false) := ⟨h1⟩
          clear h1
          go_wp2_with fail
          refine (opn_1 O os n c K hs m d hn hm hI hb1 hb2 E1 E2 A na ca C Z nz cz s HT _ (kD.out _ HB_3) (kOs.out _ HB_3) (kHs.out _ HB_3)).mono ?_
          rintro e w4 ⟨O7, c7, K7, d7, os7, rfl, _, _, _, _, hb0⟩
          have HB_4 := Lib.hid (below_ext HB_3.out hb0)
          clear zc0 zc1 zc2 zc3 zc4 zc5 zc6
          clear hb0
          obtain ⟨zc0, zc1, zc2, zc3, zc4, zc5, zc6⟩ := kC.out _ HB_4
          have hq := below_box0 w4 (tlO O7 0 c7 K7 0 d7)
          have HB_5 := Lib.hid (below_ext HB_4.out hq)
          have hc : (w4.alloc (tlO O7 0 c7 K7 0 d7)).cell? ⟨w4.heap.size, 0, none⟩ = some (.slice O7 0 c7) ∧ (w4.alloc (tlO O7 0 c7 K7 0 d7)).cell? ⟨w4.heap.size, 1, none⟩ = some (.slice K7 0 d7) := ⟨allocs_cell rfl (by rfl), allocs_cell rfl (by rfl)⟩
          have HC5 := Lib.hid hc
          clear zc0 zc1 zc2 zc3 zc4 zc5 zc6
          clear hq
          obtain ⟨zc0, zc1, zc2, zc3, zc4, zc5, zc6⟩ := kC.out _ HB_5
          obtain ⟨zq0, zq1⟩ := hc
          go_wp2_with fail
          obtain ⟨w5, hw⟩ : ∃ x, (w4.alloc (tlO O7 0 c7 K7 0 d7)) = x := ⟨_, rfl⟩
          rw [hw] at HC5 HB_5 ⊢
          have HSN5 : Hid (w5.heap.size = w4.heap.size + 1) := Lib.hid (by rw [← hw]; simp)
          clear zc0 zc1 zc2 zc3 zc4 zc5 zc6 zq0 zq1
          clear hw
          have HB_w5_5 : Hid (Below w5.heap.size w5 w5) := Lib.hid (Below.refl _ _)
          have kN := Lib.hid (show ∀ u : World, Hid (Below w5.heap.size w5 u) → u.cell? ⟨w4.heap.size, 0, none⟩ = some (.slice O7 0 c7) ∧ u.cell? ⟨w4.heap.size, 1, none⟩ = some (.slice K7 0 d7) from fun u h => ⟨cell_below HC5.out.1 h.out, cell_below HC5.out.2 h.out⟩)
          obtain ⟨zc0, zc1, zc2, zc3, zc4, zc5, zc6⟩ := kC.out _ HB_5
          obtain ⟨kN_0, kN_1⟩ := kN.out _ HB_w5_5
          go_wp2_with fail
          refine (tlab_1 O os n c K hs m d hn hm hI hb1 hb2 i HT _ (kD.out _ HB_5) (kOs.out _ HB_5) (kHs.out _ HB_5)).mono ?_
          rintro e w6 ⟨rfl, hb0⟩
          have HB_6 := Lib.hid (below_ext HB_5.out hb0)
          have HB_w5_6 := Lib.hid (below_ext HB_w5_5.out hb0)
          clear zc0 zc1 zc2 zc3 zc4 zc5 zc6 kN_0 kN_1
          clear hb0
          obtain ⟨zc0, zc1, zc2, zc3, zc4, zc5, zc6⟩ := kC.out _ HB_6
          obtain ⟨kN_0, kN_1⟩ := kN.out _ HB_w5_6
          go_wp2_with fail
          refine (trc_f O os n c K hs m d hn hm hI hb1 hb2 HT _ (kD.out _ HB_6) (kOs.out _ HB_6) (kHs.out _ HB_6)).mono ?_
          rintro e w7 ⟨rfl, hb0⟩
          have HB_7 := Lib.hid (below_ext HB_6.out hb0)
          have HB_w5_7 := Lib.hid (below_ext HB_w5_6.out hb0)
          clear zc0 zc1 zc2 zc3 zc4 zc5 zc6 kN_0 kN_1
          clear hb0
          obtain ⟨zc0, zc1, zc2, zc3, zc4, zc5, zc6⟩ := kC.out _ HB_7
          obtain ⟨kN_0, kN_1⟩ := kN.out _ HB_w5_7
          go_upto_region 6 with (fail)
          clear zc0 zc1 zc2 zc3 zc4 zc5 zc6 kN_0 kN_1
          have hBx8 := Lib.hid (show ∀ u u2 : World, Hid (Below w0.heap.size w0 u ∧ Below w5.heap.size w5 u) → Below u.heap.size u u2 → Hid (Below w0.heap.size w0 u2 ∧ Below w5.heap.size w5 u2) from fun u u2 h1 h2 => Lib.hid ⟨(below_ext h1.out.1 h2), (below_ext h1.out.2 h2)⟩)
          have hS8 := Lib.hid (show ∀ u : World, Hid (Below w0.heap.size w0 u ∧ Below w5.heap.size w5 u) → (u.cell? ⟨w.heap.size, 0, none⟩ = some (.slice O n c) ∧ u.cell? ⟨w.heap.size, 1, none⟩ = some (.slice K m d) ∧ u.cell? ⟨w.heap.size + 1, 0, none⟩ = some (.int .i64 E1) ∧ u.cell? ⟨w.heap.size + 1, 1, none⟩ = some (.int .i64 E2) ∧ u.cell? ⟨w.heap.size + 1, 2, none⟩ = some (.slice A na ca) ∧ u.cell? ⟨w.heap.size + 1, 3, none⟩ = some (.int .i64 C) ∧ u.cell? ⟨w.heap.size + 1, 4, none⟩ = some (.slice Z nz cz) ∧ u.cell? ⟨w4.heap.size, 0, none⟩ = some (.slice O7 0 c7) ∧ u.cell? ⟨w4.heap.size, 1, none⟩ = some (.slice K7 0 d7) ∧ Hid (Below w0.heap.size w0 u ∧ Below w5.heap.size w5 u)) from fun u h1 => by
            obtain ⟨y0, y1, y2, y3, y4, y5, y6⟩ := kC.out _ (Lib.hid h1.out.1)
            obtain ⟨kN_0, kN_1⟩ := kN.out _ (Lib.hid h1.out.2)
            exact ⟨y0, y1, y2, y3, y4, y5, y6, kN_0, kN_1, h1⟩)
          have HBA8 : Hid (Below w0.heap.size w0 w7 ∧ Below w5.heap.size w5 w7) := Lib.hid ⟨HB_7.out, HB_w5_7.out⟩
          refine wp_region_T (S := fun w' => w'.cell? ⟨w.heap.size, 0, none⟩ = some (.slice O n c) ∧ w'.cell? ⟨w.heap.size, 1, none⟩ = some (.slice K m d) ∧ w'.cell? ⟨w.heap.size + 1, 0, none⟩ = some (.int .i64 E1) ∧ w'.cell? ⟨w.heap.size + 1, 1, none⟩ = some (.int .i64 E2) ∧ w'.cell? ⟨w.heap.size + 1, 2, none⟩ = some (.slice A na ca) ∧ w'.cell? ⟨w.heap.size + 1, 3, none⟩ = some (.int .i64 C) ∧ w'.cell? ⟨w.heap.size + 1, 4, none⟩ = some (.slice Z nz cz) ∧ w'.cell? ⟨w4.heap.size, 0, none⟩ = some (.slice O7 0 c7) ∧ w'.cell? ⟨w4.heap.size, 1, none⟩ = some (.slice K7 0 d7) ∧ Hid (Below w0.heap.size w0 w' ∧ Below w5.heap.size w5 w')) (E := []) (by kernel_rfl) (hS8.out _ (hBx8.out _ _ HBA8 ((Below.refl _ _).drew))) (fun hHeld => ?_)
          refine wpT_one (i := 0) (by kernel_rfl) rfl (fun K hK => ?_)
          go_simp
          refine (new_any _).mono ?_
          rintro e wA ⟨rfl, hbA⟩
          refine hK.out _ _ ?_ (fun hHeld => ?_)
          · exact hS8.out _ (hBx8.out _ _ hHeld.2.2.2.2.2.2.2.2.2 hbA)
          clear hK K
          try simp only [qq1, qq2, qq3, Act.put, qq4, qq5, qq6]
          refine wpT_one (i := 1) (by kernel_rfl) rfl (fun K hK => ?_)
          go_simp
          refine (none_any none 0 0 none 0 0 true (Lib.hid rfl) _).mono ?_
          rintro e wA ⟨rfl, hbA⟩
          refine hK.out _ _ ?_ (fun hHeld => ?_)
          · exact hS8.out _ (hBx8.out _ _ hHeld.2.2.2.2.2.2.2.2.2 hbA)
          clear hK K
          try simp only [qq1, qq2, qq3, Act.put, qq4, qq5, qq6]
          refine tkV 2 ?_
          try simp only [qq1, qq2, qq3, Act.put, qq4, qq5, qq6]
          refine tkV 3 ?_
          try simp only [qq1, qq2, qq3, Act.put, qq4, qq5, qq6]
          refine tkV 4 ?_
          try simp only [qq1, qq2, qq3, Act.put, qq4, qq5, qq6]
          refine tkV 6 ?_
          try simp only [qq1, qq2, qq3, Act.put, qq4, qq5, qq6]
          refine wpT_one (i := 5) (by kernel_rfl) rfl (fun K hK => ?_)
          go_simp
          refine (tval_any O os n c _ hs m d hn hm hI hb1 hb2 false HT _ (kD.out _ (Lib.hid (hHeld.2.2.2.2.2.2.2.2.2).out.1)) (kOs.out _ (Lib.hid (hHeld.2.2.2.2.2.2.2.2.2).out.1)) (kHs.out _ (Lib.hid (hHeld.2.2.2.2.2.2.2.2.2).out.1))).mono ?_
          rintro e wA ⟨rfl, hbA⟩
          refine hK.out _ _ ?_ (fun hHeld => ?_)
          · exact hS8.out _ (hBx8.out _ _ hHeld.2.2.2.2.2.2.2.2.2 hbA)
          clear hK K
          try simp only [qq1, qq2, qq3, Act.put, qq4, qq5, qq6]
          refine wpT_one (i := 7) (by kernel_rfl) rfl (fun K hK => ?_)
          go_simp
          refine (rtval_any O os n c _ hs m d hn hm hI hb1 hb2 false HT _ (kD.out _ (Lib.hid (hHeld.2.2.2.2.2.2.2.2.2).out.1)) (kOs.out _ (Lib.hid (hHeld.2.2.2.2.2.2.2.2.2).out.1)) (kHs.out _ (Lib.hid (hHeld.2.2.2.2.2.2.2.2.2).out.1))).mono ?_
          rintro e wA ⟨rfl, hbA⟩
          refine hK.out _ _ ?_ (fun hHeld => ?_)
          · exact hS8.out _ (hBx8.out _ _ hHeld.2.2.2.2.2.2.2.2.2 hbA)
          clear hK K
          try simp only [qq1, qq2, qq3, Act.put, qq4, qq5, qq6]
          refine tkV 8 ?_
          try simp only [qq1, qq2, qq3, Act.put, qq4, qq5, qq6]
          refine tkV 9 ?_
          try simp only [qq1, qq2, qq3, Act.put, qq4, qq5, qq6]
          refine wpT_done (by kernel_rfl) ?_ _
          obtain ⟨x0, x1, x2, x3, x4, x5, x6, x7, x8, FB8⟩ := hHeld
          clear x0 x1 x2 x3 x4 x5 x6 x7 x8 hS8 hBx8 HBA8
          have HL8_w0 := Lib.hid FB8.out.1
          have HL8_w5 := Lib.hid FB8.out.2
          obtain ⟨zc0, zc1, zc2, zc3, zc4, zc5, zc6⟩ := kC.out _ HL8_w0
          obtain ⟨kN_0, kN_1⟩ := kN.out _ HL8_w5
          go_wp2_with fail
          refine (rtval_any O os n c K hs m d hn hm hI hb1 hb2 false HT _ (kD.out _ HL8_w0) (kOs.out _ HL8_w0) (kHs.out _ HL8_w0)).mono ?_
          rintro e w9 ⟨rfl, hb0⟩
          have HB_9 := Lib.hid (below_ext HL8_w0.out hb0)
          have HB_w5_9 := Lib.hid (below_ext HL8_w5.out hb0)
          clear zc0 zc1 zc2 zc3 zc4 zc5 zc6 kN_0 kN_1
          clear hb0
          obtain ⟨zc0, zc1, zc2, zc3, zc4, zc5, zc6⟩ := kC.out _ HB_9
          obtain ⟨kN_0, kN_1⟩ := kN.out _ HB_w5_9
          go_wp2_with fail
          refine (dig_f O os n c K hs m d hn hm hI hb1 hb2 HT _ (kD.out _ HB_9) (kOs.out _ HB_9) (kHs.out _ HB_9)).mono ?_
          rintro e w10 ⟨rfl, hb0⟩
          have HB_10 := Lib.hid (below_ext HB_9.out hb0)
          have HB_w5_10 := Lib.hid (below_ext HB_w5_9.out hb0)
          clear zc0 zc1 zc2 zc3 zc4 zc5 zc6 kN_0 kN_1
          clear hb0
          obtain ⟨zc0, zc1, zc2, zc3, zc4, zc5, zc6⟩ := kC.out _ HB_10
          obtain ⟨kN_0, kN_1⟩ := kN.out _ HB_w5_10
          go_wp2_with ((with_reducible show wpList _ _ _ (⟨some 70, _, _, _, _, _⟩ :: _) _ _); refine wpList_eql_hash (by rfl) _ _ _ rfl (zer 32) (zer 32) (by simp [zer]) (by simp [zer]) rfl rfl true (by simp) ?_)
          refine (none_any O7 0 c7 K7 0 d7 true (Lib.hid rfl) _).mono ?_
          rintro e w11 ⟨rfl, hb0⟩
          have HB_11 := Lib.hid (below_ext HB_10.out hb0)
          have HB_w5_11 := Lib.hid (below_ext HB_w5_10.out hb0)
          clear zc0 zc1 zc2 zc3 zc4 zc5 zc6 kN_0 kN_1
          clear hb0
          obtain ⟨zc0, zc1, zc2, zc3, zc4, zc5, zc6⟩ := kC.out _ HB_11
          obtain ⟨kN_0, kN_1⟩ := kN.out _ HB_w5_11
          have hbF := below_ext HBw.out HB_11.out
          go_wp2
          go_ret
          exact ⟨rfl, hbF⟩
        | true =>
          have HT : Kp (trlB os hs = true) := ⟨h1⟩
          clear h1
          have hSo : ∀ k, k < n → OrdS (orL os k) := fun k hk => by
            obtain ⟨_, _, _, _, hok⟩ := hO.out k (by rw [hn.out]; exact hk)
            exact ordS_of (trR_parts (trS_get (trl_parts HT.1).1 k (by rw [hn.out]; exact hk))).1 hok
          have hl32 : (befL hs m).length = 32 := by rw [← hm.out, bef_hb HT.1 (Nat.le_refl _)]; exact hbL_len _ _
          go_wp2_with fail
          refine (opn_x O os n c K hs m d hn hm hI hb1 hb2 hSo E1 E2 A na ca al C Z nz cz zs s hna hnz HT _ (kD.out _ HB_3) (kOs.out _ HB_3) (kHs.out _ HB_3) (kA.out _ HB_3) (kZ.out _ HB_3)).mono ?_
          rintro e w4 ⟨O7, c7, K7, d7, n7, m7, os7, hs7, i7, e7, rfl, hop, ho7, hh7, hb0⟩
          have HOP := Lib.hid hop
          have HO7 := Lib.hid ho7
          have HH7 := Lib.hid hh7
          clear hop ho7 hh7
          have HB_4 := Lib.hid (below_ext HB_3.out hb0)
          clear zc0 zc1 zc2 zc3 zc4 zc5 zc6
          clear hb0
          obtain ⟨zc0, zc1, zc2, zc3, zc4, zc5, zc6⟩ := kC.out _ HB_4
          have HB_w4_4 : Hid (Below w4.heap.size w4 w4) := Lib.hid (Below.refl _ _)
          have kO7 := Lib.hid (show ∀ u : World, Hid (Below w4.heap.size w4 u) → Hid (Os u O7 os7) from fun u h => Lib.hid (HO7.out.below h.out))
          have kH7 := Lib.hid (show ∀ u : World, Hid (Below w4.heap.size w4 u) → Hid (Hs u K7 hs7) from fun u h => Lib.hid (HH7.out.below h.out))
          have hq := below_box0 w4 (tlO O7 n7 c7 K7 m7 d7)
          have HB_5 := Lib.hid (below_ext HB_4.out hq)
          have HB_w4_5 := Lib.hid (below_ext HB_w4_4.out hq)
          have hc : (w4.alloc (tlO O7 n7 c7 K7 m7 d7)).cell? ⟨w4.heap.size, 0, none⟩ = some (.slice O7 n7 c7) ∧ (w4.alloc (tlO O7 n7 c7 K7 m7 d7)).cell? ⟨w4.heap.size, 1, none⟩ = some (.slice K7 m7 d7) := ⟨allocs_cell rfl (by rfl), allocs_cell rfl (by rfl)⟩
          have HC5 := Lib.hid hc
          clear zc0 zc1 zc2 zc3 zc4 zc5 zc6
          clear hq
          obtain ⟨zc0, zc1, zc2, zc3, zc4, zc5, zc6⟩ := kC.out _ HB_5
          obtain ⟨zq0, zq1⟩ := hc
          go_wp2_with fail
          obtain ⟨w5, hw⟩ : ∃ x, (w4.alloc (tlO O7 n7 c7 K7 m7 d7)) = x := ⟨_, rfl⟩
          rw [hw] at HC5 HB_5 HB_w4_5 ⊢
          have HSN5 : Hid (w5.heap.size = w4.heap.size + 1) := Lib.hid (by rw [← hw]; simp)
          clear zc0 zc1 zc2 zc3 zc4 zc5 zc6 zq0 zq1
          clear hw
          have HB_w5_5 : Hid (Below w5.heap.size w5 w5) := Lib.hid (Below.refl _ _)
          have kN := Lib.hid (show ∀ u : World, Hid (Below w5.heap.size w5 u) → u.cell? ⟨w4.heap.size, 0, none⟩ = some (.slice O7 n7 c7) ∧ u.cell? ⟨w4.heap.size, 1, none⟩ = some (.slice K7 m7 d7) from fun u h => ⟨cell_below HC5.out.1 h.out, cell_below HC5.out.2 h.out⟩)
          obtain ⟨zc0, zc1, zc2, zc3, zc4, zc5, zc6⟩ := kC.out _ HB_5
          obtain ⟨kN_0, kN_1⟩ := kN.out _ HB_w5_5
          go_wp2_with fail
          refine (tlab_x O os n c K hs m d hn hm hI hb1 hb2 hSo i HT _ (kD.out _ HB_5) (kOs.out _ HB_5) (kHs.out _ HB_5)).mono ?_
          rintro e w6 ⟨S, f, rfl, hlb, hb0⟩
          have HLB := Lib.hid hlb
          clear hlb
          have HB_6 := Lib.hid (below_ext HB_5.out hb0)
          have HB_w4_6 := Lib.hid (below_ext HB_w4_5.out hb0)
          have HB_w5_6 := Lib.hid (below_ext HB_w5_5.out hb0)
          clear zc0 zc1 zc2 zc3 zc4 zc5 zc6 kN_0 kN_1
          clear hb0
          obtain ⟨zc0, zc1, zc2, zc3, zc4, zc5, zc6⟩ := kC.out _ HB_6
          obtain ⟨kN_0, kN_1⟩ := kN.out _ HB_w5_6
          go_wp2_with fail
          refine (trc_t O os n c K hs m d hn hm hI hb1 hb2 HT _ (kD.out _ HB_6) (kOs.out _ HB_6) (kHs.out _ HB_6)).mono ?_
          rintro e w7 ⟨A8, c8, rfl, hs8, hb0⟩
          have HS8 := Lib.hid hs8
          clear hs8
          have HB_7 := Lib.hid (below_ext HB_6.out hb0)
          have HB_w4_7 := Lib.hid (below_ext HB_w4_6.out hb0)
          have HB_w5_7 := Lib.hid (below_ext HB_w5_6.out hb0)
          clear zc0 zc1 zc2 zc3 zc4 zc5 zc6 kN_0 kN_1
          clear hb0
          obtain ⟨zc0, zc1, zc2, zc3, zc4, zc5, zc6⟩ := kC.out _ HB_7
          obtain ⟨kN_0, kN_1⟩ := kN.out _ HB_w5_7
          have HB_w7_7 : Hid (Below w7.heap.size w7 w7) := Lib.hid (Below.refl _ _)
          have kS8 := Lib.hid (show ∀ u : World, Hid (Below w7.heap.size w7 u) → Hid (Sl u A8 (trcL os n)) from fun u h => Lib.hid (HS8.out.below h.out))
          go_upto_region 6 with (fail)
          clear zc0 zc1 zc2 zc3 zc4 zc5 zc6 kN_0 kN_1
          have hBx8 := Lib.hid (show ∀ u u2 : World, Hid (Below w0.heap.size w0 u ∧ Below w4.heap.size w4 u ∧ Below w5.heap.size w5 u ∧ Below w7.heap.size w7 u) → Below u.heap.size u u2 → Hid (Below w0.heap.size w0 u2 ∧ Below w4.heap.size w4 u2 ∧ Below w5.heap.size w5 u2 ∧ Below w7.heap.size w7 u2) from fun u u2 h1 h2 => Lib.hid ⟨(below_ext h1.out.1 h2), (below_ext h1.out.2.1 h2), (below_ext h1.out.2.2.1 h2), (below_ext h1.out.2.2.2 h2)⟩)
          have hS8 := Lib.hid (show ∀ u : World, Hid (Below w0.heap.size w0 u ∧ Below w4.heap.size w4 u ∧ Below w5.heap.size w5 u ∧ Below w7.heap.size w7 u) → (u.cell? ⟨w.heap.size, 0, none⟩ = some (.slice O n c) ∧ u.cell? ⟨w.heap.size, 1, none⟩ = some (.slice K m d) ∧ u.cell? ⟨w.heap.size + 1, 0, none⟩ = some (.int .i64 E1) ∧ u.cell? ⟨w.heap.size + 1, 1, none⟩ = some (.int .i64 E2) ∧ u.cell? ⟨w.heap.size + 1, 2, none⟩ = some (.slice A na ca) ∧ u.cell? ⟨w.heap.size + 1, 3, none⟩ = some (.int .i64 C) ∧ u.cell? ⟨w.heap.size + 1, 4, none⟩ = some (.slice Z nz cz) ∧ u.cell? ⟨w4.heap.size, 0, none⟩ = some (.slice O7 n7 c7) ∧ u.cell? ⟨w4.heap.size, 1, none⟩ = some (.slice K7 m7 d7) ∧ Hid (Below w0.heap.size w0 u ∧ Below w4.heap.size w4 u ∧ Below w5.heap.size w5 u ∧ Below w7.heap.size w7 u)) from fun u h1 => by
            obtain ⟨y0, y1, y2, y3, y4, y5, y6⟩ := kC.out _ (Lib.hid h1.out.1)
            obtain ⟨kN_0, kN_1⟩ := kN.out _ (Lib.hid h1.out.2.2.1)
            exact ⟨y0, y1, y2, y3, y4, y5, y6, kN_0, kN_1, h1⟩)
          have HBA8 : Hid (Below w0.heap.size w0 w7 ∧ Below w4.heap.size w4 w7 ∧ Below w5.heap.size w5 w7 ∧ Below w7.heap.size w7 w7) := Lib.hid ⟨HB_7.out, HB_w4_7.out, HB_w5_7.out, HB_w7_7.out⟩
          refine wp_region_T (S := fun w' => w'.cell? ⟨w.heap.size, 0, none⟩ = some (.slice O n c) ∧ w'.cell? ⟨w.heap.size, 1, none⟩ = some (.slice K m d) ∧ w'.cell? ⟨w.heap.size + 1, 0, none⟩ = some (.int .i64 E1) ∧ w'.cell? ⟨w.heap.size + 1, 1, none⟩ = some (.int .i64 E2) ∧ w'.cell? ⟨w.heap.size + 1, 2, none⟩ = some (.slice A na ca) ∧ w'.cell? ⟨w.heap.size + 1, 3, none⟩ = some (.int .i64 C) ∧ w'.cell? ⟨w.heap.size + 1, 4, none⟩ = some (.slice Z nz cz) ∧ w'.cell? ⟨w4.heap.size, 0, none⟩ = some (.slice O7 n7 c7) ∧ w'.cell? ⟨w4.heap.size, 1, none⟩ = some (.slice K7 m7 d7) ∧ Hid (Below w0.heap.size w0 w' ∧ Below w4.heap.size w4 w' ∧ Below w5.heap.size w5 w' ∧ Below w7.heap.size w7 w')) (E := []) (by kernel_rfl) (hS8.out _ (hBx8.out _ _ HBA8 ((Below.refl _ _).drew))) (fun hHeld => ?_)
          refine wpT_one (i := 0) (by kernel_rfl) rfl (fun K hK => ?_)
          go_simp
          refine (new_any _).mono ?_
          rintro e wA ⟨rfl, hbA⟩
          refine hK.out _ _ ?_ (fun hHeld => ?_)
          · exact hS8.out _ (hBx8.out _ _ hHeld.2.2.2.2.2.2.2.2.2 hbA)
          clear hK K
          try simp only [qq1, qq2, qq3, Act.put, qq4, qq5, qq6]
          refine wpT_one (i := 1) (by kernel_rfl) rfl (fun K hK => ?_)
          go_simp
          refine (none_any none 0 0 none 0 0 true (Lib.hid rfl) _).mono ?_
          rintro e wA ⟨rfl, hbA⟩
          refine hK.out _ _ ?_ (fun hHeld => ?_)
          · exact hS8.out _ (hBx8.out _ _ hHeld.2.2.2.2.2.2.2.2.2 hbA)
          clear hK K
          try simp only [qq1, qq2, qq3, Act.put, qq4, qq5, qq6]
          refine tkV 2 ?_
          try simp only [qq1, qq2, qq3, Act.put, qq4, qq5, qq6]
          refine tkV 3 ?_
          try simp only [qq1, qq2, qq3, Act.put, qq4, qq5, qq6]
          refine tkV 4 ?_
          try simp only [qq1, qq2, qq3, Act.put, qq4, qq5, qq6]
          refine tkV 6 ?_
          try simp only [qq1, qq2, qq3, Act.put, qq4, qq5, qq6]
          refine wpT_one (i := 5) (by kernel_rfl) rfl (fun K hK => ?_)
          go_simp
          refine (tval_any O os n c _ hs m d hn hm hI hb1 hb2 true HT _ (kD.out _ (Lib.hid (hHeld.2.2.2.2.2.2.2.2.2).out.1)) (kOs.out _ (Lib.hid (hHeld.2.2.2.2.2.2.2.2.2).out.1)) (kHs.out _ (Lib.hid (hHeld.2.2.2.2.2.2.2.2.2).out.1))).mono ?_
          rintro e wA ⟨rfl, hbA⟩
          refine hK.out _ _ ?_ (fun hHeld => ?_)
          · exact hS8.out _ (hBx8.out _ _ hHeld.2.2.2.2.2.2.2.2.2 hbA)
          clear hK K
          try simp only [qq1, qq2, qq3, Act.put, qq4, qq5, qq6]
          refine wpT_one (i := 7) (by kernel_rfl) rfl (fun K hK => ?_)
          go_simp
          refine (rtval_any O os n c _ hs m d hn hm hI hb1 hb2 true HT _ (kD.out _ (Lib.hid (hHeld.2.2.2.2.2.2.2.2.2).out.1)) (kOs.out _ (Lib.hid (hHeld.2.2.2.2.2.2.2.2.2).out.1)) (kHs.out _ (Lib.hid (hHeld.2.2.2.2.2.2.2.2.2).out.1))).mono ?_
          rintro e wA ⟨rfl, hbA⟩
          refine hK.out _ _ ?_ (fun hHeld => ?_)
          · exact hS8.out _ (hBx8.out _ _ hHeld.2.2.2.2.2.2.2.2.2 hbA)
          clear hK K
          try simp only [qq1, qq2, qq3, Act.put, qq4, qq5, qq6]
          refine tkV 8 ?_
          try simp only [qq1, qq2, qq3, Act.put, qq4, qq5, qq6]
          refine tkV 9 ?_
          try simp only [qq1, qq2, qq3, Act.put, qq4, qq5, qq6]
          refine wpT_done (by kernel_rfl) ?_ _
          obtain ⟨x0, x1, x2, x3, x4, x5, x6, x7, x8, FB8⟩ := hHeld
          clear x0 x1 x2 x3 x4 x5 x6 x7 x8 hS8 hBx8 HBA8
          have HL8_w0 := Lib.hid FB8.out.1
          have HL8_w4 := Lib.hid FB8.out.2.1
          have HL8_w5 := Lib.hid FB8.out.2.2.1
          have HL8_w7 := Lib.hid FB8.out.2.2.2
          obtain ⟨zc0, zc1, zc2, zc3, zc4, zc5, zc6⟩ := kC.out _ HL8_w0
          obtain ⟨kN_0, kN_1⟩ := kN.out _ HL8_w5
          go_wp2_with fail
          refine (rtval_any O os n c K hs m d hn hm hI hb1 hb2 true HT _ (kD.out _ HL8_w0) (kOs.out _ HL8_w0) (kHs.out _ HL8_w0)).mono ?_
          rintro e w9 ⟨rfl, hb0⟩
          have HB_9 := Lib.hid (below_ext HL8_w0.out hb0)
          have HB_w4_9 := Lib.hid (below_ext HL8_w4.out hb0)
          have HB_w5_9 := Lib.hid (below_ext HL8_w5.out hb0)
          have HB_w7_9 := Lib.hid (below_ext HL8_w7.out hb0)
          clear zc0 zc1 zc2 zc3 zc4 zc5 zc6 kN_0 kN_1
          clear hb0
          obtain ⟨zc0, zc1, zc2, zc3, zc4, zc5, zc6⟩ := kC.out _ HB_9
          obtain ⟨kN_0, kN_1⟩ := kN.out _ HB_w5_9
          go_wp2
          have HQ_w0 := HB_9
          have HQ_w4 := HB_w4_9
          have HQ_w5 := HB_w5_9
          have HQ_w7 := HB_w7_9
          have HB1 := HQ_w0
          clear zc0 zc1 zc2 zc3 zc4 zc5 zc6 kN_0 kN_1
          go_loopw [15, 99] (fun v i u => ∃ k : Nat, k ≤ n ∧ i = .int .i64 k ∧ Hid (OwnL u w9.heap.size v (trcL os k)) ∧ Hid (Below w9.heap.size w9 u)) (fun _ i _ => n - (intOf i).toNat)
          case atStart => exact ⟨0, by omega, rfl, Lib.hid (ownL_nil _ _), Lib.hid (Below.refl _ _)⟩
          case round =>
            obtain ⟨k, hk, rfl, HOW, HBr⟩ := hrel
            have HBq : Hid (Below w0.heap.size w0 wr) := Lib.hid (below_ext HB1.out HBr.out)
            by_cases hlt : k < n
            · obtain ⟨bO, fO, hOe, hnine, _⟩ := (kOs.out _ HBq).out k (by rw [hn.out]; exact hlt)
              subst hOe
              obtain ⟨o, hoe⟩ : ∃ x, orL os k = x := ⟨_, rfl⟩
              rw [show os.getD k noOrd = o from hoe] at hnine
              have HST : Hid (trcL os (k + 1) = if o.key = 0 then trcL os k else trcL os k ++ [o.key]) := Lib.hid (by rw [trcL, hoe])
              have HLN := Lib.hid (trcL_len os k)
              obtain ⟨T, hT⟩ : ∃ x, trcL os k = x := ⟨_, rfl⟩
              rw [hT] at HST HOW HLN
              clear hoe hT
              obtain ⟨j0, j1, j2, j3, j4, j5, j6, j7, j8⟩ := hnine
              have HBa := Lib.hid (below_box0 wr (orO o))
              have hb5 : (wr.alloc (orO o)).heap[wr.heap.size]? = some (orO o) := heap_alloc_new _ _
              have x8 : (wr.alloc (orO o)).cell? ⟨wr.heap.size, 8, none⟩ = some (.int .i64 o.key) := cell_blk hb5 8
              clear hb5
              cases hk0 : (o.key == 0) with
              | true =>
                have e3 : (o.key != 0) = false := by rw [bne, hk0]; rfl
                have HT2 : Hid (OwnL (wr.alloc (orO o)) w9.heap.size u15 (trcL os (k + 1))) := Lib.hid (by rw [HST.out, if_pos (by simpa using hk0)]; exact HOW.out.keep HBa.out)
                have HB2 : Hid (Below w9.heap.size w9 (wr.alloc (orO o))) := Lib.hid (below_ext HBr.out HBa.out)
                clear hk0
                go_wp2
                go_roundw
                case rel => exact ⟨k + 1, by omega, by go_num, HT2, HB2⟩
                case measure => simp [intOf]; omega
              | false =>
                have e3 : (o.key != 0) = true := by rw [bne, hk0]; rfl
                have HST2 : Hid (trcL os (k + 1) = T ++ [o.key]) := Lib.hid (by rw [HST.out, if_neg (by simpa using hk0)])
                clear hk0
                obtain ⟨q, hq⟩ : ∃ x, T.length = x := ⟨_, rfl⟩
                have HQ := Lib.hid hq
                have hql : q ≤ k := by rw [← hq]; exact HLN.out
                have HOA : Hid (OwnL (wr.alloc (orO o)) w9.heap.size u15 T) := Lib.hid (HOW.out.keep HBa.out)
                have hbs : w9.heap.size ≤ (wr.alloc (orO o)).heap.size := by have := HBr.out.size; simp; omega
                have hown : (wr.alloc (orO o)).ownsRow w9.heap.size 3 1 u15 q (T.map (Value.int .i64)) := by
                  have h3 := HOA.out
                  unfold OwnL at h3
                  rwa [hq] at h3
                clear hq
                go_upto_region 15 with (fail)
                obtain ⟨wx, hwx⟩ : ∃ x, wr.alloc (orO o) = x := ⟨_, rfl⟩
                rw [hwx] at x8 hown HOA HBa hbs ⊢
                clear hwx j0 j1 j2 j3 j4 j5 j6 j7 j8
                go_wp2_with (at_builtin; refine wpList_append_own _ rfl _ _ 26 rfl w9.heap.size 3 i0 (.int .i64 0) 1 8 Tryd.underlying26 hi hz0 hz1 hz2 rfl (by decide) _ _ _ rfl (hown.alloc _) ⟨wx.heap.size, 0, none⟩ 1 1 [.int .i64 o.key] rfl rfl (cell_one_new _ _ _) (ints_oneCell .i64 [o.key]) (by unfold maxLen; omega) (by omega) (by simp; omega) ?_; intro v' w3 hown1 hgrow1 _)
                have HT2 : Hid (OwnL w3 w9.heap.size v' (trcL os (k + 1))) := Lib.hid (by rw [HST2.out]; exact OwnL.app HQ.out.symm hown1)
                have HB2 : Hid (Below w9.heap.size w9 w3) := Lib.hid (HOA.out.below (below_ext HBr.out HBa.out) hbs hgrow1)
                clear hown hown1 hgrow1
                go_roundw
                case rel => exact ⟨k + 1, by omega, by go_num, HT2, HB2⟩
                case measure => simp [intOf]; omega
            · have hke : k = n := by omega
              rw [hke] at HOW
              have HR_w0 := Lib.hid (below_ext HQ_w0.out HBr.out)
              have HR_w4 := Lib.hid (below_ext HQ_w4.out HBr.out)
              have HR_w5 := Lib.hid (below_ext HQ_w5.out HBr.out)
              have HR_w7 := Lib.hid (below_ext HQ_w7.out HBr.out)
              obtain ⟨wx, rfl⟩ : ∃ wx : World, wx = wr := ⟨_, rfl⟩
              have HB_wx_9 : Hid (Below wx.heap.size wx wx) := Lib.hid (Below.refl _ _)
              obtain ⟨A9, c9, hv9, hs9, _⟩ := OwnL.sl HOW.out
              subst hv9
              have HS9 := Lib.hid hs9
              obtain ⟨TL, hTL⟩ : ∃ x, (trcL os n).length = x := ⟨_, rfl⟩
              have HTLE := Lib.hid hTL
              have htl : TL < 1000000 := by rw [← hTL]; have := trcL_len os n; omega
              rw [hTL]
              obtain ⟨hq9, hhq⟩ : ∃ x, befL hs m = x := ⟨_, rfl⟩
              have HHQ := Lib.hid hhq
              have HL32 : Hid (hq9.length = 32) := Lib.hid (by rw [← hhq]; exact hl32)
              have HEQ : Hid ((!(hq9 == hq9)) = false) := Lib.hid (by simp)
              clear hs9 hTL HOW hhq
              have kS9 := Lib.hid (show ∀ u : World, Hid (Below wx.heap.size wx u) → Hid (Sl u A9 (trcL os n)) from fun u h => Lib.hid (HS9.out.below h.out))
              obtain ⟨zc0, zc1, zc2, zc3, zc4, zc5, zc6⟩ := kC.out _ HR_w0
              obtain ⟨kN_0, kN_1⟩ := kN.out _ HR_w5
              go_upto_region 17 with (fail)
              clear zc0 zc1 zc2 zc3 zc4 zc5 zc6 kN_0 kN_1
              have hBx10 := Lib.hid (show ∀ u u2 : World, Hid (Below w0.heap.size w0 u ∧ Below w4.heap.size w4 u ∧ Below w5.heap.size w5 u ∧ Below w7.heap.size w7 u ∧ Below wx.heap.size wx u) → Below u.heap.size u u2 → Hid (Below w0.heap.size w0 u2 ∧ Below w4.heap.size w4 u2 ∧ Below w5.heap.size w5 u2 ∧ Below w7.heap.size w7 u2 ∧ Below wx.heap.size wx u2) from fun u u2 h1 h2 => Lib.hid ⟨(below_ext h1.out.1 h2), (below_ext h1.out.2.1 h2), (below_ext h1.out.2.2.1 h2), (below_ext h1.out.2.2.2.1 h2), (below_ext h1.out.2.2.2.2 h2)⟩)
              have hS10 := Lib.hid (show ∀ u : World, Hid (Below w0.heap.size w0 u ∧ Below w4.heap.size w4 u ∧ Below w5.heap.size w5 u ∧ Below w7.heap.size w7 u ∧ Below wx.heap.size wx u) → (u.cell? ⟨w.heap.size, 0, none⟩ = some (.slice O n c) ∧ u.cell? ⟨w.heap.size, 1, none⟩ = some (.slice K m d) ∧ u.cell? ⟨w.heap.size + 1, 0, none⟩ = some (.int .i64 E1) ∧ u.cell? ⟨w.heap.size + 1, 1, none⟩ = some (.int .i64 E2) ∧ u.cell? ⟨w.heap.size + 1, 2, none⟩ = some (.slice A na ca) ∧ u.cell? ⟨w.heap.size + 1, 3, none⟩ = some (.int .i64 C) ∧ u.cell? ⟨w.heap.size + 1, 4, none⟩ = some (.slice Z nz cz) ∧ u.cell? ⟨w4.heap.size, 0, none⟩ = some (.slice O7 n7 c7) ∧ u.cell? ⟨w4.heap.size, 1, none⟩ = some (.slice K7 m7 d7) ∧ Hid (Below w0.heap.size w0 u ∧ Below w4.heap.size w4 u ∧ Below w5.heap.size w5 u ∧ Below w7.heap.size w7 u ∧ Below wx.heap.size wx u)) from fun u h1 => by
                obtain ⟨y0, y1, y2, y3, y4, y5, y6⟩ := kC.out _ (Lib.hid h1.out.1)
                obtain ⟨kN_0, kN_1⟩ := kN.out _ (Lib.hid h1.out.2.2.1)
                exact ⟨y0, y1, y2, y3, y4, y5, y6, kN_0, kN_1, h1⟩)
              have HBA10 : Hid (Below w0.heap.size w0 wx ∧ Below w4.heap.size w4 wx ∧ Below w5.heap.size w5 wx ∧ Below w7.heap.size w7 wx ∧ Below wx.heap.size wx wx) := Lib.hid ⟨HR_w0.out, HR_w4.out, HR_w5.out, HR_w7.out, HB_wx_9.out⟩
              refine wp_region_T (S := fun w' => w'.cell? ⟨w.heap.size, 0, none⟩ = some (.slice O n c) ∧ w'.cell? ⟨w.heap.size, 1, none⟩ = some (.slice K m d) ∧ w'.cell? ⟨w.heap.size + 1, 0, none⟩ = some (.int .i64 E1) ∧ w'.cell? ⟨w.heap.size + 1, 1, none⟩ = some (.int .i64 E2) ∧ w'.cell? ⟨w.heap.size + 1, 2, none⟩ = some (.slice A na ca) ∧ w'.cell? ⟨w.heap.size + 1, 3, none⟩ = some (.int .i64 C) ∧ w'.cell? ⟨w.heap.size + 1, 4, none⟩ = some (.slice Z nz cz) ∧ w'.cell? ⟨w4.heap.size, 0, none⟩ = some (.slice O7 n7 c7) ∧ w'.cell? ⟨w4.heap.size, 1, none⟩ = some (.slice K7 m7 d7) ∧ Hid (Below w0.heap.size w0 w' ∧ Below w4.heap.size w4 w' ∧ Below w5.heap.size w5 w' ∧ Below w7.heap.size w7 w' ∧ Below wx.heap.size wx w')) (E := []) (by kernel_rfl) (hS10.out _ (hBx10.out _ _ HBA10 ((Below.refl _ _).drew))) (fun hHeld => ?_)
              refine tkV 0 ?_
              try simp only [qq1, qq2, qq3, Act.put, qq4, qq5, qq6]
              refine tkV 1 ?_
              try simp only [qq1, qq2, qq3, Act.put, qq4, qq5, qq6]
              refine wpT_one (i := 2) (by kernel_rfl) rfl (fun K hK => ?_)
              go_simp
              refine (eqs_any A8 (trcL os n) TL c8 A9 (trcL os n) TL c9 true (Lib.hid (by simp)) HTLE HTLE htl htl _ (kS8.out _ (Lib.hid (hHeld.2.2.2.2.2.2.2.2.2).out.2.2.2.1)) (kS9.out _ (Lib.hid (hHeld.2.2.2.2.2.2.2.2.2).out.2.2.2.2))).mono ?_
              rintro e wA ⟨rfl, hbA⟩
              refine hK.out _ _ ?_ (fun hHeld => ?_)
              · exact hS10.out _ (hBx10.out _ _ hHeld.2.2.2.2.2.2.2.2.2 hbA)
              clear hK K
              try simp only [qq1, qq2, qq3, Act.put, qq4, qq5, qq6]
              refine tkV 3 ?_
              try simp only [qq1, qq2, qq3, Act.put, qq4, qq5, qq6]
              refine tkV 4 ?_
              try simp only [qq1, qq2, qq3, Act.put, qq4, qq5, qq6]
              refine tkV 5 ?_
              try simp only [qq1, qq2, qq3, Act.put, qq4, qq5, qq6]
              refine tkV 7 ?_
              try simp only [qq1, qq2, qq3, Act.put, qq4, qq5, qq6]
              refine tkV 8 ?_
              try simp only [qq1, qq2, qq3, Act.put, qq4, qq5, qq6]
              refine tkV 9 ?_
              try simp only [qq1, qq2, qq3, Act.put, qq4, qq5, qq6]
              refine tkV 10 ?_
              try simp only [qq1, qq2, qq3, Act.put, qq4, qq5, qq6]
              refine wpT_one (i := 6) (by kernel_rfl) rfl (fun K hK => ?_)
              go_simp
              refine (dig_t O os n c _ hs m d hn hm hI hb1 hb2 hl32 HT _ (kD.out _ (Lib.hid (hHeld.2.2.2.2.2.2.2.2.2).out.1)) (kOs.out _ (Lib.hid (hHeld.2.2.2.2.2.2.2.2.2).out.1)) (kHs.out _ (Lib.hid (hHeld.2.2.2.2.2.2.2.2.2).out.1))).mono ?_
              rintro e wA ⟨rfl, hbA⟩
              rw [HHQ.out]
              refine hK.out _ _ ?_ (fun hHeld => ?_)
              · exact hS10.out _ (hBx10.out _ _ hHeld.2.2.2.2.2.2.2.2.2 hbA)
              clear hK K
              try simp only [qq1, qq2, qq3, Act.put, qq4, qq5, qq6]
              refine wpT_one (i := 11) (by kernel_rfl) rfl (fun K hK => ?_)
              go_simp
              refine (rbefore_any O n c _ hs m d m hm (Nat.le_refl _) hb2 _ (kHs.out _ (Lib.hid (hHeld.2.2.2.2.2.2.2.2.2).out.1))).mono ?_
              rintro e wA ⟨rfl, hbA⟩
              rw [HHQ.out]
              refine hK.out _ _ ?_ (fun hHeld => ?_)
              · exact hS10.out _ (hBx10.out _ _ hHeld.2.2.2.2.2.2.2.2.2 hbA)
              clear hK K
              try simp only [qq1, qq2, qq3, Act.put, qq4, qq5, qq6]
              refine wpT_take (i := 12) (oi := _) (v := (.bool false)) rfl (by kernel_rfl) (by kernel_rfl) (by kernel_rfl) (by kernel_rfl) (fun _ _ _ h => h) (Or.inl ⟨by rfl, yields_neq_hash _ _ _ rfl hq9 hq9 HL32.out HL32.out rfl rfl false HEQ.out⟩) (by assumption) ?_
              try simp only [qq1, qq2, qq3, Act.put, qq4, qq5, qq6]
              refine tkV 13 ?_
              try simp only [qq1, qq2, qq3, Act.put, qq4, qq5, qq6]
              refine wpT_done (by kernel_rfl) ?_ _
              obtain ⟨x0, x1, x2, x3, x4, x5, x6, x7, x8, FB10⟩ := hHeld
              clear x0 x1 x2 x3 x4 x5 x6 x7 x8 hS10 hBx10 HBA10
              have HL10_w0 := Lib.hid FB10.out.1
              have HL10_w4 := Lib.hid FB10.out.2.1
              have HL10_w5 := Lib.hid FB10.out.2.2.1
              have HL10_w7 := Lib.hid FB10.out.2.2.2.1
              have HL10_wx := Lib.hid FB10.out.2.2.2.2
              obtain ⟨zc0, zc1, zc2, zc3, zc4, zc5, zc6⟩ := kC.out _ HL10_w0
              obtain ⟨kN_0, kN_1⟩ := kN.out _ HL10_w5
              rcases HLB.out with ⟨hor, hSe, h93⟩ | ⟨⟨hi0, hin⟩, hSl, h93⟩
              · skip
                subst h93
                clear HLB
                subst hSe
                rcases hor with hneg | hge
                · skip
                  have e1 : decide (i < 0) = true := by simpa using hneg
                  rcases HOP.out with ⟨hb, rfl, rfl, rfl, rfl⟩ | ⟨⟨hr1, hr2⟩, hmn, rfl, rfl, rfl, rfl⟩ | ⟨⟨hr1, hr2⟩, hmn, h100, rfl, rfl, rfl, rfl⟩ | ⟨⟨hr1, hr2⟩, hmn, h100, rfl, em7, rfl, rfl, eh7, hl7, hsm⟩
                  · skip
                    clear HOP
                    by_cases z1 : s.size < 1
                    · skip
                      have y1 : decide ((s.size : Int) < 1) = true := by simp; omega
                      go_wp2_with fail
                      refine (none_any O7 0 c7 K7 0 d7 true (Lib.hid rfl) _).mono ?_
                      rintro e w11 ⟨rfl, hb0⟩
                      have HB_11 := Lib.hid (below_ext HL10_w0.out hb0)
                      have HB_w4_11 := Lib.hid (below_ext HL10_w4.out hb0)
                      have HB_w5_11 := Lib.hid (below_ext HL10_w5.out hb0)
                      have HB_w7_11 := Lib.hid (below_ext HL10_w7.out hb0)
                      have HB_wx_11 := Lib.hid (below_ext HL10_wx.out hb0)
                      clear zc0 zc1 zc2 zc3 zc4 zc5 zc6 kN_0 kN_1
                      clear hb0
                      obtain ⟨zc0, zc1, zc2, zc3, zc4, zc5, zc6⟩ := kC.out _ HB_11
                      obtain ⟨kN_0, kN_1⟩ := kN.out _ HB_w5_11
                      have hbF := below_ext HBw.out HB_11.out
                      go_wp2
                      go_ret
                      exact ⟨rfl, hbF⟩
                    · skip
                      have y1 : decide ((s.size : Int) < 1) = false := by simp; omega
                      by_cases z2 : 200 < s.size
                      · skip
                        have y2 : decide ((200 : Int) < (s.size : Int)) = true := by simp; omega
                        go_wp2_with fail
                        refine (none_any O7 0 c7 K7 0 d7 true (Lib.hid rfl) _).mono ?_
                        rintro e w11 ⟨rfl, hb0⟩
                        have HB_11 := Lib.hid (below_ext HL10_w0.out hb0)
                        have HB_w4_11 := Lib.hid (below_ext HL10_w4.out hb0)
                        have HB_w5_11 := Lib.hid (below_ext HL10_w5.out hb0)
                        have HB_w7_11 := Lib.hid (below_ext HL10_w7.out hb0)
                        have HB_wx_11 := Lib.hid (below_ext HL10_wx.out hb0)
                        clear zc0 zc1 zc2 zc3 zc4 zc5 zc6 kN_0 kN_1
                        clear hb0
                        obtain ⟨zc0, zc1, zc2, zc3, zc4, zc5, zc6⟩ := kC.out _ HB_11
                        obtain ⟨kN_0, kN_1⟩ := kN.out _ HB_w5_11
                        have hbF := below_ext HBw.out HB_11.out
                        go_wp2
                        go_ret
                        exact ⟨rfl, hbF⟩
                      · skip
                        have y2 : decide ((200 : Int) < (s.size : Int)) = false := by simp; omega
                        have hsh : shB na nz = false := by rcases hb with e | e; exact absurd e (by simp [rsB]; omega); exact e
                        go_wp2_with fail
                        refine (rshort_any A na ca C Z nz cz false (Lib.hid hsh) _).mono ?_
                        rintro e w11 ⟨rfl, hb0⟩
                        have HB_11 := Lib.hid (below_ext HL10_w0.out hb0)
                        have HB_w4_11 := Lib.hid (below_ext HL10_w4.out hb0)
                        have HB_w5_11 := Lib.hid (below_ext HL10_w5.out hb0)
                        have HB_w7_11 := Lib.hid (below_ext HL10_w7.out hb0)
                        have HB_wx_11 := Lib.hid (below_ext HL10_wx.out hb0)
                        clear zc0 zc1 zc2 zc3 zc4 zc5 zc6 kN_0 kN_1
                        clear hb0
                        obtain ⟨zc0, zc1, zc2, zc3, zc4, zc5, zc6⟩ := kC.out _ HB_11
                        obtain ⟨kN_0, kN_1⟩ := kN.out _ HB_w5_11
                        go_wp2_with fail
                        refine (none_any O7 0 c7 K7 0 d7 true (Lib.hid rfl) _).mono ?_
                        rintro e w12 ⟨rfl, hb0⟩
                        have HB_12 := Lib.hid (below_ext HB_11.out hb0)
                        have HB_w4_12 := Lib.hid (below_ext HB_w4_11.out hb0)
                        have HB_w5_12 := Lib.hid (below_ext HB_w5_11.out hb0)
                        have HB_w7_12 := Lib.hid (below_ext HB_w7_11.out hb0)
                        have HB_wx_12 := Lib.hid (below_ext HB_wx_11.out hb0)
                        clear zc0 zc1 zc2 zc3 zc4 zc5 zc6 kN_0 kN_1
                        clear hb0
                        obtain ⟨zc0, zc1, zc2, zc3, zc4, zc5, zc6⟩ := kC.out _ HB_12
                        obtain ⟨kN_0, kN_1⟩ := kN.out _ HB_w5_12
                        have hbF := below_ext HBw.out HB_12.out
                        go_wp2
                        go_ret
                        exact ⟨rfl, hbF⟩
                  · skip
                    clear HOP
                    have HSH : Hid (shB na nz = true) := Lib.hid hr2
                    have hrb := rs_b hr1
                    have y1 : decide ((s.size : Int) < 1) = false := by simp; omega
                    have y2 : decide ((200 : Int) < (s.size : Int)) = false := by simp; omega
                    go_wp2_with fail
                    refine (rshort_any A na ca C Z nz cz true HSH _).mono ?_
                    rintro e w11 ⟨rfl, hb0⟩
                    have HB_11 := Lib.hid (below_ext HL10_w0.out hb0)
                    have HB_w4_11 := Lib.hid (below_ext HL10_w4.out hb0)
                    have HB_w5_11 := Lib.hid (below_ext HL10_w5.out hb0)
                    have HB_w7_11 := Lib.hid (below_ext HL10_w7.out hb0)
                    have HB_wx_11 := Lib.hid (below_ext HL10_wx.out hb0)
                    clear zc0 zc1 zc2 zc3 zc4 zc5 zc6 kN_0 kN_1
                    clear hb0
                    obtain ⟨zc0, zc1, zc2, zc3, zc4, zc5, zc6⟩ := kC.out _ HB_11
                    obtain ⟨kN_0, kN_1⟩ := kN.out _ HB_w5_11
                    have y3 : decide ((m : Int) < (n : Int)) = true := by simp; omega
                    go_wp2_with fail
                    refine (none_any O7 0 c7 K7 0 d7 true (Lib.hid rfl) _).mono ?_
                    rintro e w12 ⟨rfl, hb0⟩
                    have HB_12 := Lib.hid (below_ext HB_11.out hb0)
                    have HB_w4_12 := Lib.hid (below_ext HB_w4_11.out hb0)
                    have HB_w5_12 := Lib.hid (below_ext HB_w5_11.out hb0)
                    have HB_w7_12 := Lib.hid (below_ext HB_w7_11.out hb0)
                    have HB_wx_12 := Lib.hid (below_ext HB_wx_11.out hb0)
                    clear zc0 zc1 zc2 zc3 zc4 zc5 zc6 kN_0 kN_1
                    clear hb0
                    obtain ⟨zc0, zc1, zc2, zc3, zc4, zc5, zc6⟩ := kC.out _ HB_12
                    obtain ⟨kN_0, kN_1⟩ := kN.out _ HB_w5_12
                    have hbF := below_ext HBw.out HB_12.out
                    go_wp2
                    go_ret
                    exact ⟨rfl, hbF⟩
                  · skip
                    clear HOP
                    have HSH : Hid (shB na nz = true) := Lib.hid hr2
                    have hrb := rs_b hr1
                    have y1 : decide ((s.size : Int) < 1) = false := by simp; omega
                    have y2 : decide ((200 : Int) < (s.size : Int)) = false := by simp; omega
                    go_wp2_with fail
                    refine (rshort_any A na ca C Z nz cz true HSH _).mono ?_
                    rintro e w11 ⟨rfl, hb0⟩
                    have HB_11 := Lib.hid (below_ext HL10_w0.out hb0)
                    have HB_w4_11 := Lib.hid (below_ext HL10_w4.out hb0)
                    have HB_w5_11 := Lib.hid (below_ext HL10_w5.out hb0)
                    have HB_w7_11 := Lib.hid (below_ext HL10_w7.out hb0)
                    have HB_wx_11 := Lib.hid (below_ext HL10_wx.out hb0)
                    clear zc0 zc1 zc2 zc3 zc4 zc5 zc6 kN_0 kN_1
                    clear hb0
                    obtain ⟨zc0, zc1, zc2, zc3, zc4, zc5, zc6⟩ := kC.out _ HB_11
                    obtain ⟨kN_0, kN_1⟩ := kN.out _ HB_w5_11
                    have y3 : decide ((m : Int) < (n : Int)) = false := by simp; omega
                    have y4 : decide ((100 : Int) ≤ (n : Int)) = true := by simp; omega
                    clear h100
                    go_wp2_with fail
                    refine (none_any O7 0 c7 K7 0 d7 true (Lib.hid rfl) _).mono ?_
                    rintro e w12 ⟨rfl, hb0⟩
                    have HB_12 := Lib.hid (below_ext HB_11.out hb0)
                    have HB_w4_12 := Lib.hid (below_ext HB_w4_11.out hb0)
                    have HB_w5_12 := Lib.hid (below_ext HB_w5_11.out hb0)
                    have HB_w7_12 := Lib.hid (below_ext HB_w7_11.out hb0)
                    have HB_wx_12 := Lib.hid (below_ext HB_wx_11.out hb0)
                    clear zc0 zc1 zc2 zc3 zc4 zc5 zc6 kN_0 kN_1
                    clear hb0
                    obtain ⟨zc0, zc1, zc2, zc3, zc4, zc5, zc6⟩ := kC.out _ HB_12
                    obtain ⟨kN_0, kN_1⟩ := kN.out _ HB_w5_12
                    have hbF := below_ext HBw.out HB_12.out
                    go_wp2
                    go_ret
                    exact ⟨rfl, hbF⟩
                  · skip
                    clear HOP
                    have em8 := em7.symm
                    have eh8 := eh7.symm
                    subst em8
                    subst eh8
                    have HSH : Hid (shB na nz = true) := Lib.hid hr2
                    have hrb := rs_b hr1
                    have y1 : decide ((s.size : Int) < 1) = false := by simp; omega
                    have y2 : decide ((200 : Int) < (s.size : Int)) = false := by simp; omega
                    go_wp2_with fail
                    refine (rshort_any A na ca C Z nz cz true HSH _).mono ?_
                    rintro e w11 ⟨rfl, hb0⟩
                    have HB_11 := Lib.hid (below_ext HL10_w0.out hb0)
                    have HB_w4_11 := Lib.hid (below_ext HL10_w4.out hb0)
                    have HB_w5_11 := Lib.hid (below_ext HL10_w5.out hb0)
                    have HB_w7_11 := Lib.hid (below_ext HL10_w7.out hb0)
                    have HB_wx_11 := Lib.hid (below_ext HL10_wx.out hb0)
                    clear zc0 zc1 zc2 zc3 zc4 zc5 zc6 kN_0 kN_1
                    clear hb0
                    obtain ⟨zc0, zc1, zc2, zc3, zc4, zc5, zc6⟩ := kC.out _ HB_11
                    obtain ⟨kN_0, kN_1⟩ := kN.out _ HB_w5_11
                    have y3 : decide ((m : Int) < (n : Int)) = false := by simp; omega
                    have y4 : decide ((100 : Int) ≤ (n : Int)) = false := by simp; omega
                    have HL7 := Lib.hid hl7
                    have HSM := Lib.hid hsm
                    clear hl7 hsm
                    have hnp : ∀ k, k < n → (orL os k).np ≤ 1000000 := fun k hk => by
                      obtain ⟨_, _, _, _, hok⟩ := hO.out k (by rw [hn.out]; exact hk)
                      have := (hSo k hk).n
                      have := hok.2.2.1.1
                      have e : (orL os k).ps.length = (orL os k).np := this
                      omega
                    go_wp2_with fail
                    have HBc : Hid (Below w.heap.size w w11) := Lib.hid (below_ext HBw.out HB_11.out)
                    refine (copy_c n _ os n c K hs m d hn hm hb1 hb2 hnp w hO _ HBc (kHs.out _ HB_11)).mono ?_
                    rintro e w12 ⟨O8, c8, K8, d8, os8, B8, Li8, rfl, hcl, hb0⟩
                    have HCL := Lib.hid hcl
                    clear hcl
                    have HB_12 := Lib.hid (below_ext HB_11.out hb0)
                    have HB_w4_12 := Lib.hid (below_ext HB_w4_11.out hb0)
                    have HB_w5_12 := Lib.hid (below_ext HB_w5_11.out hb0)
                    have HB_w7_12 := Lib.hid (below_ext HB_w7_11.out hb0)
                    have HB_wx_12 := Lib.hid (below_ext HB_wx_11.out hb0)
                    clear zc0 zc1 zc2 zc3 zc4 zc5 zc6 kN_0 kN_1
                    clear hb0
                    obtain ⟨zc0, zc1, zc2, zc3, zc4, zc5, zc6⟩ := kC.out _ HB_12
                    obtain ⟨kN_0, kN_1⟩ := kN.out _ HB_w5_12
                    have HB_w12_12 : Hid (Below w12.heap.size w12 w12) := Lib.hid (Below.refl _ _)
                    have hq := below_box0 w12 (tlO O8 n c8 K8 m d8)
                    have HB_13 := Lib.hid (below_ext HB_12.out hq)
                    have HB_w4_13 := Lib.hid (below_ext HB_w4_12.out hq)
                    have HB_w5_13 := Lib.hid (below_ext HB_w5_12.out hq)
                    have HB_w7_13 := Lib.hid (below_ext HB_w7_12.out hq)
                    have HB_wx_13 := Lib.hid (below_ext HB_wx_12.out hq)
                    have HB_w12_13 := Lib.hid (below_ext HB_w12_12.out hq)
                    have hc : (w12.alloc (tlO O8 n c8 K8 m d8)).cell? ⟨w12.heap.size, 0, none⟩ = some (.slice O8 n c8) ∧ (w12.alloc (tlO O8 n c8 K8 m d8)).cell? ⟨w12.heap.size, 1, none⟩ = some (.slice K8 m d8) := ⟨allocs_cell rfl (by rfl), allocs_cell rfl (by rfl)⟩
                    have HC13 := Lib.hid hc
                    have HK13 := Lib.hid (heap_alloc_new w12 (tlO O8 n c8 K8 m d8))
                    clear zc0 zc1 zc2 zc3 zc4 zc5 zc6 kN_0 kN_1
                    clear hq
                    obtain ⟨zc0, zc1, zc2, zc3, zc4, zc5, zc6⟩ := kC.out _ HB_13
                    obtain ⟨kN_0, kN_1⟩ := kN.out _ HB_w5_13
                    obtain ⟨zq0, zq1⟩ := hc
                    go_upto_region 31 with (fail)
                    obtain ⟨w13, hw⟩ : ∃ x, (w12.alloc (tlO O8 n c8 K8 m d8)) = x := ⟨_, rfl⟩
                    rw [hw] at HC13 HK13 HB_13 HB_w4_13 HB_w5_13 HB_w7_13 HB_wx_13 HB_w12_13 ⊢
                    have HSN13 : Hid (w13.heap.size = w12.heap.size + 1) := Lib.hid (by rw [← hw]; simp)
                    clear zc0 zc1 zc2 zc3 zc4 zc5 zc6 kN_0 kN_1 zq0 zq1
                    clear hw
                    have HB_w13_13 : Hid (Below w13.heap.size w13 w13) := Lib.hid (Below.refl _ _)
                    have kG := Lib.hid (show ∀ u : World, Hid (Below w13.heap.size w13 u) → u.cell? ⟨w12.heap.size, 0, none⟩ = some (.slice O8 n c8) ∧ u.cell? ⟨w12.heap.size, 1, none⟩ = some (.slice K8 m d8) from fun u h => ⟨cell_below HC13.out.1 h.out, cell_below HC13.out.2 h.out⟩)
                    obtain ⟨zc0, zc1, zc2, zc3, zc4, zc5, zc6⟩ := kC.out _ HB_13
                    obtain ⟨kN_0, kN_1⟩ := kN.out _ HB_w5_13
                    obtain ⟨kG_0, kG_1⟩ := kG.out _ HB_w13_13
                    have HC1 : Hid (Cld w.heap.size n w11.heap.size os n hs m O8 c8 K8 d8 os8 B8 w12.heap.size Li8 w13) := Lib.hid (HCL.out.below (HB_w12_13).out)
                    have hNu := HC1.out.Nu
                    have hBN := HC1.out.BN
                    have hlB := HC1.out.lB
                    have hlw := HC1.out.lwo
                    have HGB : Hid (w13.heap[w12.heap.size]? = some (tlO O8 n c8 K8 m d8)) := HK13
                    have f0 := frozen_blk HGB.out 0
                    have hown : (w13.alloc (.cells #[.int .i64 (n : Int), .string s, .int .i64 E1, .int .i64 E2, .slice A na ca, .int .i64 C, .slice Z nz cz, .slice none 0 0, .int .i64 0] 46)).ownsRow (B8 + 1) 46 9 (.slice O8 n c8) n (os8.flatMap ordC) := HC1.out.ro.alloc _
                    have b5 : n + 1 ≤ maxLen := by unfold maxLen; omega
                    have b6 : (n + 1) * 128 ≤ 140737488355328 := by omega
                    have b7 : B8 + 1 ≤ (w13.alloc (.cells #[.int .i64 (n : Int), .string s, .int .i64 E1, .int .i64 E2, .slice A na ca, .int .i64 C, .slice Z nz cz, .slice none 0 0, .int .i64 0] 46)).heap.size := by simp; omega
                    have hno8 : (Value.slice O8 n c8).ownBlock ≠ some w12.heap.size := fun e => by have := HC1.out.bo _ e; omega
                    have HTa := Lib.hid (below_box0 w13 (.cells #[.int .i64 (n : Int), .string s, .int .i64 E1, .int .i64 E2, .slice A na ca, .int .i64 C, .slice Z nz cz, .slice none 0 0, .int .i64 0] 46))
                    go_upto_region 32 with (at_builtin; refine wpList_append_lies rfl _ _ 22 rfl (B8 + 1) 46 i1 (.agg #[.int .i64 0, .string ⟨#[]⟩, .int .i64 0, .int .i64 0, .slice none 0 0, .int .i64 0, .slice none 0 0, .slice none 0 0, .int .i64 0]) 9 128 Tryd.underlying22 hi1 hy0 hy1 hy2 (by rfl) (by decide) _ _ _ rfl hown ⟨w13.heap.size, 0, none⟩ 1 1 [.int .i64 (n : Int), .string s, .int .i64 E1, .int .i64 E2, .slice A na ca, .int .i64 C, .slice Z nz cz, .slice none 0 0, .int .i64 0] rfl rfl (World.news_of_block (cs := #[.int .i64 (n : Int), .string s, .int .i64 E1, .int .i64 E2, .slice A na ca, .int .i64 C, .slice Z nz cz, .slice none 0 0, .int .i64 0]) (t := 46) (fr := (0, 0)) (heap_alloc_new w13 _)) (by simp [Value.oneCell']) (by decide) b5 b6 b7 _ rfl ?_; intro gg cap w8 hown8 hgrow8 hgg8 hlt8; obtain ⟨p1, p2⟩ := own_grown2 (w := w13.alloc (.cells #[.int .i64 (n : Int), .string s, .int .i64 E1, .int .i64 E2, .slice A na ca, .int .i64 C, .slice Z nz cz, .slice none 0 0, .int .i64 0] 46)) ((show Own w13 ⟨w12.heap.size, 0, none⟩ (.slice O8 n c8) from ⟨kG_0, f0⟩).below HTa.out) hgrow8 hno8; obtain ⟨p3, p4⟩ := own_grown2 (w := w13.alloc (.cells #[.int .i64 (n : Int), .string s, .int .i64 E1, .int .i64 E2, .slice A na ca, .int .i64 C, .slice Z nz cz, .slice none 0 0, .int .i64 0] 46)) ((show Own w13 ⟨w12.heap.size, 1, none⟩ (.slice K8 m d8) from ⟨kG_1, frozen_blk HGB.out 1⟩).below HTa.out) hgrow8 hno8)
                    clear zc0 zc1 zc2 zc3 zc4 zc5 zc6 kN_0 kN_1 kG_0 kG_1
                    have hgT : w12.heap.size < w13.heap.size := heap_lt HGB.out
                    have hsq : (w13.alloc (.cells #[.int .i64 (n : Int), .string s, .int .i64 E1, .int .i64 E2, .slice A na ca, .int .i64 C, .slice Z nz cz, .slice none 0 0, .int .i64 0] 46)).heap.size = w13.heap.size + 1 := by simp
                    have HOW9 : Hid (w8.ownsRow (B8 + 1) 46 9 (.slice (some ⟨gg, 0, none⟩) (n + 1) cap) (n + 1) (os8.flatMap ordC ++ ordC (⟨(n : Int), s, E1, E2, A, na, ca, al, C, Z, nz, cz, zs, none, 0, 0, [], 0⟩ : OrdR))) := Lib.hid (by simpa using hown8)
                    have HGG : Hid ((Value.slice O8 n c8).ownBlock = some gg ∨ w13.heap.size ≤ gg) := Lib.hid (by rcases hgg8 with e | e; exact .inl e; exact .inr (by omega))
                    obtain ⟨w9, hw9⟩ : ∃ x, w8.setCell ⟨w12.heap.size, 0, none⟩ (.slice (some ⟨gg, 0, none⟩) (n + 1) cap) = x := ⟨_, rfl⟩
                    have T0 : Own w9 ⟨w12.heap.size, 0, none⟩ (.slice (some ⟨gg, 0, none⟩) (n + 1) cap) := by rw [← hw9]; exact own_set_eq2 ⟨p1, p2⟩
                    have T1 : Own w9 ⟨w12.heap.size, 1, none⟩ (.slice K8 m d8) := by rw [← hw9]; exact own_set_ne2 ⟨p3, p4⟩ (by simp)
                    have HFR : Hid (∀ b, b < w13.heap.size → (Value.slice O8 n c8).ownBlock ≠ some b → b ≠ w12.heap.size → w9.heap[b]? = w13.heap[b]?) := Lib.hid (fun b h1 h2 h3 => by rw [← hw9]; exact (Go.Deep.blk_setCell_other _ _ _ _ h3).trans ((hgrow8.block b (by omega) (fun e => h2 e.symm)).trans (HTa.out.block b h1)))
                    have HGF : Hid (gg ≠ w12.heap.size ∧ w9.heap[gg]? = w8.heap[gg]?) := Lib.hid (by
                      have hne : gg ≠ w12.heap.size := by
                        rcases HGG.out with e | e
                        · exact fun e2 => hno8 (by rw [e, e2])
                        · omega
                      refine ⟨hne, ?_⟩
                      rw [← hw9]; exact Go.Deep.blk_setCell_other _ _ _ _ hne)
                    have HV_w0 : Hid (Below w0.heap.size w0 w9) := Lib.hid (by
                      have hc9 := HB_11.out.size
                      rw [← hw9]
                      exact ((HB_13.out.alloc HB_13.out.size (.cells #[.int .i64 (n : Int), .string s, .int .i64 E1, .int .i64 E2, .slice A na ca, .int .i64 C, .slice Z nz cz, .slice none 0 0, .int .i64 0] 46)).grown hgrow8 (by have := HB_13.out.size; simp; omega) (fun j hj => by have := HC1.out.bo j hj; omega)).setCell (show w0.heap.size ≤ w12.heap.size by omega) _)
                    have HV_w4 : Hid (Below w4.heap.size w4 w9) := Lib.hid (by
                      have hc9 := HB_w4_11.out.size
                      rw [← hw9]
                      exact ((HB_w4_13.out.alloc HB_w4_13.out.size (.cells #[.int .i64 (n : Int), .string s, .int .i64 E1, .int .i64 E2, .slice A na ca, .int .i64 C, .slice Z nz cz, .slice none 0 0, .int .i64 0] 46)).grown hgrow8 (by have := HB_w4_13.out.size; simp; omega) (fun j hj => by have := HC1.out.bo j hj; omega)).setCell (show w4.heap.size ≤ w12.heap.size by omega) _)
                    have HV_w5 : Hid (Below w5.heap.size w5 w9) := Lib.hid (by
                      have hc9 := HB_w5_11.out.size
                      rw [← hw9]
                      exact ((HB_w5_13.out.alloc HB_w5_13.out.size (.cells #[.int .i64 (n : Int), .string s, .int .i64 E1, .int .i64 E2, .slice A na ca, .int .i64 C, .slice Z nz cz, .slice none 0 0, .int .i64 0] 46)).grown hgrow8 (by have := HB_w5_13.out.size; simp; omega) (fun j hj => by have := HC1.out.bo j hj; omega)).setCell (show w5.heap.size ≤ w12.heap.size by omega) _)
                    have HV_w7 : Hid (Below w7.heap.size w7 w9) := Lib.hid (by
                      have hc9 := HB_w7_11.out.size
                      rw [← hw9]
                      exact ((HB_w7_13.out.alloc HB_w7_13.out.size (.cells #[.int .i64 (n : Int), .string s, .int .i64 E1, .int .i64 E2, .slice A na ca, .int .i64 C, .slice Z nz cz, .slice none 0 0, .int .i64 0] 46)).grown hgrow8 (by have := HB_w7_13.out.size; simp; omega) (fun j hj => by have := HC1.out.bo j hj; omega)).setCell (show w7.heap.size ≤ w12.heap.size by omega) _)
                    have HV_wx : Hid (Below wx.heap.size wx w9) := Lib.hid (by
                      have hc9 := HB_wx_11.out.size
                      rw [← hw9]
                      exact ((HB_wx_13.out.alloc HB_wx_13.out.size (.cells #[.int .i64 (n : Int), .string s, .int .i64 E1, .int .i64 E2, .slice A na ca, .int .i64 C, .slice Z nz cz, .slice none 0 0, .int .i64 0] 46)).grown hgrow8 (by have := HB_wx_13.out.size; simp; omega) (fun j hj => by have := HC1.out.bo j hj; omega)).setCell (show wx.heap.size ≤ w12.heap.size by omega) _)
                    have hbw9 : Below w.heap.size w w9 := below_ext HBw.out HV_w0.out
                    have hcs := HB_11.out.size
                    have hsw := HSW.out
                    have hokN : OrdOk w9 (⟨(n : Int), s, E1, E2, A, na, ca, al, C, Z, nz, cz, zs, none, 0, 0, [], 0⟩ : OrdR) := ⟨hna.out, hnz.out, ⟨rfl, Nat.le_refl _⟩, hA.out.below hbw9, hZ.out.below hbw9, fun j hj => absurd hj (by simp)⟩
                    obtain ⟨hos, hhs⟩ := HC1.out.opened (wF := w9) (gT := w12.heap.size) (r := w.heap.size) (o := (⟨(n : Int), s, E1, E2, A, na, ca, al, C, Z, nz, cz, zs, none, 0, 0, [], 0⟩ : OrdR)) (hs_lens hK.out) hm.out HOW9.out HGF.out.2 (fun b h1 h2 h3 _ => HFR.out b h1 h2 h3) (.inr (Nat.le_refl _)) ⟨Nat.le_refl _, by omega⟩ hokN
                    have HOS9 := Lib.hid hos
                    have HHS9 := Lib.hid hhs
                    have HLE8 : Hid ((os8 ++ [(⟨(n : Int), s, E1, E2, A, na, ca, al, C, Z, nz, cz, zs, none, 0, 0, [], 0⟩ : OrdR)]).length = n + 1) := Lib.hid (by rw [List.length_append, HC1.out.l]; rfl)
                    have HSAME : Hid (∀ k, k < n + 1 → OrdS (orL os7 k) ∧ OrdS (orL (os8 ++ [(⟨(n : Int), s, E1, E2, A, na, ca, al, C, Z, nz, cz, zs, none, 0, 0, [], 0⟩ : OrdR)]) k) ∧ OrdI (orL os7 k) ∧ oIt (orL os7 k) = oIt (orL (os8 ++ [(⟨(n : Int), s, E1, E2, A, na, ca, al, C, Z, nz, cz, zs, none, 0, 0, [], 0⟩ : OrdR)]) k)) := Lib.hid (fun k hk => by
                      have hsh := sh_b HSH.out
                      have s7 := HSM.out k hk
                      by_cases e : k = n
                      · rw [e, orL_app_r hn.out] at s7
                        rw [e, orL_app_r HC1.out.l]
                        have hS9 : OrdS (⟨(n : Int), s, E1, E2, A, na, ca, al, C, Z, nz, cz, zs, none, 0, 0, [], 0⟩ : OrdR) := ⟨by rw [hna.out]; exact hsh.1, by rw [hnz.out]; exact hsh.2, by simp, fun p hp => absurd hp (by simp), hrb.1, hrb.2⟩
                        have hi9 : i64 (n : Int) := ⟨by omega, by omega⟩
                        have h00 : i64 (0 : Int) := ⟨by decide, by decide⟩
                        have hI9 : OrdI (⟨(n : Int), s, E1, E2, A, na, ca, al, C, Z, nz, cz, zs, none, 0, 0, [], 0⟩ : OrdR) := ⟨hi9, hE.1, hE.2.1, hE.2.2.1, h00, hE.2.2.2.1, hE.2.2.2.2, fun p hp => absurd hp (by simp)⟩
                        exact ⟨s7.s hS9, hS9, s7.i hI9, s7.it⟩
                      · rw [orL_app_l (by rw [hn.out]; omega)] at s7
                        rw [orL_app_l (by rw [HC1.out.l]; omega)]
                        have s8 := HC1.out.sam k (by omega)
                        have hS9 := hSo k (by omega)
                        exact ⟨s7.s hS9, s8.s hS9, s7.i (hI k (by omega)), s7.it.trans s8.it.symm⟩)
                    rw [hw9]
                    clear hw9 hown hown8 hgrow8 hgg8 hlt8 p1 p2 p3 p4 b5 b6 b7 hsq hno8 hgT hos hhs hokN hcs hsw f0 hNu hBN hlB hlw
                    obtain ⟨t0, y0⟩ := T0
                    obtain ⟨t1, y1⟩ := T1
                    obtain ⟨zc0, zc1, zc2, zc3, zc4, zc5, zc6⟩ := kC.out _ HV_w0
                    obtain ⟨kN_0, kN_1⟩ := kN.out _ HV_w5
                    go_wp2_with fail
                    refine (same51_any O7 os7 c7 K7 d7 (some ⟨gg, 0, none⟩) (os8 ++ [(⟨(n : Int), s, E1, E2, A, na, ca, al, C, Z, nz, cz, zs, none, 0, 0, [], 0⟩ : OrdR)]) cap K8 d8 (n + 1) _ m HL7 HLE8 hm (by omega) hb2 HSAME _ (kO7.out _ HV_w4) (kH7.out _ HV_w4) HOS9 HHS9).mono ?_
                    rintro e w14 ⟨rfl, hb0⟩
                    have HB_14 := Lib.hid (below_ext HV_w0.out hb0)
                    have HB_w4_14 := Lib.hid (below_ext HV_w4.out hb0)
                    have HB_w5_14 := Lib.hid (below_ext HV_w5.out hb0)
                    have HB_w7_14 := Lib.hid (below_ext HV_w7.out hb0)
                    have HB_wx_14 := Lib.hid (below_ext HV_wx.out hb0)
                    clear zc0 zc1 zc2 zc3 zc4 zc5 zc6 kN_0 kN_1
                    clear hb0
                    obtain ⟨zc0, zc1, zc2, zc3, zc4, zc5, zc6⟩ := kC.out _ HB_14
                    obtain ⟨kN_0, kN_1⟩ := kN.out _ HB_w5_14
                    have hbF := below_ext HBw.out HB_14.out
                    go_wp2
                    go_ret
                    exact ⟨rfl, hbF⟩
                · skip
                  have e1 : decide (i < 0) = false := by simp; omega
                  have e2 : decide ((n : Int) ≤ i) = true := by simpa using hge
                  rcases HOP.out with ⟨hb, rfl, rfl, rfl, rfl⟩ | ⟨⟨hr1, hr2⟩, hmn, rfl, rfl, rfl, rfl⟩ | ⟨⟨hr1, hr2⟩, hmn, h100, rfl, rfl, rfl, rfl⟩ | ⟨⟨hr1, hr2⟩, hmn, h100, rfl, em7, rfl, rfl, eh7, hl7, hsm⟩
                  · skip
                    clear HOP
                    by_cases z1 : s.size < 1
                    · skip
                      have y1 : decide ((s.size : Int) < 1) = true := by simp; omega
                      go_wp2_with fail
                      refine (none_any O7 0 c7 K7 0 d7 true (Lib.hid rfl) _).mono ?_
                      rintro e w11 ⟨rfl, hb0⟩
                      have HB_11 := Lib.hid (below_ext HL10_w0.out hb0)
                      have HB_w4_11 := Lib.hid (below_ext HL10_w4.out hb0)
                      have HB_w5_11 := Lib.hid (below_ext HL10_w5.out hb0)
                      have HB_w7_11 := Lib.hid (below_ext HL10_w7.out hb0)
                      have HB_wx_11 := Lib.hid (below_ext HL10_wx.out hb0)
                      clear zc0 zc1 zc2 zc3 zc4 zc5 zc6 kN_0 kN_1
                      clear hb0
                      obtain ⟨zc0, zc1, zc2, zc3, zc4, zc5, zc6⟩ := kC.out _ HB_11
                      obtain ⟨kN_0, kN_1⟩ := kN.out _ HB_w5_11
                      have hbF := below_ext HBw.out HB_11.out
                      go_wp2
                      go_ret
                      exact ⟨rfl, hbF⟩
                    · skip
                      have y1 : decide ((s.size : Int) < 1) = false := by simp; omega
                      by_cases z2 : 200 < s.size
                      · skip
                        have y2 : decide ((200 : Int) < (s.size : Int)) = true := by simp; omega
                        go_wp2_with fail
                        refine (none_any O7 0 c7 K7 0 d7 true (Lib.hid rfl) _).mono ?_
                        rintro e w11 ⟨rfl, hb0⟩
                        have HB_11 := Lib.hid (below_ext HL10_w0.out hb0)
                        have HB_w4_11 := Lib.hid (below_ext HL10_w4.out hb0)
                        have HB_w5_11 := Lib.hid (below_ext HL10_w5.out hb0)
                        have HB_w7_11 := Lib.hid (below_ext HL10_w7.out hb0)
                        have HB_wx_11 := Lib.hid (below_ext HL10_wx.out hb0)
                        clear zc0 zc1 zc2 zc3 zc4 zc5 zc6 kN_0 kN_1
                        clear hb0
                        obtain ⟨zc0, zc1, zc2, zc3, zc4, zc5, zc6⟩ := kC.out _ HB_11
                        obtain ⟨kN_0, kN_1⟩ := kN.out _ HB_w5_11
                        have hbF := below_ext HBw.out HB_11.out
                        go_wp2
                        go_ret
                        exact ⟨rfl, hbF⟩
                      · skip
                        have y2 : decide ((200 : Int) < (s.size : Int)) = false := by simp; omega
                        have hsh : shB na nz = false := by rcases hb with e | e; exact absurd e (by simp [rsB]; omega); exact e
                        go_wp2_with fail
                        refine (rshort_any A na ca C Z nz cz false (Lib.hid hsh) _).mono ?_
                        rintro e w11 ⟨rfl, hb0⟩
                        have HB_11 := Lib.hid (below_ext HL10_w0.out hb0)
                        have HB_w4_11 := Lib.hid (below_ext HL10_w4.out hb0)
                        have HB_w5_11 := Lib.hid (below_ext HL10_w5.out hb0)
                        have HB_w7_11 := Lib.hid (below_ext HL10_w7.out hb0)
                        have HB_wx_11 := Lib.hid (below_ext HL10_wx.out hb0)
                        clear zc0 zc1 zc2 zc3 zc4 zc5 zc6 kN_0 kN_1
                        clear hb0
                        obtain ⟨zc0, zc1, zc2, zc3, zc4, zc5, zc6⟩ := kC.out _ HB_11
                        obtain ⟨kN_0, kN_1⟩ := kN.out _ HB_w5_11
                        go_wp2_with fail
                        refine (none_any O7 0 c7 K7 0 d7 true (Lib.hid rfl) _).mono ?_
                        rintro e w12 ⟨rfl, hb0⟩
                        have HB_12 := Lib.hid (below_ext HB_11.out hb0)
                        have HB_w4_12 := Lib.hid (below_ext HB_w4_11.out hb0)
                        have HB_w5_12 := Lib.hid (below_ext HB_w5_11.out hb0)
                        have HB_w7_12 := Lib.hid (below_ext HB_w7_11.out hb0)
                        have HB_wx_12 := Lib.hid (below_ext HB_wx_11.out hb0)
                        clear zc0 zc1 zc2 zc3 zc4 zc5 zc6 kN_0 kN_1
                        clear hb0
                        obtain ⟨zc0, zc1, zc2, zc3, zc4, zc5, zc6⟩ := kC.out _ HB_12
                        obtain ⟨kN_0, kN_1⟩ := kN.out _ HB_w5_12
                        have hbF := below_ext HBw.out HB_12.out
                        go_wp2
                        go_ret
                        exact ⟨rfl, hbF⟩
                  · skip
                    clear HOP
                    have HSH : Hid (shB na nz = true) := Lib.hid hr2
                    have hrb := rs_b hr1
                    have y1 : decide ((s.size : Int) < 1) = false := by simp; omega
                    have y2 : decide ((200 : Int) < (s.size : Int)) = false := by simp; omega
                    go_wp2_with fail
                    refine (rshort_any A na ca C Z nz cz true HSH _).mono ?_
                    rintro e w11 ⟨rfl, hb0⟩
                    have HB_11 := Lib.hid (below_ext HL10_w0.out hb0)
                    have HB_w4_11 := Lib.hid (below_ext HL10_w4.out hb0)
                    have HB_w5_11 := Lib.hid (below_ext HL10_w5.out hb0)
                    have HB_w7_11 := Lib.hid (below_ext HL10_w7.out hb0)
                    have HB_wx_11 := Lib.hid (below_ext HL10_wx.out hb0)
                    clear zc0 zc1 zc2 zc3 zc4 zc5 zc6 kN_0 kN_1
                    clear hb0
                    obtain ⟨zc0, zc1, zc2, zc3, zc4, zc5, zc6⟩ := kC.out _ HB_11
                    obtain ⟨kN_0, kN_1⟩ := kN.out _ HB_w5_11
                    have y3 : decide ((m : Int) < (n : Int)) = true := by simp; omega
                    go_wp2_with fail
                    refine (none_any O7 0 c7 K7 0 d7 true (Lib.hid rfl) _).mono ?_
                    rintro e w12 ⟨rfl, hb0⟩
                    have HB_12 := Lib.hid (below_ext HB_11.out hb0)
                    have HB_w4_12 := Lib.hid (below_ext HB_w4_11.out hb0)
                    have HB_w5_12 := Lib.hid (below_ext HB_w5_11.out hb0)
                    have HB_w7_12 := Lib.hid (below_ext HB_w7_11.out hb0)
                    have HB_wx_12 := Lib.hid (below_ext HB_wx_11.out hb0)
                    clear zc0 zc1 zc2 zc3 zc4 zc5 zc6 kN_0 kN_1
                    clear hb0
                    obtain ⟨zc0, zc1, zc2, zc3, zc4, zc5, zc6⟩ := kC.out _ HB_12
                    obtain ⟨kN_0, kN_1⟩ := kN.out _ HB_w5_12
                    have hbF := below_ext HBw.out HB_12.out
                    go_wp2
                    go_ret
                    exact ⟨rfl, hbF⟩
                  · skip
                    clear HOP
                    have HSH : Hid (shB na nz = true) := Lib.hid hr2
                    have hrb := rs_b hr1
                    have y1 : decide ((s.size : Int) < 1) = false := by simp; omega
                    have y2 : decide ((200 : Int) < (s.size : Int)) = false := by simp; omega
                    go_wp2_with fail
                    refine (rshort_any A na ca C Z nz cz true HSH _).mono ?_
                    rintro e w11 ⟨rfl, hb0⟩
                    have HB_11 := Lib.hid (below_ext HL10_w0.out hb0)
                    have HB_w4_11 := Lib.hid (below_ext HL10_w4.out hb0)
                    have HB_w5_11 := Lib.hid (below_ext HL10_w5.out hb0)
                    have HB_w7_11 := Lib.hid (below_ext HL10_w7.out hb0)
                    have HB_wx_11 := Lib.hid (below_ext HL10_wx.out hb0)
                    clear zc0 zc1 zc2 zc3 zc4 zc5 zc6 kN_0 kN_1
                    clear hb0
                    obtain ⟨zc0, zc1, zc2, zc3, zc4, zc5, zc6⟩ := kC.out _ HB_11
                    obtain ⟨kN_0, kN_1⟩ := kN.out _ HB_w5_11
                    have y3 : decide ((m : Int) < (n : Int)) = false := by simp; omega
                    have y4 : decide ((100 : Int) ≤ (n : Int)) = true := by simp; omega
                    clear h100
                    go_wp2_with fail
                    refine (none_any O7 0 c7 K7 0 d7 true (Lib.hid rfl) _).mono ?_
                    rintro e w12 ⟨rfl, hb0⟩
                    have HB_12 := Lib.hid (below_ext HB_11.out hb0)
                    have HB_w4_12 := Lib.hid (below_ext HB_w4_11.out hb0)
                    have HB_w5_12 := Lib.hid (below_ext HB_w5_11.out hb0)
                    have HB_w7_12 := Lib.hid (below_ext HB_w7_11.out hb0)
                    have HB_wx_12 := Lib.hid (below_ext HB_wx_11.out hb0)
                    clear zc0 zc1 zc2 zc3 zc4 zc5 zc6 kN_0 kN_1
                    clear hb0
                    obtain ⟨zc0, zc1, zc2, zc3, zc4, zc5, zc6⟩ := kC.out _ HB_12
                    obtain ⟨kN_0, kN_1⟩ := kN.out _ HB_w5_12
                    have hbF := below_ext HBw.out HB_12.out
                    go_wp2
                    go_ret
                    exact ⟨rfl, hbF⟩
                  · skip
                    clear HOP
                    have em8 := em7.symm
                    have eh8 := eh7.symm
                    subst em8
                    subst eh8
                    have HSH : Hid (shB na nz = true) := Lib.hid hr2
                    have hrb := rs_b hr1
                    have y1 : decide ((s.size : Int) < 1) = false := by simp; omega
                    have y2 : decide ((200 : Int) < (s.size : Int)) = false := by simp; omega
                    go_wp2_with fail
                    refine (rshort_any A na ca C Z nz cz true HSH _).mono ?_
                    rintro e w11 ⟨rfl, hb0⟩
                    have HB_11 := Lib.hid (below_ext HL10_w0.out hb0)
                    have HB_w4_11 := Lib.hid (below_ext HL10_w4.out hb0)
                    have HB_w5_11 := Lib.hid (below_ext HL10_w5.out hb0)
                    have HB_w7_11 := Lib.hid (below_ext HL10_w7.out hb0)
                    have HB_wx_11 := Lib.hid (below_ext HL10_wx.out hb0)
                    clear zc0 zc1 zc2 zc3 zc4 zc5 zc6 kN_0 kN_1
                    clear hb0
                    obtain ⟨zc0, zc1, zc2, zc3, zc4, zc5, zc6⟩ := kC.out _ HB_11
                    obtain ⟨kN_0, kN_1⟩ := kN.out _ HB_w5_11
                    have y3 : decide ((m : Int) < (n : Int)) = false := by simp; omega
                    have y4 : decide ((100 : Int) ≤ (n : Int)) = false := by simp; omega
                    have HL7 := Lib.hid hl7
                    have HSM := Lib.hid hsm
                    clear hl7 hsm
                    have hnp : ∀ k, k < n → (orL os k).np ≤ 1000000 := fun k hk => by
                      obtain ⟨_, _, _, _, hok⟩ := hO.out k (by rw [hn.out]; exact hk)
                      have := (hSo k hk).n
                      have := hok.2.2.1.1
                      have e : (orL os k).ps.length = (orL os k).np := this
                      omega
                    go_wp2_with fail
                    have HBc : Hid (Below w.heap.size w w11) := Lib.hid (below_ext HBw.out HB_11.out)
                    refine (copy_c n _ os n c K hs m d hn hm hb1 hb2 hnp w hO _ HBc (kHs.out _ HB_11)).mono ?_
                    rintro e w12 ⟨O8, c8, K8, d8, os8, B8, Li8, rfl, hcl, hb0⟩
                    have HCL := Lib.hid hcl
                    clear hcl
                    have HB_12 := Lib.hid (below_ext HB_11.out hb0)
                    have HB_w4_12 := Lib.hid (below_ext HB_w4_11.out hb0)
                    have HB_w5_12 := Lib.hid (below_ext HB_w5_11.out hb0)
                    have HB_w7_12 := Lib.hid (below_ext HB_w7_11.out hb0)
                    have HB_wx_12 := Lib.hid (below_ext HB_wx_11.out hb0)
                    clear zc0 zc1 zc2 zc3 zc4 zc5 zc6 kN_0 kN_1
                    clear hb0
                    obtain ⟨zc0, zc1, zc2, zc3, zc4, zc5, zc6⟩ := kC.out _ HB_12
                    obtain ⟨kN_0, kN_1⟩ := kN.out _ HB_w5_12
                    have HB_w12_12 : Hid (Below w12.heap.size w12 w12) := Lib.hid (Below.refl _ _)
                    have hq := below_box0 w12 (tlO O8 n c8 K8 m d8)
                    have HB_13 := Lib.hid (below_ext HB_12.out hq)
                    have HB_w4_13 := Lib.hid (below_ext HB_w4_12.out hq)
                    have HB_w5_13 := Lib.hid (below_ext HB_w5_12.out hq)
                    have HB_w7_13 := Lib.hid (below_ext HB_w7_12.out hq)
                    have HB_wx_13 := Lib.hid (below_ext HB_wx_12.out hq)
                    have HB_w12_13 := Lib.hid (below_ext HB_w12_12.out hq)
                    have hc : (w12.alloc (tlO O8 n c8 K8 m d8)).cell? ⟨w12.heap.size, 0, none⟩ = some (.slice O8 n c8) ∧ (w12.alloc (tlO O8 n c8 K8 m d8)).cell? ⟨w12.heap.size, 1, none⟩ = some (.slice K8 m d8) := ⟨allocs_cell rfl (by rfl), allocs_cell rfl (by rfl)⟩
                    have HC13 := Lib.hid hc
                    have HK13 := Lib.hid (heap_alloc_new w12 (tlO O8 n c8 K8 m d8))
                    clear zc0 zc1 zc2 zc3 zc4 zc5 zc6 kN_0 kN_1
                    clear hq
                    obtain ⟨zc0, zc1, zc2, zc3, zc4, zc5, zc6⟩ := kC.out _ HB_13
                    obtain ⟨kN_0, kN_1⟩ := kN.out _ HB_w5_13
                    obtain ⟨zq0, zq1⟩ := hc
                    go_upto_region 31 with (fail)
                    obtain ⟨w13, hw⟩ : ∃ x, (w12.alloc (tlO O8 n c8 K8 m d8)) = x := ⟨_, rfl⟩
                    rw [hw] at HC13 HK13 HB_13 HB_w4_13 HB_w5_13 HB_w7_13 HB_wx_13 HB_w12_13 ⊢
                    have HSN13 : Hid (w13.heap.size = w12.heap.size + 1) := Lib.hid (by rw [← hw]; simp)
                    clear zc0 zc1 zc2 zc3 zc4 zc5 zc6 kN_0 kN_1 zq0 zq1
                    clear hw
                    have HB_w13_13 : Hid (Below w13.heap.size w13 w13) := Lib.hid (Below.refl _ _)
                    have kG := Lib.hid (show ∀ u : World, Hid (Below w13.heap.size w13 u) → u.cell? ⟨w12.heap.size, 0, none⟩ = some (.slice O8 n c8) ∧ u.cell? ⟨w12.heap.size, 1, none⟩ = some (.slice K8 m d8) from fun u h => ⟨cell_below HC13.out.1 h.out, cell_below HC13.out.2 h.out⟩)
                    obtain ⟨zc0, zc1, zc2, zc3, zc4, zc5, zc6⟩ := kC.out _ HB_13
                    obtain ⟨kN_0, kN_1⟩ := kN.out _ HB_w5_13
                    obtain ⟨kG_0, kG_1⟩ := kG.out _ HB_w13_13
                    have HC1 : Hid (Cld w.heap.size n w11.heap.size os n hs m O8 c8 K8 d8 os8 B8 w12.heap.size Li8 w13) := Lib.hid (HCL.out.below (HB_w12_13).out)
                    have hNu := HC1.out.Nu
                    have hBN := HC1.out.BN
                    have hlB := HC1.out.lB
                    have hlw := HC1.out.lwo
                    have HGB : Hid (w13.heap[w12.heap.size]? = some (tlO O8 n c8 K8 m d8)) := HK13
                    have f0 := frozen_blk HGB.out 0
                    have hown : (w13.alloc (.cells #[.int .i64 (n : Int), .string s, .int .i64 E1, .int .i64 E2, .slice A na ca, .int .i64 C, .slice Z nz cz, .slice none 0 0, .int .i64 0] 46)).ownsRow (B8 + 1) 46 9 (.slice O8 n c8) n (os8.flatMap ordC) := HC1.out.ro.alloc _
                    have b5 : n + 1 ≤ maxLen := by unfold maxLen; omega
                    have b6 : (n + 1) * 128 ≤ 140737488355328 := by omega
                    have b7 : B8 + 1 ≤ (w13.alloc (.cells #[.int .i64 (n : Int), .string s, .int .i64 E1, .int .i64 E2, .slice A na ca, .int .i64 C, .slice Z nz cz, .slice none 0 0, .int .i64 0] 46)).heap.size := by simp; omega
                    have hno8 : (Value.slice O8 n c8).ownBlock ≠ some w12.heap.size := fun e => by have := HC1.out.bo _ e; omega
                    have HTa := Lib.hid (below_box0 w13 (.cells #[.int .i64 (n : Int), .string s, .int .i64 E1, .int .i64 E2, .slice A na ca, .int .i64 C, .slice Z nz cz, .slice none 0 0, .int .i64 0] 46))
                    go_upto_region 32 with (at_builtin; refine wpList_append_lies rfl _ _ 22 rfl (B8 + 1) 46 i1 (.agg #[.int .i64 0, .string ⟨#[]⟩, .int .i64 0, .int .i64 0, .slice none 0 0, .int .i64 0, .slice none 0 0, .slice none 0 0, .int .i64 0]) 9 128 Tryd.underlying22 hi1 hy0 hy1 hy2 (by rfl) (by decide) _ _ _ rfl hown ⟨w13.heap.size, 0, none⟩ 1 1 [.int .i64 (n : Int), .string s, .int .i64 E1, .int .i64 E2, .slice A na ca, .int .i64 C, .slice Z nz cz, .slice none 0 0, .int .i64 0] rfl rfl (World.news_of_block (cs := #[.int .i64 (n : Int), .string s, .int .i64 E1, .int .i64 E2, .slice A na ca, .int .i64 C, .slice Z nz cz, .slice none 0 0, .int .i64 0]) (t := 46) (fr := (0, 0)) (heap_alloc_new w13 _)) (by simp [Value.oneCell']) (by decide) b5 b6 b7 _ rfl ?_; intro gg cap w8 hown8 hgrow8 hgg8 hlt8; obtain ⟨p1, p2⟩ := own_grown2 (w := w13.alloc (.cells #[.int .i64 (n : Int), .string s, .int .i64 E1, .int .i64 E2, .slice A na ca, .int .i64 C, .slice Z nz cz, .slice none 0 0, .int .i64 0] 46)) ((show Own w13 ⟨w12.heap.size, 0, none⟩ (.slice O8 n c8) from ⟨kG_0, f0⟩).below HTa.out) hgrow8 hno8; obtain ⟨p3, p4⟩ := own_grown2 (w := w13.alloc (.cells #[.int .i64 (n : Int), .string s, .int .i64 E1, .int .i64 E2, .slice A na ca, .int .i64 C, .slice Z nz cz, .slice none 0 0, .int .i64 0] 46)) ((show Own w13 ⟨w12.heap.size, 1, none⟩ (.slice K8 m d8) from ⟨kG_1, frozen_blk HGB.out 1⟩).below HTa.out) hgrow8 hno8)
                    clear zc0 zc1 zc2 zc3 zc4 zc5 zc6 kN_0 kN_1 kG_0 kG_1
                    have hgT : w12.heap.size < w13.heap.size := heap_lt HGB.out
                    have hsq : (w13.alloc (.cells #[.int .i64 (n : Int), .string s, .int .i64 E1, .int .i64 E2, .slice A na ca, .int .i64 C, .slice Z nz cz, .slice none 0 0, .int .i64 0] 46)).heap.size = w13.heap.size + 1 := by simp
                    have HOW9 : Hid (w8.ownsRow (B8 + 1) 46 9 (.slice (some ⟨gg, 0, none⟩) (n + 1) cap) (n + 1) (os8.flatMap ordC ++ ordC (⟨(n : Int), s, E1, E2, A, na, ca, al, C, Z, nz, cz, zs, none, 0, 0, [], 0⟩ : OrdR))) := Lib.hid (by simpa using hown8)
                    have HGG : Hid ((Value.slice O8 n c8).ownBlock = some gg ∨ w13.heap.size ≤ gg) := Lib.hid (by rcases hgg8 with e | e; exact .inl e; exact .inr (by omega))
                    obtain ⟨w9, hw9⟩ : ∃ x, w8.setCell ⟨w12.heap.size, 0, none⟩ (.slice (some ⟨gg, 0, none⟩) (n + 1) cap) = x := ⟨_, rfl⟩
                    have T0 : Own w9 ⟨w12.heap.size, 0, none⟩ (.slice (some ⟨gg, 0, none⟩) (n + 1) cap) := by rw [← hw9]; exact own_set_eq2 ⟨p1, p2⟩
                    have T1 : Own w9 ⟨w12.heap.size, 1, none⟩ (.slice K8 m d8) := by rw [← hw9]; exact own_set_ne2 ⟨p3, p4⟩ (by simp)
                    have HFR : Hid (∀ b, b < w13.heap.size → (Value.slice O8 n c8).ownBlock ≠ some b → b ≠ w12.heap.size → w9.heap[b]? = w13.heap[b]?) := Lib.hid (fun b h1 h2 h3 => by rw [← hw9]; exact (Go.Deep.blk_setCell_other _ _ _ _ h3).trans ((hgrow8.block b (by omega) (fun e => h2 e.symm)).trans (HTa.out.block b h1)))
                    have HGF : Hid (gg ≠ w12.heap.size ∧ w9.heap[gg]? = w8.heap[gg]?) := Lib.hid (by
                      have hne : gg ≠ w12.heap.size := by
                        rcases HGG.out with e | e
                        · exact fun e2 => hno8 (by rw [e, e2])
                        · omega
                      refine ⟨hne, ?_⟩
                      rw [← hw9]; exact Go.Deep.blk_setCell_other _ _ _ _ hne)
                    have HV_w0 : Hid (Below w0.heap.size w0 w9) := Lib.hid (by
                      have hc9 := HB_11.out.size
                      rw [← hw9]
                      exact ((HB_13.out.alloc HB_13.out.size (.cells #[.int .i64 (n : Int), .string s, .int .i64 E1, .int .i64 E2, .slice A na ca, .int .i64 C, .slice Z nz cz, .slice none 0 0, .int .i64 0] 46)).grown hgrow8 (by have := HB_13.out.size; simp; omega) (fun j hj => by have := HC1.out.bo j hj; omega)).setCell (show w0.heap.size ≤ w12.heap.size by omega) _)
                    have HV_w4 : Hid (Below w4.heap.size w4 w9) := Lib.hid (by
                      have hc9 := HB_w4_11.out.size
                      rw [← hw9]
                      exact ((HB_w4_13.out.alloc HB_w4_13.out.size (.cells #[.int .i64 (n : Int), .string s, .int .i64 E1, .int .i64 E2, .slice A na ca, .int .i64 C, .slice Z nz cz, .slice none 0 0, .int .i64 0] 46)).grown hgrow8 (by have := HB_w4_13.out.size; simp; omega) (fun j hj => by have := HC1.out.bo j hj; omega)).setCell (show w4.heap.size ≤ w12.heap.size by omega) _)
                    have HV_w5 : Hid (Below w5.heap.size w5 w9) := Lib.hid (by
                      have hc9 := HB_w5_11.out.size
                      rw [← hw9]
                      exact ((HB_w5_13.out.alloc HB_w5_13.out.size (.cells #[.int .i64 (n : Int), .string s, .int .i64 E1, .int .i64 E2, .slice A na ca, .int .i64 C, .slice Z nz cz, .slice none 0 0, .int .i64 0] 46)).grown hgrow8 (by have := HB_w5_13.out.size; simp; omega) (fun j hj => by have := HC1.out.bo j hj; omega)).setCell (show w5.heap.size ≤ w12.heap.size by omega) _)
                    have HV_w7 : Hid (Below w7.heap.size w7 w9) := Lib.hid (by
                      have hc9 := HB_w7_11.out.size
                      rw [← hw9]
                      exact ((HB_w7_13.out.alloc HB_w7_13.out.size (.cells #[.int .i64 (n : Int), .string s, .int .i64 E1, .int .i64 E2, .slice A na ca, .int .i64 C, .slice Z nz cz, .slice none 0 0, .int .i64 0] 46)).grown hgrow8 (by have := HB_w7_13.out.size; simp; omega) (fun j hj => by have := HC1.out.bo j hj; omega)).setCell (show w7.heap.size ≤ w12.heap.size by omega) _)
                    have HV_wx : Hid (Below wx.heap.size wx w9) := Lib.hid (by
                      have hc9 := HB_wx_11.out.size
                      rw [← hw9]
                      exact ((HB_wx_13.out.alloc HB_wx_13.out.size (.cells #[.int .i64 (n : Int), .string s, .int .i64 E1, .int .i64 E2, .slice A na ca, .int .i64 C, .slice Z nz cz, .slice none 0 0, .int .i64 0] 46)).grown hgrow8 (by have := HB_wx_13.out.size; simp; omega) (fun j hj => by have := HC1.out.bo j hj; omega)).setCell (show wx.heap.size ≤ w12.heap.size by omega) _)
                    have hbw9 : Below w.heap.size w w9 := below_ext HBw.out HV_w0.out
                    have hcs := HB_11.out.size
                    have hsw := HSW.out
                    have hokN : OrdOk w9 (⟨(n : Int), s, E1, E2, A, na, ca, al, C, Z, nz, cz, zs, none, 0, 0, [], 0⟩ : OrdR) := ⟨hna.out, hnz.out, ⟨rfl, Nat.le_refl _⟩, hA.out.below hbw9, hZ.out.below hbw9, fun j hj => absurd hj (by simp)⟩
                    obtain ⟨hos, hhs⟩ := HC1.out.opened (wF := w9) (gT := w12.heap.size) (r := w.heap.size) (o := (⟨(n : Int), s, E1, E2, A, na, ca, al, C, Z, nz, cz, zs, none, 0, 0, [], 0⟩ : OrdR)) (hs_lens hK.out) hm.out HOW9.out HGF.out.2 (fun b h1 h2 h3 _ => HFR.out b h1 h2 h3) (.inr (Nat.le_refl _)) ⟨Nat.le_refl _, by omega⟩ hokN
                    have HOS9 := Lib.hid hos
                    have HHS9 := Lib.hid hhs
                    have HLE8 : Hid ((os8 ++ [(⟨(n : Int), s, E1, E2, A, na, ca, al, C, Z, nz, cz, zs, none, 0, 0, [], 0⟩ : OrdR)]).length = n + 1) := Lib.hid (by rw [List.length_append, HC1.out.l]; rfl)
                    have HSAME : Hid (∀ k, k < n + 1 → OrdS (orL os7 k) ∧ OrdS (orL (os8 ++ [(⟨(n : Int), s, E1, E2, A, na, ca, al, C, Z, nz, cz, zs, none, 0, 0, [], 0⟩ : OrdR)]) k) ∧ OrdI (orL os7 k) ∧ oIt (orL os7 k) = oIt (orL (os8 ++ [(⟨(n : Int), s, E1, E2, A, na, ca, al, C, Z, nz, cz, zs, none, 0, 0, [], 0⟩ : OrdR)]) k)) := Lib.hid (fun k hk => by
                      have hsh := sh_b HSH.out
                      have s7 := HSM.out k hk
                      by_cases e : k = n
                      · rw [e, orL_app_r hn.out] at s7
                        rw [e, orL_app_r HC1.out.l]
                        have hS9 : OrdS (⟨(n : Int), s, E1, E2, A, na, ca, al, C, Z, nz, cz, zs, none, 0, 0, [], 0⟩ : OrdR) := ⟨by rw [hna.out]; exact hsh.1, by rw [hnz.out]; exact hsh.2, by simp, fun p hp => absurd hp (by simp), hrb.1, hrb.2⟩
                        have hi9 : i64 (n : Int) := ⟨by omega, by omega⟩
                        have h00 : i64 (0 : Int) := ⟨by decide, by decide⟩
                        have hI9 : OrdI (⟨(n : Int), s, E1, E2, A, na, ca, al, C, Z, nz, cz, zs, none, 0, 0, [], 0⟩ : OrdR) := ⟨hi9, hE.1, hE.2.1, hE.2.2.1, h00, hE.2.2.2.1, hE.2.2.2.2, fun p hp => absurd hp (by simp)⟩
                        exact ⟨s7.s hS9, hS9, s7.i hI9, s7.it⟩
                      · rw [orL_app_l (by rw [hn.out]; omega)] at s7
                        rw [orL_app_l (by rw [HC1.out.l]; omega)]
                        have s8 := HC1.out.sam k (by omega)
                        have hS9 := hSo k (by omega)
                        exact ⟨s7.s hS9, s8.s hS9, s7.i (hI k (by omega)), s7.it.trans s8.it.symm⟩)
                    rw [hw9]
                    clear hw9 hown hown8 hgrow8 hgg8 hlt8 p1 p2 p3 p4 b5 b6 b7 hsq hno8 hgT hos hhs hokN hcs hsw f0 hNu hBN hlB hlw
                    obtain ⟨t0, y0⟩ := T0
                    obtain ⟨t1, y1⟩ := T1
                    obtain ⟨zc0, zc1, zc2, zc3, zc4, zc5, zc6⟩ := kC.out _ HV_w0
                    obtain ⟨kN_0, kN_1⟩ := kN.out _ HV_w5
                    go_wp2_with fail
                    refine (same51_any O7 os7 c7 K7 d7 (some ⟨gg, 0, none⟩) (os8 ++ [(⟨(n : Int), s, E1, E2, A, na, ca, al, C, Z, nz, cz, zs, none, 0, 0, [], 0⟩ : OrdR)]) cap K8 d8 (n + 1) _ m HL7 HLE8 hm (by omega) hb2 HSAME _ (kO7.out _ HV_w4) (kH7.out _ HV_w4) HOS9 HHS9).mono ?_
                    rintro e w14 ⟨rfl, hb0⟩
                    have HB_14 := Lib.hid (below_ext HV_w0.out hb0)
                    have HB_w4_14 := Lib.hid (below_ext HV_w4.out hb0)
                    have HB_w5_14 := Lib.hid (below_ext HV_w5.out hb0)
                    have HB_w7_14 := Lib.hid (below_ext HV_w7.out hb0)
                    have HB_wx_14 := Lib.hid (below_ext HV_wx.out hb0)
                    clear zc0 zc1 zc2 zc3 zc4 zc5 zc6 kN_0 kN_1
                    clear hb0
                    obtain ⟨zc0, zc1, zc2, zc3, zc4, zc5, zc6⟩ := kC.out _ HB_14
                    obtain ⟨kN_0, kN_1⟩ := kN.out _ HB_w5_14
                    have hbF := below_ext HBw.out HB_14.out
                    go_wp2
                    go_ret
                    exact ⟨rfl, hbF⟩
              · skip
                subst h93
                clear HLB
                obtain ⟨k, rfl⟩ : ∃ k : Nat, i = (k : Int) := ⟨i.toNat, by omega⟩
                rw [Int.toNat_natCast] at hSl
                have HSL := Lib.hid hSl
                have hkn : k < n := by omega
                clear hSl
                have e1 : decide ((k : Int) < 0) = false := by simp
                have e2 : decide ((n : Int) ≤ (k : Int)) = false := by simp; omega
                have him : k ≤ m := by rw [← hm.out]; exact at_mostD HT.1 (by rw [hn.out]; exact hkn)
                have HHL : Hid ((befL hs k).length = 32) := Lib.hid (by rw [bef_hb HT.1 (by rw [hm.out]; exact him)]; exact hbL_len _ _)
                have HHB : Hid (bytesB (befL hs k) = true) := Lib.hid (by rw [bef_hb HT.1 (by rw [hm.out]; exact him)]; exact hbL_b _ _)
                obtain ⟨bO, fO, hOe, _, _⟩ := hO.out k (by rw [hn.out]; exact hkn)
                subst hOe
                clear zc0 zc1 zc2 zc3 zc4 zc5 zc6 kN_0 kN_1
                obtain ⟨zc0, zc1, zc2, zc3, zc4, zc5, zc6⟩ := kC.out _ HL10_w0
                obtain ⟨kN_0, kN_1⟩ := kN.out _ HL10_w5
                go_wp2_with fail
                refine (rlabel51_any bO fO os n c K hs m d k hn hm hkn him hb1 hb2 (befL hs k) (Lib.hid rfl) HHL HHB (orL os k) (Lib.hid rfl) (Lib.hid (hI k hkn)) (hSo k hkn) _ (kD.out _ HL10_w0) (kOs.out _ HL10_w0) (kHs.out _ HL10_w0)).mono ?_
                rintro e w11 ⟨rfl, hb0⟩
                rw [← HSL.out]
                have HB_11 := Lib.hid (below_ext HL10_w0.out hb0)
                have HB_w4_11 := Lib.hid (below_ext HL10_w4.out hb0)
                have HB_w5_11 := Lib.hid (below_ext HL10_w5.out hb0)
                have HB_w7_11 := Lib.hid (below_ext HL10_w7.out hb0)
                have HB_wx_11 := Lib.hid (below_ext HL10_wx.out hb0)
                clear zc0 zc1 zc2 zc3 zc4 zc5 zc6 kN_0 kN_1
                clear hb0
                obtain ⟨zc0, zc1, zc2, zc3, zc4, zc5, zc6⟩ := kC.out _ HB_11
                obtain ⟨kN_0, kN_1⟩ := kN.out _ HB_w5_11
                rcases HOP.out with ⟨hb, rfl, rfl, rfl, rfl⟩ | ⟨⟨hr1, hr2⟩, hmn, rfl, rfl, rfl, rfl⟩ | ⟨⟨hr1, hr2⟩, hmn, h100, rfl, rfl, rfl, rfl⟩ | ⟨⟨hr1, hr2⟩, hmn, h100, rfl, em7, rfl, rfl, eh7, hl7, hsm⟩
                · skip
                  clear HOP
                  by_cases z1 : s.size < 1
                  · skip
                    have y1 : decide ((s.size : Int) < 1) = true := by simp; omega
                    go_wp2_with fail
                    refine (none_any O7 0 c7 K7 0 d7 true (Lib.hid rfl) _).mono ?_
                    rintro e w12 ⟨rfl, hb0⟩
                    have HB_12 := Lib.hid (below_ext HB_11.out hb0)
                    have HB_w4_12 := Lib.hid (below_ext HB_w4_11.out hb0)
                    have HB_w5_12 := Lib.hid (below_ext HB_w5_11.out hb0)
                    have HB_w7_12 := Lib.hid (below_ext HB_w7_11.out hb0)
                    have HB_wx_12 := Lib.hid (below_ext HB_wx_11.out hb0)
                    clear zc0 zc1 zc2 zc3 zc4 zc5 zc6 kN_0 kN_1
                    clear hb0
                    obtain ⟨zc0, zc1, zc2, zc3, zc4, zc5, zc6⟩ := kC.out _ HB_12
                    obtain ⟨kN_0, kN_1⟩ := kN.out _ HB_w5_12
                    have hbF := below_ext HBw.out HB_12.out
                    go_wp2
                    go_ret
                    exact ⟨rfl, hbF⟩
                  · skip
                    have y1 : decide ((s.size : Int) < 1) = false := by simp; omega
                    by_cases z2 : 200 < s.size
                    · skip
                      have y2 : decide ((200 : Int) < (s.size : Int)) = true := by simp; omega
                      go_wp2_with fail
                      refine (none_any O7 0 c7 K7 0 d7 true (Lib.hid rfl) _).mono ?_
                      rintro e w12 ⟨rfl, hb0⟩
                      have HB_12 := Lib.hid (below_ext HB_11.out hb0)
                      have HB_w4_12 := Lib.hid (below_ext HB_w4_11.out hb0)
                      have HB_w5_12 := Lib.hid (below_ext HB_w5_11.out hb0)
                      have HB_w7_12 := Lib.hid (below_ext HB_w7_11.out hb0)
                      have HB_wx_12 := Lib.hid (below_ext HB_wx_11.out hb0)
                      clear zc0 zc1 zc2 zc3 zc4 zc5 zc6 kN_0 kN_1
                      clear hb0
                      obtain ⟨zc0, zc1, zc2, zc3, zc4, zc5, zc6⟩ := kC.out _ HB_12
                      obtain ⟨kN_0, kN_1⟩ := kN.out _ HB_w5_12
                      have hbF := below_ext HBw.out HB_12.out
                      go_wp2
                      go_ret
                      exact ⟨rfl, hbF⟩
                    · skip
                      have y2 : decide ((200 : Int) < (s.size : Int)) = false := by simp; omega
                      have hsh : shB na nz = false := by rcases hb with e | e; exact absurd e (by simp [rsB]; omega); exact e
                      go_wp2_with fail
                      refine (rshort_any A na ca C Z nz cz false (Lib.hid hsh) _).mono ?_
                      rintro e w12 ⟨rfl, hb0⟩
                      have HB_12 := Lib.hid (below_ext HB_11.out hb0)
                      have HB_w4_12 := Lib.hid (below_ext HB_w4_11.out hb0)
                      have HB_w5_12 := Lib.hid (below_ext HB_w5_11.out hb0)
                      have HB_w7_12 := Lib.hid (below_ext HB_w7_11.out hb0)
                      have HB_wx_12 := Lib.hid (below_ext HB_wx_11.out hb0)
                      clear zc0 zc1 zc2 zc3 zc4 zc5 zc6 kN_0 kN_1
                      clear hb0
                      obtain ⟨zc0, zc1, zc2, zc3, zc4, zc5, zc6⟩ := kC.out _ HB_12
                      obtain ⟨kN_0, kN_1⟩ := kN.out _ HB_w5_12
                      go_wp2_with fail
                      refine (none_any O7 0 c7 K7 0 d7 true (Lib.hid rfl) _).mono ?_
                      rintro e w13 ⟨rfl, hb0⟩
                      have HB_13 := Lib.hid (below_ext HB_12.out hb0)
                      have HB_w4_13 := Lib.hid (below_ext HB_w4_12.out hb0)
                      have HB_w5_13 := Lib.hid (below_ext HB_w5_12.out hb0)
                      have HB_w7_13 := Lib.hid (below_ext HB_w7_12.out hb0)
                      have HB_wx_13 := Lib.hid (below_ext HB_wx_12.out hb0)
                      clear zc0 zc1 zc2 zc3 zc4 zc5 zc6 kN_0 kN_1
                      clear hb0
                      obtain ⟨zc0, zc1, zc2, zc3, zc4, zc5, zc6⟩ := kC.out _ HB_13
                      obtain ⟨kN_0, kN_1⟩ := kN.out _ HB_w5_13
                      have hbF := below_ext HBw.out HB_13.out
                      go_wp2
                      go_ret
                      exact ⟨rfl, hbF⟩
                · skip
                  clear HOP
                  have HSH : Hid (shB na nz = true) := Lib.hid hr2
                  have hrb := rs_b hr1
                  have y1 : decide ((s.size : Int) < 1) = false := by simp; omega
                  have y2 : decide ((200 : Int) < (s.size : Int)) = false := by simp; omega
                  go_wp2_with fail
                  refine (rshort_any A na ca C Z nz cz true HSH _).mono ?_
                  rintro e w12 ⟨rfl, hb0⟩
                  have HB_12 := Lib.hid (below_ext HB_11.out hb0)
                  have HB_w4_12 := Lib.hid (below_ext HB_w4_11.out hb0)
                  have HB_w5_12 := Lib.hid (below_ext HB_w5_11.out hb0)
                  have HB_w7_12 := Lib.hid (below_ext HB_w7_11.out hb0)
                  have HB_wx_12 := Lib.hid (below_ext HB_wx_11.out hb0)
                  clear zc0 zc1 zc2 zc3 zc4 zc5 zc6 kN_0 kN_1
                  clear hb0
                  obtain ⟨zc0, zc1, zc2, zc3, zc4, zc5, zc6⟩ := kC.out _ HB_12
                  obtain ⟨kN_0, kN_1⟩ := kN.out _ HB_w5_12
                  have y3 : decide ((m : Int) < (n : Int)) = true := by simp; omega
                  go_wp2_with fail
                  refine (none_any O7 0 c7 K7 0 d7 true (Lib.hid rfl) _).mono ?_
                  rintro e w13 ⟨rfl, hb0⟩
                  have HB_13 := Lib.hid (below_ext HB_12.out hb0)
                  have HB_w4_13 := Lib.hid (below_ext HB_w4_12.out hb0)
                  have HB_w5_13 := Lib.hid (below_ext HB_w5_12.out hb0)
                  have HB_w7_13 := Lib.hid (below_ext HB_w7_12.out hb0)
                  have HB_wx_13 := Lib.hid (below_ext HB_wx_12.out hb0)
                  clear zc0 zc1 zc2 zc3 zc4 zc5 zc6 kN_0 kN_1
                  clear hb0
                  obtain ⟨zc0, zc1, zc2, zc3, zc4, zc5, zc6⟩ := kC.out _ HB_13
                  obtain ⟨kN_0, kN_1⟩ := kN.out _ HB_w5_13
                  have hbF := below_ext HBw.out HB_13.out
                  go_wp2
                  go_ret
                  exact ⟨rfl, hbF⟩
                · skip
                  clear HOP
                  have HSH : Hid (shB na nz = true) := Lib.hid hr2
                  have hrb := rs_b hr1
                  have y1 : decide ((s.size : Int) < 1) = false := by simp; omega
                  have y2 : decide ((200 : Int) < (s.size : Int)) = false := by simp; omega
                  go_wp2_with fail
                  refine (rshort_any A na ca C Z nz cz true HSH _).mono ?_
                  rintro e w12 ⟨rfl, hb0⟩
                  have HB_12 := Lib.hid (below_ext HB_11.out hb0)
                  have HB_w4_12 := Lib.hid (below_ext HB_w4_11.out hb0)
                  have HB_w5_12 := Lib.hid (below_ext HB_w5_11.out hb0)
                  have HB_w7_12 := Lib.hid (below_ext HB_w7_11.out hb0)
                  have HB_wx_12 := Lib.hid (below_ext HB_wx_11.out hb0)
                  clear zc0 zc1 zc2 zc3 zc4 zc5 zc6 kN_0 kN_1
                  clear hb0
                  obtain ⟨zc0, zc1, zc2, zc3, zc4, zc5, zc6⟩ := kC.out _ HB_12
                  obtain ⟨kN_0, kN_1⟩ := kN.out _ HB_w5_12
                  have y3 : decide ((m : Int) < (n : Int)) = false := by simp; omega
                  have y4 : decide ((100 : Int) ≤ (n : Int)) = true := by simp; omega
                  clear h100
                  go_wp2_with fail
                  refine (none_any O7 0 c7 K7 0 d7 true (Lib.hid rfl) _).mono ?_
                  rintro e w13 ⟨rfl, hb0⟩
                  have HB_13 := Lib.hid (below_ext HB_12.out hb0)
                  have HB_w4_13 := Lib.hid (below_ext HB_w4_12.out hb0)
                  have HB_w5_13 := Lib.hid (below_ext HB_w5_12.out hb0)
                  have HB_w7_13 := Lib.hid (below_ext HB_w7_12.out hb0)
                  have HB_wx_13 := Lib.hid (below_ext HB_wx_12.out hb0)
                  clear zc0 zc1 zc2 zc3 zc4 zc5 zc6 kN_0 kN_1
                  clear hb0
                  obtain ⟨zc0, zc1, zc2, zc3, zc4, zc5, zc6⟩ := kC.out _ HB_13
                  obtain ⟨kN_0, kN_1⟩ := kN.out _ HB_w5_13
                  have hbF := below_ext HBw.out HB_13.out
                  go_wp2
                  go_ret
                  exact ⟨rfl, hbF⟩
                · skip
                  clear HOP
                  have em8 := em7.symm
                  have eh8 := eh7.symm
                  subst em8
                  subst eh8
                  have HSH : Hid (shB na nz = true) := Lib.hid hr2
                  have hrb := rs_b hr1
                  have y1 : decide ((s.size : Int) < 1) = false := by simp; omega
                  have y2 : decide ((200 : Int) < (s.size : Int)) = false := by simp; omega
                  go_wp2_with fail
                  refine (rshort_any A na ca C Z nz cz true HSH _).mono ?_
                  rintro e w12 ⟨rfl, hb0⟩
                  have HB_12 := Lib.hid (below_ext HB_11.out hb0)
                  have HB_w4_12 := Lib.hid (below_ext HB_w4_11.out hb0)
                  have HB_w5_12 := Lib.hid (below_ext HB_w5_11.out hb0)
                  have HB_w7_12 := Lib.hid (below_ext HB_w7_11.out hb0)
                  have HB_wx_12 := Lib.hid (below_ext HB_wx_11.out hb0)
                  clear zc0 zc1 zc2 zc3 zc4 zc5 zc6 kN_0 kN_1
                  clear hb0
                  obtain ⟨zc0, zc1, zc2, zc3, zc4, zc5, zc6⟩ := kC.out _ HB_12
                  obtain ⟨kN_0, kN_1⟩ := kN.out _ HB_w5_12
                  have y3 : decide ((m : Int) < (n : Int)) = false := by simp; omega
                  have y4 : decide ((100 : Int) ≤ (n : Int)) = false := by simp; omega
                  have HL7 := Lib.hid hl7
                  have HSM := Lib.hid hsm
                  clear hl7 hsm
                  have hnp : ∀ k, k < n → (orL os k).np ≤ 1000000 := fun k hk => by
                    obtain ⟨_, _, _, _, hok⟩ := hO.out k (by rw [hn.out]; exact hk)
                    have := (hSo k hk).n
                    have := hok.2.2.1.1
                    have e : (orL os k).ps.length = (orL os k).np := this
                    omega
                  go_wp2_with fail
                  have HBc : Hid (Below w.heap.size w w12) := Lib.hid (below_ext HBw.out HB_12.out)
                  refine (copy_c n _ os n c K hs m d hn hm hb1 hb2 hnp w hO _ HBc (kHs.out _ HB_12)).mono ?_
                  rintro e w13 ⟨O8, c8, K8, d8, os8, B8, Li8, rfl, hcl, hb0⟩
                  have HCL := Lib.hid hcl
                  clear hcl
                  have HB_13 := Lib.hid (below_ext HB_12.out hb0)
                  have HB_w4_13 := Lib.hid (below_ext HB_w4_12.out hb0)
                  have HB_w5_13 := Lib.hid (below_ext HB_w5_12.out hb0)
                  have HB_w7_13 := Lib.hid (below_ext HB_w7_12.out hb0)
                  have HB_wx_13 := Lib.hid (below_ext HB_wx_12.out hb0)
                  clear zc0 zc1 zc2 zc3 zc4 zc5 zc6 kN_0 kN_1
                  clear hb0
                  obtain ⟨zc0, zc1, zc2, zc3, zc4, zc5, zc6⟩ := kC.out _ HB_13
                  obtain ⟨kN_0, kN_1⟩ := kN.out _ HB_w5_13
                  have HB_w13_13 : Hid (Below w13.heap.size w13 w13) := Lib.hid (Below.refl _ _)
                  have hq := below_box0 w13 (tlO O8 n c8 K8 m d8)
                  have HB_14 := Lib.hid (below_ext HB_13.out hq)
                  have HB_w4_14 := Lib.hid (below_ext HB_w4_13.out hq)
                  have HB_w5_14 := Lib.hid (below_ext HB_w5_13.out hq)
                  have HB_w7_14 := Lib.hid (below_ext HB_w7_13.out hq)
                  have HB_wx_14 := Lib.hid (below_ext HB_wx_13.out hq)
                  have HB_w13_14 := Lib.hid (below_ext HB_w13_13.out hq)
                  have hc : (w13.alloc (tlO O8 n c8 K8 m d8)).cell? ⟨w13.heap.size, 0, none⟩ = some (.slice O8 n c8) ∧ (w13.alloc (tlO O8 n c8 K8 m d8)).cell? ⟨w13.heap.size, 1, none⟩ = some (.slice K8 m d8) := ⟨allocs_cell rfl (by rfl), allocs_cell rfl (by rfl)⟩
                  have HC14 := Lib.hid hc
                  have HK14 := Lib.hid (heap_alloc_new w13 (tlO O8 n c8 K8 m d8))
                  clear zc0 zc1 zc2 zc3 zc4 zc5 zc6 kN_0 kN_1
                  clear hq
                  obtain ⟨zc0, zc1, zc2, zc3, zc4, zc5, zc6⟩ := kC.out _ HB_14
                  obtain ⟨kN_0, kN_1⟩ := kN.out _ HB_w5_14
                  obtain ⟨zq0, zq1⟩ := hc
                  go_upto_region 31 with (fail)
                  obtain ⟨w14, hw⟩ : ∃ x, (w13.alloc (tlO O8 n c8 K8 m d8)) = x := ⟨_, rfl⟩
                  rw [hw] at HC14 HK14 HB_14 HB_w4_14 HB_w5_14 HB_w7_14 HB_wx_14 HB_w13_14 ⊢
                  have HSN14 : Hid (w14.heap.size = w13.heap.size + 1) := Lib.hid (by rw [← hw]; simp)
                  clear zc0 zc1 zc2 zc3 zc4 zc5 zc6 kN_0 kN_1 zq0 zq1
                  clear hw
                  have HB_w14_14 : Hid (Below w14.heap.size w14 w14) := Lib.hid (Below.refl _ _)
                  have kG := Lib.hid (show ∀ u : World, Hid (Below w14.heap.size w14 u) → u.cell? ⟨w13.heap.size, 0, none⟩ = some (.slice O8 n c8) ∧ u.cell? ⟨w13.heap.size, 1, none⟩ = some (.slice K8 m d8) from fun u h => ⟨cell_below HC14.out.1 h.out, cell_below HC14.out.2 h.out⟩)
                  obtain ⟨zc0, zc1, zc2, zc3, zc4, zc5, zc6⟩ := kC.out _ HB_14
                  obtain ⟨kN_0, kN_1⟩ := kN.out _ HB_w5_14
                  obtain ⟨kG_0, kG_1⟩ := kG.out _ HB_w14_14
                  have HC1 : Hid (Cld w.heap.size n w12.heap.size os n hs m O8 c8 K8 d8 os8 B8 w13.heap.size Li8 w14) := Lib.hid (HCL.out.below (HB_w13_14).out)
                  have hNu := HC1.out.Nu
                  have hBN := HC1.out.BN
                  have hlB := HC1.out.lB
                  have hlw := HC1.out.lwo
                  have HGB : Hid (w14.heap[w13.heap.size]? = some (tlO O8 n c8 K8 m d8)) := HK14
                  have f0 := frozen_blk HGB.out 0
                  have hown : (w14.alloc (.cells #[.int .i64 (n : Int), .string s, .int .i64 E1, .int .i64 E2, .slice A na ca, .int .i64 C, .slice Z nz cz, .slice none 0 0, .int .i64 0] 46)).ownsRow (B8 + 1) 46 9 (.slice O8 n c8) n (os8.flatMap ordC) := HC1.out.ro.alloc _
                  have b5 : n + 1 ≤ maxLen := by unfold maxLen; omega
                  have b6 : (n + 1) * 128 ≤ 140737488355328 := by omega
                  have b7 : B8 + 1 ≤ (w14.alloc (.cells #[.int .i64 (n : Int), .string s, .int .i64 E1, .int .i64 E2, .slice A na ca, .int .i64 C, .slice Z nz cz, .slice none 0 0, .int .i64 0] 46)).heap.size := by simp; omega
                  have hno8 : (Value.slice O8 n c8).ownBlock ≠ some w13.heap.size := fun e => by have := HC1.out.bo _ e; omega
                  have HTa := Lib.hid (below_box0 w14 (.cells #[.int .i64 (n : Int), .string s, .int .i64 E1, .int .i64 E2, .slice A na ca, .int .i64 C, .slice Z nz cz, .slice none 0 0, .int .i64 0] 46))
                  go_upto_region 32 with (at_builtin; refine wpList_append_lies rfl _ _ 22 rfl (B8 + 1) 46 i1 (.agg #[.int .i64 0, .string ⟨#[]⟩, .int .i64 0, .int .i64 0, .slice none 0 0, .int .i64 0, .slice none 0 0, .slice none 0 0, .int .i64 0]) 9 128 Tryd.underlying22 hi1 hy0 hy1 hy2 (by rfl) (by decide) _ _ _ rfl hown ⟨w14.heap.size, 0, none⟩ 1 1 [.int .i64 (n : Int), .string s, .int .i64 E1, .int .i64 E2, .slice A na ca, .int .i64 C, .slice Z nz cz, .slice none 0 0, .int .i64 0] rfl rfl (World.news_of_block (cs := #[.int .i64 (n : Int), .string s, .int .i64 E1, .int .i64 E2, .slice A na ca, .int .i64 C, .slice Z nz cz, .slice none 0 0, .int .i64 0]) (t := 46) (fr := (0, 0)) (heap_alloc_new w14 _)) (by simp [Value.oneCell']) (by decide) b5 b6 b7 _ rfl ?_; intro gg cap w8 hown8 hgrow8 hgg8 hlt8; obtain ⟨p1, p2⟩ := own_grown2 (w := w14.alloc (.cells #[.int .i64 (n : Int), .string s, .int .i64 E1, .int .i64 E2, .slice A na ca, .int .i64 C, .slice Z nz cz, .slice none 0 0, .int .i64 0] 46)) ((show Own w14 ⟨w13.heap.size, 0, none⟩ (.slice O8 n c8) from ⟨kG_0, f0⟩).below HTa.out) hgrow8 hno8; obtain ⟨p3, p4⟩ := own_grown2 (w := w14.alloc (.cells #[.int .i64 (n : Int), .string s, .int .i64 E1, .int .i64 E2, .slice A na ca, .int .i64 C, .slice Z nz cz, .slice none 0 0, .int .i64 0] 46)) ((show Own w14 ⟨w13.heap.size, 1, none⟩ (.slice K8 m d8) from ⟨kG_1, frozen_blk HGB.out 1⟩).below HTa.out) hgrow8 hno8)
                  clear zc0 zc1 zc2 zc3 zc4 zc5 zc6 kN_0 kN_1 kG_0 kG_1
                  have hgT : w13.heap.size < w14.heap.size := heap_lt HGB.out
                  have hsq : (w14.alloc (.cells #[.int .i64 (n : Int), .string s, .int .i64 E1, .int .i64 E2, .slice A na ca, .int .i64 C, .slice Z nz cz, .slice none 0 0, .int .i64 0] 46)).heap.size = w14.heap.size + 1 := by simp
                  have HOW9 : Hid (w8.ownsRow (B8 + 1) 46 9 (.slice (some ⟨gg, 0, none⟩) (n + 1) cap) (n + 1) (os8.flatMap ordC ++ ordC (⟨(n : Int), s, E1, E2, A, na, ca, al, C, Z, nz, cz, zs, none, 0, 0, [], 0⟩ : OrdR))) := Lib.hid (by simpa using hown8)
                  have HGG : Hid ((Value.slice O8 n c8).ownBlock = some gg ∨ w14.heap.size ≤ gg) := Lib.hid (by rcases hgg8 with e | e; exact .inl e; exact .inr (by omega))
                  obtain ⟨w9, hw9⟩ : ∃ x, w8.setCell ⟨w13.heap.size, 0, none⟩ (.slice (some ⟨gg, 0, none⟩) (n + 1) cap) = x := ⟨_, rfl⟩
                  have T0 : Own w9 ⟨w13.heap.size, 0, none⟩ (.slice (some ⟨gg, 0, none⟩) (n + 1) cap) := by rw [← hw9]; exact own_set_eq2 ⟨p1, p2⟩
                  have T1 : Own w9 ⟨w13.heap.size, 1, none⟩ (.slice K8 m d8) := by rw [← hw9]; exact own_set_ne2 ⟨p3, p4⟩ (by simp)
                  have HFR : Hid (∀ b, b < w14.heap.size → (Value.slice O8 n c8).ownBlock ≠ some b → b ≠ w13.heap.size → w9.heap[b]? = w14.heap[b]?) := Lib.hid (fun b h1 h2 h3 => by rw [← hw9]; exact (Go.Deep.blk_setCell_other _ _ _ _ h3).trans ((hgrow8.block b (by omega) (fun e => h2 e.symm)).trans (HTa.out.block b h1)))
                  have HGF : Hid (gg ≠ w13.heap.size ∧ w9.heap[gg]? = w8.heap[gg]?) := Lib.hid (by
                    have hne : gg ≠ w13.heap.size := by
                      rcases HGG.out with e | e
                      · exact fun e2 => hno8 (by rw [e, e2])
                      · omega
                    refine ⟨hne, ?_⟩
                    rw [← hw9]; exact Go.Deep.blk_setCell_other _ _ _ _ hne)
                  have HV_w0 : Hid (Below w0.heap.size w0 w9) := Lib.hid (by
                    have hc9 := HB_12.out.size
                    rw [← hw9]
                    exact ((HB_14.out.alloc HB_14.out.size (.cells #[.int .i64 (n : Int), .string s, .int .i64 E1, .int .i64 E2, .slice A na ca, .int .i64 C, .slice Z nz cz, .slice none 0 0, .int .i64 0] 46)).grown hgrow8 (by have := HB_14.out.size; simp; omega) (fun j hj => by have := HC1.out.bo j hj; omega)).setCell (show w0.heap.size ≤ w13.heap.size by omega) _)
                  have HV_w4 : Hid (Below w4.heap.size w4 w9) := Lib.hid (by
                    have hc9 := HB_w4_12.out.size
                    rw [← hw9]
                    exact ((HB_w4_14.out.alloc HB_w4_14.out.size (.cells #[.int .i64 (n : Int), .string s, .int .i64 E1, .int .i64 E2, .slice A na ca, .int .i64 C, .slice Z nz cz, .slice none 0 0, .int .i64 0] 46)).grown hgrow8 (by have := HB_w4_14.out.size; simp; omega) (fun j hj => by have := HC1.out.bo j hj; omega)).setCell (show w4.heap.size ≤ w13.heap.size by omega) _)
                  have HV_w5 : Hid (Below w5.heap.size w5 w9) := Lib.hid (by
                    have hc9 := HB_w5_12.out.size
                    rw [← hw9]
                    exact ((HB_w5_14.out.alloc HB_w5_14.out.size (.cells #[.int .i64 (n : Int), .string s, .int .i64 E1, .int .i64 E2, .slice A na ca, .int .i64 C, .slice Z nz cz, .slice none 0 0, .int .i64 0] 46)).grown hgrow8 (by have := HB_w5_14.out.size; simp; omega) (fun j hj => by have := HC1.out.bo j hj; omega)).setCell (show w5.heap.size ≤ w13.heap.size by omega) _)
                  have HV_w7 : Hid (Below w7.heap.size w7 w9) := Lib.hid (by
                    have hc9 := HB_w7_12.out.size
                    rw [← hw9]
                    exact ((HB_w7_14.out.alloc HB_w7_14.out.size (.cells #[.int .i64 (n : Int), .string s, .int .i64 E1, .int .i64 E2, .slice A na ca, .int .i64 C, .slice Z nz cz, .slice none 0 0, .int .i64 0] 46)).grown hgrow8 (by have := HB_w7_14.out.size; simp; omega) (fun j hj => by have := HC1.out.bo j hj; omega)).setCell (show w7.heap.size ≤ w13.heap.size by omega) _)
                  have HV_wx : Hid (Below wx.heap.size wx w9) := Lib.hid (by
                    have hc9 := HB_wx_12.out.size
                    rw [← hw9]
                    exact ((HB_wx_14.out.alloc HB_wx_14.out.size (.cells #[.int .i64 (n : Int), .string s, .int .i64 E1, .int .i64 E2, .slice A na ca, .int .i64 C, .slice Z nz cz, .slice none 0 0, .int .i64 0] 46)).grown hgrow8 (by have := HB_wx_14.out.size; simp; omega) (fun j hj => by have := HC1.out.bo j hj; omega)).setCell (show wx.heap.size ≤ w13.heap.size by omega) _)
                  have hbw9 : Below w.heap.size w w9 := below_ext HBw.out HV_w0.out
                  have hcs := HB_12.out.size
                  have hsw := HSW.out
                  have hokN : OrdOk w9 (⟨(n : Int), s, E1, E2, A, na, ca, al, C, Z, nz, cz, zs, none, 0, 0, [], 0⟩ : OrdR) := ⟨hna.out, hnz.out, ⟨rfl, Nat.le_refl _⟩, hA.out.below hbw9, hZ.out.below hbw9, fun j hj => absurd hj (by simp)⟩
                  obtain ⟨hos, hhs⟩ := HC1.out.opened (wF := w9) (gT := w13.heap.size) (r := w.heap.size) (o := (⟨(n : Int), s, E1, E2, A, na, ca, al, C, Z, nz, cz, zs, none, 0, 0, [], 0⟩ : OrdR)) (hs_lens hK.out) hm.out HOW9.out HGF.out.2 (fun b h1 h2 h3 _ => HFR.out b h1 h2 h3) (.inr (Nat.le_refl _)) ⟨Nat.le_refl _, by omega⟩ hokN
                  have HOS9 := Lib.hid hos
                  have HHS9 := Lib.hid hhs
                  have HLE8 : Hid ((os8 ++ [(⟨(n : Int), s, E1, E2, A, na, ca, al, C, Z, nz, cz, zs, none, 0, 0, [], 0⟩ : OrdR)]).length = n + 1) := Lib.hid (by rw [List.length_append, HC1.out.l]; rfl)
                  have HSAME : Hid (∀ k, k < n + 1 → OrdS (orL os7 k) ∧ OrdS (orL (os8 ++ [(⟨(n : Int), s, E1, E2, A, na, ca, al, C, Z, nz, cz, zs, none, 0, 0, [], 0⟩ : OrdR)]) k) ∧ OrdI (orL os7 k) ∧ oIt (orL os7 k) = oIt (orL (os8 ++ [(⟨(n : Int), s, E1, E2, A, na, ca, al, C, Z, nz, cz, zs, none, 0, 0, [], 0⟩ : OrdR)]) k)) := Lib.hid (fun k hk => by
                    have hsh := sh_b HSH.out
                    have s7 := HSM.out k hk
                    by_cases e : k = n
                    · rw [e, orL_app_r hn.out] at s7
                      rw [e, orL_app_r HC1.out.l]
                      have hS9 : OrdS (⟨(n : Int), s, E1, E2, A, na, ca, al, C, Z, nz, cz, zs, none, 0, 0, [], 0⟩ : OrdR) := ⟨by rw [hna.out]; exact hsh.1, by rw [hnz.out]; exact hsh.2, by simp, fun p hp => absurd hp (by simp), hrb.1, hrb.2⟩
                      have hi9 : i64 (n : Int) := ⟨by omega, by omega⟩
                      have h00 : i64 (0 : Int) := ⟨by decide, by decide⟩
                      have hI9 : OrdI (⟨(n : Int), s, E1, E2, A, na, ca, al, C, Z, nz, cz, zs, none, 0, 0, [], 0⟩ : OrdR) := ⟨hi9, hE.1, hE.2.1, hE.2.2.1, h00, hE.2.2.2.1, hE.2.2.2.2, fun p hp => absurd hp (by simp)⟩
                      exact ⟨s7.s hS9, hS9, s7.i hI9, s7.it⟩
                    · rw [orL_app_l (by rw [hn.out]; omega)] at s7
                      rw [orL_app_l (by rw [HC1.out.l]; omega)]
                      have s8 := HC1.out.sam k (by omega)
                      have hS9 := hSo k (by omega)
                      exact ⟨s7.s hS9, s8.s hS9, s7.i (hI k (by omega)), s7.it.trans s8.it.symm⟩)
                  rw [hw9]
                  clear hw9 hown hown8 hgrow8 hgg8 hlt8 p1 p2 p3 p4 b5 b6 b7 hsq hno8 hgT hos hhs hokN hcs hsw f0 hNu hBN hlB hlw
                  obtain ⟨t0, y0⟩ := T0
                  obtain ⟨t1, y1⟩ := T1
                  obtain ⟨zc0, zc1, zc2, zc3, zc4, zc5, zc6⟩ := kC.out _ HV_w0
                  obtain ⟨kN_0, kN_1⟩ := kN.out _ HV_w5
                  go_wp2_with fail
                  refine (same51_any O7 os7 c7 K7 d7 (some ⟨gg, 0, none⟩) (os8 ++ [(⟨(n : Int), s, E1, E2, A, na, ca, al, C, Z, nz, cz, zs, none, 0, 0, [], 0⟩ : OrdR)]) cap K8 d8 (n + 1) _ m HL7 HLE8 hm (by omega) hb2 HSAME _ (kO7.out _ HV_w4) (kH7.out _ HV_w4) HOS9 HHS9).mono ?_
                  rintro e w15 ⟨rfl, hb0⟩
                  have HB_15 := Lib.hid (below_ext HV_w0.out hb0)
                  have HB_w4_15 := Lib.hid (below_ext HV_w4.out hb0)
                  have HB_w5_15 := Lib.hid (below_ext HV_w5.out hb0)
                  have HB_w7_15 := Lib.hid (below_ext HV_w7.out hb0)
                  have HB_wx_15 := Lib.hid (below_ext HV_wx.out hb0)
                  clear zc0 zc1 zc2 zc3 zc4 zc5 zc6 kN_0 kN_1
                  clear hb0
                  obtain ⟨zc0, zc1, zc2, zc3, zc4, zc5, zc6⟩ := kC.out _ HB_15
                  obtain ⟨kN_0, kN_1⟩ := kN.out _ HB_w5_15
                  have hbF := below_ext HBw.out HB_15.out
                  go_wp2
                  go_ret
                  exact ⟨rfl, hbF⟩
end Go.Proofs.YtofkihlpbfcdkaaDoor
