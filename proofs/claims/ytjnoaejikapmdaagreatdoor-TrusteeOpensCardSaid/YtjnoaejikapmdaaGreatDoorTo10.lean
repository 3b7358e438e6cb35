/- Contracts and lemmas: TruK. -/
import Derived.Test.YtjnoaejikapmdaaGreatDoorTo9
namespace Go.Proofs.YtjnoaejikapmdaaGreatDoor
open Go.RowKit SpM
set_option linter.unusedVariables false
set_option linter.unusedSimpArgs false
set_option maxRecDepth 100000
theorem cmb_any (P Q G need : Int) (Cs : Option Addr) (cs : List Int) (cn cc : Nat) (Ks : Option Addr) (ks : List Int) (kn kc : Nat) (hcn : Hid (cs.length = cn)) (hkn : Hid (ks.length = kn)) (E1 E2 : Int) (A : Option Addr) (na ca : Nat) (C : Int) (Z : Option Addr) (nz cz : Nat) (L : Option Addr) (ps : List PartR) (n c : Nat) (hn : Hid (ps.length = n)) (hlr : Hid (∀ k, k < n → r64 (ps.getD k noPart).ix)) (hnb : n ≤ 100) (ht : Hid (trB P Q G need cs ks = true)) (v e : Int) (hv9 : Hid (cmbV P Q need kn E1 E2 ps = v)) (he9 : Hid (cmbE P Q need kn E1 E2 ps = e)) (hQ : Q < 9223372036854775808) (w : World) (hv : Hid (Vars w)) (hC : Hid (Sl w Cs cs)) (hK : Hid (Sl w Ks ks)) (hL : Hid (Pa w L ps)) :
    Calls Tryz.prog 26 #[gv P Q G, trV need Cs cn cc Ks kn kc, esV E1 E2 A na ca C Z nz cz, .slice L n c] w fun e' w' => e' = .returned (.tuple #[.int .i64 v, .int .i64 e]) ∧ Below w.heap.size w w' := by
  obtain ⟨HVG, n1, n2, n3, n4, n5, n6⟩ := trB_parts ht.out hcn.out hkn.out
  obtain ⟨m, rfl⟩ : ∃ m : Nat, need = m := ⟨need.toNat, by omega⟩
  rw [← hv9.out, ← he9.out]
  cases m1 : memG P Q E1 with
  | false =>
    have e2 : cmbE P Q m kn E1 E2 ps = 2 := by rw [cmbE, m1]; rfl
    rw [cmbV, e2]
    exact cmb_2 P Q G m Cs cs cn cc Ks ks kn kc hcn hkn E1 E2 A na ca C Z nz cz L ps n c hn hnb hlr ht (Lib.hid m1) hQ w hv hC hK hL
  | true =>
    cases m2 : memG P Q E2 with
    | false =>
      have e2 : cmbE P Q m kn E1 E2 ps = 2 := by rw [cmbE, m1, m2]; rfl
      rw [cmbV, e2]
      exact cmb_3 P Q G m Cs cs cn cc Ks ks kn kc hcn hkn E1 E2 A na ca C Z nz cz L ps n c hn hnb hlr ht (Lib.hid m1) (Lib.hid m2) hQ w hv hC hK hL
    | true => exact cmb_4 P Q G m Cs cs cn cc Ks ks kn kc hcn hkn E1 E2 A na ca C Z nz cz L ps n c hn hnb hlr ht (Lib.hid m1) (Lib.hid m2) hQ w hv hC hK hL
theorem rcmb_any (P Q G need : Int) (Cs : Option Addr) (cs : List Int) (cn cc : Nat) (Ks : Option Addr) (ks : List Int) (kn kc : Nat) (hcn : Hid (cs.length = cn)) (hkn : Hid (ks.length = kn)) (E1 E2 : Int) (A : Option Addr) (na ca : Nat) (C : Int) (Z : Option Addr) (nz cz : Nat) (L : Option Addr) (ps : List PartR) (n c : Nat) (hn : Hid (ps.length = n)) (hlr : Hid (∀ k, k < n → r64 (ps.getD k noPart).ix)) (hnb : n ≤ 100) (ht : Hid (trB P Q G need cs ks = true)) (v e : Int) (hv9 : Hid (cmbV P Q need kn E1 E2 ps = v)) (he9 : Hid (cmbE P Q need kn E1 E2 ps = e)) (w : World) (hL : Hid (Pa w L ps)) :
    Calls Tryz.prog 27 #[gv P Q G, trV need Cs cn cc Ks kn kc, esV E1 E2 A na ca C Z nz cz, .slice L n c] w fun e' w' => e' = .returned (.tuple #[.int .i64 v, .int .i64 e]) ∧ Below w.heap.size w w' := by
  obtain ⟨HVG, n1, n2, n3, n4, n5, n6⟩ := trB_parts ht.out hcn.out hkn.out
  obtain ⟨m, rfl⟩ : ∃ m : Nat, need = m := ⟨need.toNat, by omega⟩
  rw [← hv9.out, ← he9.out]
  cases m1 : memG P Q E1 with
  | false =>
    have e2 : cmbE P Q m kn E1 E2 ps = 2 := by rw [cmbE, m1]; rfl
    rw [cmbV, e2]
    exact rcmb_2 P Q G m Cs cn cc Ks kn kc HVG n2 n3 n4 n5 E1 E2 A na ca C Z nz cz L ps n c hn hnb hlr (Lib.hid m1) w hL
  | true =>
    cases m2 : memG P Q E2 with
    | false =>
      have e2 : cmbE P Q m kn E1 E2 ps = 2 := by rw [cmbE, m1, m2]; rfl
      rw [cmbV, e2]
      exact rcmb_3 P Q G m Cs cn cc Ks kn kc HVG n2 n3 n4 n5 E1 E2 A na ca C Z nz cz L ps n c hn hnb hlr (Lib.hid m1) (Lib.hid m2) w hL
    | true => exact rcmb_4 P Q G m Cs cn cc Ks kn kc HVG n2 n3 n4 n5 E1 E2 A na ca C Z nz cz L ps n c hn hnb hlr (Lib.hid m1) (Lib.hid m2) w hL
theorem tvrB_lab {P Q G need : Int} {cs ks : List Int} {E1 ix v C : Int} {lb al zs : List Int} (h : labB lb = false) : tvrB P Q G need cs ks E1 ix v C lb al zs = false := by
  rw [tvrB, eqVer, verL, h]; simp
theorem tvrB_tr {P Q G need : Int} {cs ks : List Int} {E1 ix v C : Int} {lb al zs : List Int} (h : trB P Q G need cs ks = false) : tvrB P Q G need cs ks E1 ix v C lb al zs = false := by
  rw [tvrB, h]; rfl
theorem lng_parts {ps : List PartR} {k : Nat} (h : ps.any lngB = false) (hk : k < ps.length) : (ps.getD k noPart).na ≤ 50 ∧ (ps.getD k noPart).nz ≤ 50 := by
  rw [List.getD_eq_getElem?_getD, List.getElem?_eq_getElem hk]
  have := List.any_eq_false.1 h _ (List.getElem_mem hk)
  simpa [lngB] using this
set_option maxHeartbeats 6400000 in
theorem to_1 (P Q G need : Int) (Cs : Option Addr) (cs : List Int) (cn cc : Nat) (Ks : Option Addr) (ks : List Int) (kn kc : Nat) (hcn : Hid (cs.length = cn)) (hkn : Hid (ks.length = kn)) (E1 E2 : Int) (A : Option Addr) (na ca : Nat) (C : Int) (Z : Option Addr) (nz cz : Nat) (s : ByteArray) (L : Option Addr) (ps : List PartR) (n c : Nat) (hn : Hid (ps.length = n)) (hlr : Hid (∀ k, k < n → r64 (ps.getD k noPart).ix)) (hQ : Q < 9223372036854775808) (hgr : Hid ((decide (50 < cn) || decide (50 < kn)) = true)) (w : World) (hv : Hid (Vars w)) (hd0 : Hid (VarsD w)) (hC : Hid (Sl w Cs cs)) (hK : Hid (Sl w Ks ks)) (hL : Hid (Pa w L ps)) :
    Calls Tryz.prog 5 #[gv P Q G, trV need Cs cn cc Ks kn kc, esV E1 E2 A na ca C Z nz cz, .string s, .slice L n c] w fun e' w' => e' = .returned (.bool true) ∧ Below w.heap.size w w' := by
  obtain ⟨w0, HW, HBw, kC⟩ := stz7 P Q G need Cs cn cc Ks kn kc E1 E2 A na ca C Z nz cz w
  have kV := Lib.hid (show ∀ u : World, Hid (Below w0.heap.size w0 u) → Hid (Vars u) from fun u h => Lib.hid ((hv.out.below) (below_ext HBw.out h.out)))
  have kD := Lib.hid (show ∀ u : World, Hid (Below w0.heap.size w0 u) → Hid (VarsD u) from fun u h => Lib.hid ((hd0.out.below) (below_ext HBw.out h.out)))
  have kCs := Lib.hid (show ∀ u : World, Hid (Below w0.heap.size w0 u) → Hid (Sl u Cs cs) from fun u h => Lib.hid ((hC.out.below) (below_ext HBw.out h.out)))
  have kKs := Lib.hid (show ∀ u : World, Hid (Below w0.heap.size w0 u) → Hid (Sl u Ks ks) from fun u h => Lib.hid ((hK.out.below) (below_ext HBw.out h.out)))
  have kL := Lib.hid (show ∀ u : World, Hid (Below w0.heap.size w0 u) → Hid (Pa u L ps) from fun u h => Lib.hid ((hL.out.below) (below_ext HBw.out h.out)))
  have HB_0 : Hid (Below w0.heap.size w0 w0) := Lib.hid (Below.refl _ _)
  clear hv hd0 hC hK hL
  go_enter Tryz.func5, Tryz.ntmps5
  go_wp2_with fail
  rw [HW.out]
  obtain ⟨zc0, zc1, zc2, zc3, zc4, zc5, zc6, zc7, zc8, zc9, zc10⟩ := kC.out _ HB_0
  go_wp2_with fail
  refine (awake50 _ (kV.out _ HB_0)).mono ?_
  rintro e w1 ⟨rfl, hb0⟩
  have HB_1 := Lib.hid (below_ext HB_0.out hb0)
  clear zc0 zc1 zc2 zc3 zc4 zc5 zc6 zc7 zc8 zc9 zc10
  clear hb0
  obtain ⟨zc0, zc1, zc2, zc3, zc4, zc5, zc6, zc7, zc8, zc9, zc10⟩ := kC.out _ HB_1
  go_wp2_with fail
  refine (great50_any need Cs cn cc Ks kn kc true hgr _).mono ?_
  rintro e w2 ⟨rfl, hb0⟩
  have HB_2 := Lib.hid (below_ext HB_1.out hb0)
  clear zc0 zc1 zc2 zc3 zc4 zc5 zc6 zc7 zc8 zc9 zc10
  clear hb0
  obtain ⟨zc0, zc1, zc2, zc3, zc4, zc5, zc6, zc7, zc8, zc9, zc10⟩ := kC.out _ HB_2
  have hbF := below_ext HBw.out HB_2.out
  go_wp2
  go_ret
  exact ⟨rfl, hbF⟩
set_option maxHeartbeats 6400000 in
theorem to_2 (P Q G need : Int) (Cs : Option Addr) (cs : List Int) (cn cc : Nat) (Ks : Option Addr) (ks : List Int) (kn kc : Nat) (hcn : Hid (cs.length = cn)) (hkn : Hid (ks.length = kn)) (E1 E2 : Int) (A : Option Addr) (na ca : Nat) (C : Int) (Z : Option Addr) (nz cz : Nat) (s : ByteArray) (L : Option Addr) (ps : List PartR) (n c : Nat) (hn : Hid (ps.length = n)) (hlr : Hid (∀ k, k < n → r64 (ps.getD k noPart).ix)) (hQ : Q < 9223372036854775808) (hgr : Hid ((decide (50 < cn) || decide (50 < kn)) = false)) (hl : 20 < n) (w : World) (hv : Hid (Vars w)) (hd0 : Hid (VarsD w)) (hC : Hid (Sl w Cs cs)) (hK : Hid (Sl w Ks ks)) (hL : Hid (Pa w L ps)) :
    Calls Tryz.prog 5 #[gv P Q G, trV need Cs cn cc Ks kn kc, esV E1 E2 A na ca C Z nz cz, .string s, .slice L n c] w fun e' w' => e' = .returned (.bool true) ∧ Below w.heap.size w w' := by
  have dl : decide ((20 : Int) < (n : Int)) = true := by simp; omega
  obtain ⟨w0, HW, HBw, kC⟩ := stz7 P Q G need Cs cn cc Ks kn kc E1 E2 A na ca C Z nz cz w
  have kV := Lib.hid (show ∀ u : World, Hid (Below w0.heap.size w0 u) → Hid (Vars u) from fun u h => Lib.hid ((hv.out.below) (below_ext HBw.out h.out)))
  have kD := Lib.hid (show ∀ u : World, Hid (Below w0.heap.size w0 u) → Hid (VarsD u) from fun u h => Lib.hid ((hd0.out.below) (below_ext HBw.out h.out)))
  have kCs := Lib.hid (show ∀ u : World, Hid (Below w0.heap.size w0 u) → Hid (Sl u Cs cs) from fun u h => Lib.hid ((hC.out.below) (below_ext HBw.out h.out)))
  have kKs := Lib.hid (show ∀ u : World, Hid (Below w0.heap.size w0 u) → Hid (Sl u Ks ks) from fun u h => Lib.hid ((hK.out.below) (below_ext HBw.out h.out)))
  have kL := Lib.hid (show ∀ u : World, Hid (Below w0.heap.size w0 u) → Hid (Pa u L ps) from fun u h => Lib.hid ((hL.out.below) (below_ext HBw.out h.out)))
  have HB_0 : Hid (Below w0.heap.size w0 w0) := Lib.hid (Below.refl _ _)
  clear hv hd0 hC hK hL
  go_enter Tryz.func5, Tryz.ntmps5
  go_wp2_with fail
  rw [HW.out]
  obtain ⟨zc0, zc1, zc2, zc3, zc4, zc5, zc6, zc7, zc8, zc9, zc10⟩ := kC.out _ HB_0
  go_wp2_with fail
  refine (awake50 _ (kV.out _ HB_0)).mono ?_
  rintro e w1 ⟨rfl, hb0⟩
  have HB_1 := Lib.hid (below_ext HB_0.out hb0)
  clear zc0 zc1 zc2 zc3 zc4 zc5 zc6 zc7 zc8 zc9 zc10
  clear hb0
  obtain ⟨zc0, zc1, zc2, zc3, zc4, zc5, zc6, zc7, zc8, zc9, zc10⟩ := kC.out _ HB_1
  go_wp2_with fail
  refine (great50_any need Cs cn cc Ks kn kc false hgr _).mono ?_
  rintro e w2 ⟨rfl, hb0⟩
  have HB_2 := Lib.hid (below_ext HB_1.out hb0)
  clear zc0 zc1 zc2 zc3 zc4 zc5 zc6 zc7 zc8 zc9 zc10
  clear hb0
  obtain ⟨zc0, zc1, zc2, zc3, zc4, zc5, zc6, zc7, zc8, zc9, zc10⟩ := kC.out _ HB_2
  have hbF := below_ext HBw.out HB_2.out
  go_wp2
  go_ret
  exact ⟨rfl, hbF⟩
set_option maxHeartbeats 6400000 in
theorem to_3 (P Q G need : Int) (Cs : Option Addr) (cs : List Int) (cn cc : Nat) (Ks : Option Addr) (ks : List Int) (kn kc : Nat) (hcn : Hid (cs.length = cn)) (hkn : Hid (ks.length = kn)) (E1 E2 : Int) (A : Option Addr) (na ca : Nat) (C : Int) (Z : Option Addr) (nz cz : Nat) (s : ByteArray) (L : Option Addr) (ps : List PartR) (n c : Nat) (hn : Hid (ps.length = n)) (hlr : Hid (∀ k, k < n → r64 (ps.getD k noPart).ix)) (hQ : Q < 9223372036854775808) (hgr : Hid ((decide (50 < cn) || decide (50 < kn)) = false)) (hl : n ≤ 20) (hlg : Hid (ps.any lngB = true)) (w : World) (hv : Hid (Vars w)) (hd0 : Hid (VarsD w)) (hC : Hid (Sl w Cs cs)) (hK : Hid (Sl w Ks ks)) (hL : Hid (Pa w L ps)) :
    Calls Tryz.prog 5 #[gv P Q G, trV need Cs cn cc Ks kn kc, esV E1 E2 A na ca C Z nz cz, .string s, .slice L n c] w fun e' w' => e' = .returned (.bool true) ∧ Below w.heap.size w w' := by
  have dl : decide ((20 : Int) < (n : Int)) = false := by simp; omega
  obtain ⟨w0, HW, HBw, kC⟩ := stz7 P Q G need Cs cn cc Ks kn kc E1 E2 A na ca C Z nz cz w
  have kV := Lib.hid (show ∀ u : World, Hid (Below w0.heap.size w0 u) → Hid (Vars u) from fun u h => Lib.hid ((hv.out.below) (below_ext HBw.out h.out)))
  have kD := Lib.hid (show ∀ u : World, Hid (Below w0.heap.size w0 u) → Hid (VarsD u) from fun u h => Lib.hid ((hd0.out.below) (below_ext HBw.out h.out)))
  have kCs := Lib.hid (show ∀ u : World, Hid (Below w0.heap.size w0 u) → Hid (Sl u Cs cs) from fun u h => Lib.hid ((hC.out.below) (below_ext HBw.out h.out)))
  have kKs := Lib.hid (show ∀ u : World, Hid (Below w0.heap.size w0 u) → Hid (Sl u Ks ks) from fun u h => Lib.hid ((hK.out.below) (below_ext HBw.out h.out)))
  have kL := Lib.hid (show ∀ u : World, Hid (Below w0.heap.size w0 u) → Hid (Pa u L ps) from fun u h => Lib.hid ((hL.out.below) (below_ext HBw.out h.out)))
  have HB_0 : Hid (Below w0.heap.size w0 w0) := Lib.hid (Below.refl _ _)
  clear hv hd0 hC hK hL
  go_enter Tryz.func5, Tryz.ntmps5
  go_wp2_with fail
  rw [HW.out]
  obtain ⟨zc0, zc1, zc2, zc3, zc4, zc5, zc6, zc7, zc8, zc9, zc10⟩ := kC.out _ HB_0
  go_wp2_with fail
  refine (awake50 _ (kV.out _ HB_0)).mono ?_
  rintro e w1 ⟨rfl, hb0⟩
  have HB_1 := Lib.hid (below_ext HB_0.out hb0)
  clear zc0 zc1 zc2 zc3 zc4 zc5 zc6 zc7 zc8 zc9 zc10
  clear hb0
  obtain ⟨zc0, zc1, zc2, zc3, zc4, zc5, zc6, zc7, zc8, zc9, zc10⟩ := kC.out _ HB_1
  go_wp2_with fail
  refine (great50_any need Cs cn cc Ks kn kc false hgr _).mono ?_
  rintro e w2 ⟨rfl, hb0⟩
  have HB_2 := Lib.hid (below_ext HB_1.out hb0)
  clear zc0 zc1 zc2 zc3 zc4 zc5 zc6 zc7 zc8 zc9 zc10
  clear hb0
  obtain ⟨zc0, zc1, zc2, zc3, zc4, zc5, zc6, zc7, zc8, zc9, zc10⟩ := kC.out _ HB_2
  go_wp2_with fail
  refine (long50_any L ps n c true hlg hn (by omega) _ (kL.out _ HB_2)).mono ?_
  rintro e w3 ⟨rfl, hb0⟩
  have HB_3 := Lib.hid (below_ext HB_2.out hb0)
  clear zc0 zc1 zc2 zc3 zc4 zc5 zc6 zc7 zc8 zc9 zc10
  clear hb0
  obtain ⟨zc0, zc1, zc2, zc3, zc4, zc5, zc6, zc7, zc8, zc9, zc10⟩ := kC.out _ HB_3
  have hbF := below_ext HBw.out HB_3.out
  go_wp2
  go_ret
  exact ⟨rfl, hbF⟩
set_option maxHeartbeats 6400000 in
theorem to_4 (P Q G need : Int) (Cs : Option Addr) (cs : List Int) (cn cc : Nat) (Ks : Option Addr) (ks : List Int) (kn kc : Nat) (hcn : Hid (cs.length = cn)) (hkn : Hid (ks.length = kn)) (E1 E2 : Int) (A : Option Addr) (na ca : Nat) (C : Int) (Z : Option Addr) (nz cz : Nat) (s : ByteArray) (L : Option Addr) (ps : List PartR) (n c : Nat) (hn : Hid (ps.length = n)) (hlr : Hid (∀ k, k < n → r64 (ps.getD k noPart).ix)) (hQ : Q < 9223372036854775808) (hgr : Hid ((decide (50 < cn) || decide (50 < kn)) = false)) (hl : n ≤ 20) (hlg : Hid (ps.any lngB = false)) (hs : 100 < s.size) (w : World) (hv : Hid (Vars w)) (hd0 : Hid (VarsD w)) (hC : Hid (Sl w Cs cs)) (hK : Hid (Sl w Ks ks)) (hL : Hid (Pa w L ps)) :
    Calls Tryz.prog 5 #[gv P Q G, trV need Cs cn cc Ks kn kc, esV E1 E2 A na ca C Z nz cz, .string s, .slice L n c] w fun e' w' => e' = .returned (.bool true) ∧ Below w.heap.size w w' := by
  have dl : decide ((20 : Int) < (n : Int)) = false := by simp; omega
  have ds : decide ((100 : Int) < (s.size : Int)) = true := by simp; omega
  obtain ⟨w0, HW, HBw, kC⟩ := stz7 P Q G need Cs cn cc Ks kn kc E1 E2 A na ca C Z nz cz w
  have kV := Lib.hid (show ∀ u : World, Hid (Below w0.heap.size w0 u) → Hid (Vars u) from fun u h => Lib.hid ((hv.out.below) (below_ext HBw.out h.out)))
  have kD := Lib.hid (show ∀ u : World, Hid (Below w0.heap.size w0 u) → Hid (VarsD u) from fun u h => Lib.hid ((hd0.out.below) (below_ext HBw.out h.out)))
  have kCs := Lib.hid (show ∀ u : World, Hid (Below w0.heap.size w0 u) → Hid (Sl u Cs cs) from fun u h => Lib.hid ((hC.out.below) (below_ext HBw.out h.out)))
  have kKs := Lib.hid (show ∀ u : World, Hid (Below w0.heap.size w0 u) → Hid (Sl u Ks ks) from fun u h => Lib.hid ((hK.out.below) (below_ext HBw.out h.out)))
  have kL := Lib.hid (show ∀ u : World, Hid (Below w0.heap.size w0 u) → Hid (Pa u L ps) from fun u h => Lib.hid ((hL.out.below) (below_ext HBw.out h.out)))
  have HB_0 : Hid (Below w0.heap.size w0 w0) := Lib.hid (Below.refl _ _)
  clear hv hd0 hC hK hL
  go_enter Tryz.func5, Tryz.ntmps5
  go_wp2_with fail
  rw [HW.out]
  obtain ⟨zc0, zc1, zc2, zc3, zc4, zc5, zc6, zc7, zc8, zc9, zc10⟩ := kC.out _ HB_0
  go_wp2_with fail
  refine (awake50 _ (kV.out _ HB_0)).mono ?_
  rintro e w1 ⟨rfl, hb0⟩
  have HB_1 := Lib.hid (below_ext HB_0.out hb0)
  clear zc0 zc1 zc2 zc3 zc4 zc5 zc6 zc7 zc8 zc9 zc10
  clear hb0
  obtain ⟨zc0, zc1, zc2, zc3, zc4, zc5, zc6, zc7, zc8, zc9, zc10⟩ := kC.out _ HB_1
  go_wp2_with fail
  refine (great50_any need Cs cn cc Ks kn kc false hgr _).mono ?_
  rintro e w2 ⟨rfl, hb0⟩
  have HB_2 := Lib.hid (below_ext HB_1.out hb0)
  clear zc0 zc1 zc2 zc3 zc4 zc5 zc6 zc7 zc8 zc9 zc10
  clear hb0
  obtain ⟨zc0, zc1, zc2, zc3, zc4, zc5, zc6, zc7, zc8, zc9, zc10⟩ := kC.out _ HB_2
  go_wp2_with fail
  refine (long50_any L ps n c false hlg hn (by omega) _ (kL.out _ HB_2)).mono ?_
  rintro e w3 ⟨rfl, hb0⟩
  have HB_3 := Lib.hid (below_ext HB_2.out hb0)
  clear zc0 zc1 zc2 zc3 zc4 zc5 zc6 zc7 zc8 zc9 zc10
  clear hb0
  obtain ⟨zc0, zc1, zc2, zc3, zc4, zc5, zc6, zc7, zc8, zc9, zc10⟩ := kC.out _ HB_3
  have hbF := below_ext HBw.out HB_3.out
  go_wp2
  go_ret
  exact ⟨rfl, hbF⟩
set_option maxHeartbeats 12800000 in
theorem to_5 (P Q G need : Int) (Cs : Option Addr) (cs : List Int) (cn cc : Nat) (Ks : Option Addr) (ks : List Int) (kn kc : Nat) (hcn : Hid (cs.length = cn)) (hkn : Hid (ks.length = kn)) (E1 E2 : Int) (A : Option Addr) (na ca : Nat) (C : Int) (Z : Option Addr) (nz cz : Nat) (s : ByteArray) (L : Option Addr) (ps : List PartR) (n c : Nat) (hn : Hid (ps.length = n)) (hlr : Hid (∀ k, k < n → r64 (ps.getD k noPart).ix)) (hQ : Q < 9223372036854775808) (hgr : Hid ((decide (50 < cn) || decide (50 < kn)) = false)) (hl : n ≤ 20) (hlg : Hid (ps.any lngB = false)) (hs : s.size ≤ 100) (ht : Hid (trB P Q G need cs ks = false)) (w : World) (hv : Hid (Vars w)) (hd0 : Hid (VarsD w)) (hC : Hid (Sl w Cs cs)) (hK : Hid (Sl w Ks ks)) (hL : Hid (Pa w L ps)) :
    Calls Tryz.prog 5 #[gv P Q G, trV need Cs cn cc Ks kn kc, esV E1 E2 A na ca C Z nz cz, .string s, .slice L n c] w fun e' w' => e' = .returned (.bool true) ∧ Below w.heap.size w w' := by
  have dl : decide ((20 : Int) < (n : Int)) = false := by simp; omega
  have ds : decide ((100 : Int) < (s.size : Int)) = false := by simp; omega
  have hs9 : s.size ≤ 1000 := by omega
  obtain ⟨w0, hW⟩ : ∃ W, (((w.alloc (gObj P Q G)).alloc (trO need Cs cn cc Ks kn kc)).alloc (esO E1 E2 A na ca C Z nz cz)) = W := ⟨_, rfl⟩
  have HBw : Hid (Below w.heap.size w w0) := Lib.hid (by rw [← hW]; exact (((Below.refl _ _).alloc (Nat.le_refl _) _).alloc (by simp) _).alloc (by simp; omega) _)
  have hc : w0.cell? ⟨w.heap.size, 0, none⟩ = some (.int .i64 P) ∧ w0.cell? ⟨w.heap.size, 1, none⟩ = some (.int .i64 Q) ∧ w0.cell? ⟨w.heap.size, 2, none⟩ = some (.int .i64 G) ∧ w0.cell? ⟨w.heap.size + 1, 0, none⟩ = some (.int .i64 need) ∧ w0.cell? ⟨w.heap.size + 1, 1, none⟩ = some (.slice Cs cn cc) ∧ w0.cell? ⟨w.heap.size + 1, 2, none⟩ = some (.slice Ks kn kc) ∧ w0.cell? ⟨w.heap.size + 2, 0, none⟩ = some (.int .i64 E1) ∧ w0.cell? ⟨w.heap.size + 2, 1, none⟩ = some (.int .i64 E2) ∧ w0.cell? ⟨w.heap.size + 2, 2, none⟩ = some (.slice A na ca) ∧ w0.cell? ⟨w.heap.size + 2, 3, none⟩ = some (.int .i64 C) ∧ w0.cell? ⟨w.heap.size + 2, 4, none⟩ = some (.slice Z nz cz) := by rw [← hW]; exact ⟨cell_below (cell_below (allocs_cell (by simp) (by rfl)) (below_box0 _ _)) (below_box0 _ _), cell_below (cell_below (allocs_cell (by simp) (by rfl)) (below_box0 _ _)) (below_box0 _ _), cell_below (cell_below (allocs_cell (by simp) (by rfl)) (below_box0 _ _)) (below_box0 _ _), cell_below (allocs_cell (by simp) (by rfl)) (below_box0 _ _), cell_below (allocs_cell (by simp) (by rfl)) (below_box0 _ _), cell_below (allocs_cell (by simp) (by rfl)) (below_box0 _ _), allocs_cell (by simp) (by rfl), allocs_cell (by simp) (by rfl), allocs_cell (by simp) (by rfl), allocs_cell (by simp) (by rfl), allocs_cell (by simp) (by rfl)⟩
  have kC := Lib.hid (show ∀ u : World, Hid (Below w0.heap.size w0 u) → u.cell? ⟨w.heap.size, 0, none⟩ = some (.int .i64 P) ∧ u.cell? ⟨w.heap.size, 1, none⟩ = some (.int .i64 Q) ∧ u.cell? ⟨w.heap.size, 2, none⟩ = some (.int .i64 G) ∧ u.cell? ⟨w.heap.size + 1, 0, none⟩ = some (.int .i64 need) ∧ u.cell? ⟨w.heap.size + 1, 1, none⟩ = some (.slice Cs cn cc) ∧ u.cell? ⟨w.heap.size + 1, 2, none⟩ = some (.slice Ks kn kc) ∧ u.cell? ⟨w.heap.size + 2, 0, none⟩ = some (.int .i64 E1) ∧ u.cell? ⟨w.heap.size + 2, 1, none⟩ = some (.int .i64 E2) ∧ u.cell? ⟨w.heap.size + 2, 2, none⟩ = some (.slice A na ca) ∧ u.cell? ⟨w.heap.size + 2, 3, none⟩ = some (.int .i64 C) ∧ u.cell? ⟨w.heap.size + 2, 4, none⟩ = some (.slice Z nz cz) from fun u h => ⟨cell_below hc.1 h.out, cell_below hc.2.1 h.out, cell_below hc.2.2.1 h.out, cell_below hc.2.2.2.1 h.out, cell_below hc.2.2.2.2.1 h.out, cell_below hc.2.2.2.2.2.1 h.out, cell_below hc.2.2.2.2.2.2.1 h.out, cell_below hc.2.2.2.2.2.2.2.1 h.out, cell_below hc.2.2.2.2.2.2.2.2.1 h.out, cell_below hc.2.2.2.2.2.2.2.2.2.1 h.out, cell_below hc.2.2.2.2.2.2.2.2.2.2 h.out⟩)
  have kV := Lib.hid (show ∀ u : World, Hid (Below w0.heap.size w0 u) → Hid (Vars u) from fun u h => Lib.hid ((hv.out.below) (below_ext HBw.out h.out)))
  have kD := Lib.hid (show ∀ u : World, Hid (Below w0.heap.size w0 u) → Hid (VarsD u) from fun u h => Lib.hid ((hd0.out.below) (below_ext HBw.out h.out)))
  have kCs := Lib.hid (show ∀ u : World, Hid (Below w0.heap.size w0 u) → Hid (Sl u Cs cs) from fun u h => Lib.hid ((hC.out.below) (below_ext HBw.out h.out)))
  have kKs := Lib.hid (show ∀ u : World, Hid (Below w0.heap.size w0 u) → Hid (Sl u Ks ks) from fun u h => Lib.hid ((hK.out.below) (below_ext HBw.out h.out)))
  have kL := Lib.hid (show ∀ u : World, Hid (Below w0.heap.size w0 u) → Hid (Pa u L ps) from fun u h => Lib.hid ((hL.out.below) (below_ext HBw.out h.out)))
  have HB_0 : Hid (Below w0.heap.size w0 w0) := Lib.hid (Below.refl _ _)
  have HW := Lib.hid hW
  clear hW hc hv hd0 hC hK hL
  go_enter Tryz.func5, Tryz.ntmps5
  go_wp2_with fail
  rw [HW.out]
  obtain ⟨zc0, zc1, zc2, zc3, zc4, zc5, zc6, zc7, zc8, zc9, zc10⟩ := kC.out _ HB_0
  go_wp2_with fail
  refine (awake50 _ (kV.out _ HB_0)).mono ?_
  rintro e w1 ⟨rfl, hb0⟩
  have HB_1 := Lib.hid (below_ext HB_0.out hb0)
  clear zc0 zc1 zc2 zc3 zc4 zc5 zc6 zc7 zc8 zc9 zc10
  clear hb0
  obtain ⟨zc0, zc1, zc2, zc3, zc4, zc5, zc6, zc7, zc8, zc9, zc10⟩ := kC.out _ HB_1
  go_wp2_with fail
  refine (great50_any need Cs cn cc Ks kn kc false hgr _).mono ?_
  rintro e w2 ⟨rfl, hb0⟩
  have HB_2 := Lib.hid (below_ext HB_1.out hb0)
  clear zc0 zc1 zc2 zc3 zc4 zc5 zc6 zc7 zc8 zc9 zc10
  clear hb0
  obtain ⟨zc0, zc1, zc2, zc3, zc4, zc5, zc6, zc7, zc8, zc9, zc10⟩ := kC.out _ HB_2
  go_wp2_with fail
  refine (long50_any L ps n c false hlg hn (by omega) _ (kL.out _ HB_2)).mono ?_
  rintro e w3 ⟨rfl, hb0⟩
  have HB_3 := Lib.hid (below_ext HB_2.out hb0)
  clear zc0 zc1 zc2 zc3 zc4 zc5 zc6 zc7 zc8 zc9 zc10
  clear hb0
  obtain ⟨zc0, zc1, zc2, zc3, zc4, zc5, zc6, zc7, zc8, zc9, zc10⟩ := kC.out _ HB_3
  go_wp2_with fail
  refine (rtrv_any P Q G need Cs cs cn cc Ks ks kn kc hcn hkn false ht hQ _ (kCs.out _ HB_3) (kKs.out _ HB_3)).mono ?_
  rintro e w4 ⟨rfl, hb0⟩
  have HB_4 := Lib.hid (below_ext HB_3.out hb0)
  clear zc0 zc1 zc2 zc3 zc4 zc5 zc6 zc7 zc8 zc9 zc10
  clear hb0
  obtain ⟨zc0, zc1, zc2, zc3, zc4, zc5, zc6, zc7, zc8, zc9, zc10⟩ := kC.out _ HB_4
  go_wp2
  clear zc0 zc1 zc2 zc3 zc4 zc5 zc6 zc7 zc8 zc9 zc10
  go_loopw [41] (fun i wr => ∃ k : Nat, k ≤ n ∧ i = .int .i64 k ∧ Hid (Below w0.heap.size w0 wr)) (fun i _ => n - (intOf i).toNat)
  case atStart => exact ⟨0, by omega, rfl, HB_4⟩
  case round =>
    obtain ⟨k, hk, rfl, HBr⟩ := hrel
    by_cases hlt : k < n
    · skip
      have hkl : k < ps.length := by rw [hn.out]; exact hlt
      obtain ⟨b, o, hA, j0, j1, j2, j3, j4, hok⟩ := (kL.out _ HBr).out k hkl
      subst hA
      have hlg9 := lng_parts hlg.out hkl
      obtain ⟨px, hpx⟩ : ∃ x, ps.getD k noPart = x := ⟨_, rfl⟩
      obtain ⟨ix, v, pA, pna, pca, pal, pC, pZ, pnz, pcz, pzs⟩ := px
      rw [hpx] at j0 j1 j2 j3 j4 hok hlg9
      dsimp only at j0 j1 j2 j3 j4 hlg9
      obtain ⟨ok1, ok2, ok3, ok4⟩ := hok
      have O1 := Lib.hid ok1
      have O2 := Lib.hid ok2
      have O3 := Lib.hid ok3
      have O4 := Lib.hid ok4
      dsimp only at O1 O2 O3 O4
      obtain ⟨z1, z2⟩ := hlg9
      clear ok1 ok2 ok3 ok4 hpx hkl
      obtain ⟨r, hr⟩ : ∃ x, tvrB P Q G need cs ks E1 ix v pC (bys s) pal pzs = x := ⟨_, rfl⟩
      have HR : Kp (tvrB P Q G need cs ks E1 ix v pC (bys s) pal pzs = r) := ⟨hr⟩
      obtain rfl : r = false := hr.symm.trans (tvrB_tr ht.out)
      clear hr
      have HB_wr_4 : Hid (Below wr.heap.size wr wr) := Lib.hid (Below.refl _ _)
      have kPA := Lib.hid (show ∀ u : World, Hid (Below wr.heap.size wr u) → Hid (Sl u pA pal) from fun u h => Lib.hid (O3.out.below h.out))
      have kPZ := Lib.hid (show ∀ u : World, Hid (Below wr.heap.size wr u) → Hid (Sl u pZ pzs) from fun u h => Lib.hid (O4.out.below h.out))
      obtain ⟨zc0, zc1, zc2, zc3, zc4, zc5, zc6, zc7, zc8, zc9, zc10⟩ := kC.out _ HBr
      have hq := below_box0 wr (paO ix v pA pna pca pC pZ pnz pcz)
      have HB_5 := Lib.hid (below_ext HBr.out hq)
      have HB_wr_5 := Lib.hid (below_ext HB_wr_4.out hq)
      have hc : (wr.alloc (paO ix v pA pna pca pC pZ pnz pcz)).cell? ⟨wr.heap.size, 0, none⟩ = some (.int .i64 ix) ∧ (wr.alloc (paO ix v pA pna pca pC pZ pnz pcz)).cell? ⟨wr.heap.size, 1, none⟩ = some (.int .i64 v) ∧ (wr.alloc (paO ix v pA pna pca pC pZ pnz pcz)).cell? ⟨wr.heap.size, 2, none⟩ = some (.slice pA pna pca) ∧ (wr.alloc (paO ix v pA pna pca pC pZ pnz pcz)).cell? ⟨wr.heap.size, 3, none⟩ = some (.int .i64 pC) ∧ (wr.alloc (paO ix v pA pna pca pC pZ pnz pcz)).cell? ⟨wr.heap.size, 4, none⟩ = some (.slice pZ pnz pcz) := ⟨allocs_cell rfl (by rfl), allocs_cell rfl (by rfl), allocs_cell rfl (by rfl), allocs_cell rfl (by rfl), allocs_cell rfl (by rfl)⟩
      have HC5 := Lib.hid hc
      clear hq
      obtain ⟨zc0x, zc1x, zc2x, zc3x, zc4x, zc5x, zc6x, zc7x, zc8x, zc9x, zc10x⟩ := kC.out _ HB_5
      obtain ⟨zq0, zq1, zq2, zq3, zq4⟩ := hc
      go_wp2_with fail
      obtain ⟨w5, hw⟩ : ∃ x, (wr.alloc (paO ix v pA pna pca pC pZ pnz pcz)) = x := ⟨_, rfl⟩
      rw [hw] at HC5 HB_5 HB_wr_5 ⊢
      have HSN5 : Hid (w5.heap.size = wr.heap.size + 1) := Lib.hid (by rw [← hw]; simp)
      clear zc0 zc1 zc2 zc3 zc4 zc5 zc6 zc7 zc8 zc9 zc10 zc0x zc1x zc2x zc3x zc4x zc5x zc6x zc7x zc8x zc9x zc10x zq0 zq1 zq2 zq3 zq4
      clear hw
      have HB_w5_5 : Hid (Below w5.heap.size w5 w5) := Lib.hid (Below.refl _ _)
      have kS := Lib.hid (show ∀ u : World, Hid (Below w5.heap.size w5 u) → u.cell? ⟨wr.heap.size, 0, none⟩ = some (.int .i64 ix) ∧ u.cell? ⟨wr.heap.size, 1, none⟩ = some (.int .i64 v) ∧ u.cell? ⟨wr.heap.size, 2, none⟩ = some (.slice pA pna pca) ∧ u.cell? ⟨wr.heap.size, 3, none⟩ = some (.int .i64 pC) ∧ u.cell? ⟨wr.heap.size, 4, none⟩ = some (.slice pZ pnz pcz) from fun u h => ⟨cell_below HC5.out.1 h.out, cell_below HC5.out.2.1 h.out, cell_below HC5.out.2.2.1 h.out, cell_below HC5.out.2.2.2.1 h.out, cell_below HC5.out.2.2.2.2 h.out⟩)
      obtain ⟨zc0, zc1, zc2, zc3, zc4, zc5, zc6, zc7, zc8, zc9, zc10⟩ := kC.out _ HB_5
      obtain ⟨kS_0, kS_1, kS_2, kS_3, kS_4⟩ := kS.out _ HB_w5_5
      clear j0 j1 j2 j3 j4
      clear zc0 zc1 zc2 zc3 zc4 zc5 zc6 zc7 zc8 zc9 zc10 kS_0 kS_1 kS_2 kS_3 kS_4
      obtain ⟨zc0, zc1, zc2, zc3, zc4, zc5, zc6, zc7, zc8, zc9, zc10⟩ := kC.out _ HB_5
      obtain ⟨kS_0, kS_1, kS_2, kS_3, kS_4⟩ := kS.out _ HB_w5_5
      go_wp2_with fail
      refine (tver_any P Q G need Cs cs cn cc Ks ks kn kc hcn hkn E1 E2 A na ca C Z nz cz ix v pA pal pna pca pC pZ pzs pnz pcz O1 O2 (by omega) (by omega) s hs9 false HR hQ _ (kV.out _ HB_5) (kD.out _ HB_5) (kCs.out _ HB_5) (kKs.out _ HB_5) (kPA.out _ HB_wr_5) (kPZ.out _ HB_wr_5)).mono ?_
      rintro e w6 ⟨rfl, hb0⟩
      have HB_6 := Lib.hid (below_ext HB_5.out hb0)
      have HB_wr_6 := Lib.hid (below_ext HB_wr_5.out hb0)
      have HB_w5_6 := Lib.hid (below_ext HB_w5_5.out hb0)
      clear zc0 zc1 zc2 zc3 zc4 zc5 zc6 zc7 zc8 zc9 zc10 kS_0 kS_1 kS_2 kS_3 kS_4
      clear hb0
      obtain ⟨zc0, zc1, zc2, zc3, zc4, zc5, zc6, zc7, zc8, zc9, zc10⟩ := kC.out _ HB_6
      obtain ⟨kS_0, kS_1, kS_2, kS_3, kS_4⟩ := kS.out _ HB_w5_6
      go_wp2
      go_roundw
      case rel => exact ⟨k + 1, by omega, by go_num, HB_6⟩
      case measure => simp [intOf]; omega
    · skip
      obtain rfl : k = n := by omega
      obtain ⟨zc0, zc1, zc2, zc3, zc4, zc5, zc6, zc7, zc8, zc9, zc10⟩ := kC.out _ HBr
      go_wp2_with fail
      refine (cmb_1 P Q G need Cs cs cn cc Ks ks kn kc hcn hkn E1 E2 A na ca C Z nz cz L ps k c hn (by omega) hlr ht hQ _ (kV.out _ HBr) (kCs.out _ HBr) (kKs.out _ HBr) (kL.out _ HBr)).mono ?_
      rintro e w5 ⟨rfl, hb0⟩
      have HB_5 := Lib.hid (below_ext HBr.out hb0)
      clear zc0 zc1 zc2 zc3 zc4 zc5 zc6 zc7 zc8 zc9 zc10
      clear hb0
      obtain ⟨zc0, zc1, zc2, zc3, zc4, zc5, zc6, zc7, zc8, zc9, zc10⟩ := kC.out _ HB_5
      have hbF := below_ext HBw.out HB_5.out
      go_wp2
      go_ret
      exact ⟨rfl, hbF⟩
set_option maxHeartbeats 12800000 in
theorem to_6 (P Q G need : Int) (Cs : Option Addr) (cs : List Int) (cn cc : Nat) (Ks : Option Addr) (ks : List Int) (kn kc : Nat) (hcn : Hid (cs.length = cn)) (hkn : Hid (ks.length = kn)) (E1 E2 : Int) (A : Option Addr) (na ca : Nat) (C : Int) (Z : Option Addr) (nz cz : Nat) (s : ByteArray) (L : Option Addr) (ps : List PartR) (n c : Nat) (hn : Hid (ps.length = n)) (hlr : Hid (∀ k, k < n → r64 (ps.getD k noPart).ix)) (hQ : Q < 9223372036854775808) (hgr : Hid ((decide (50 < cn) || decide (50 < kn)) = false)) (hl : n ≤ 20) (hlg : Hid (ps.any lngB = false)) (hs : s.size ≤ 100) (ht : Hid (trB P Q G need cs ks = true)) (hlb : Hid (labB (bys s) = false)) (w : World) (hv : Hid (Vars w)) (hd0 : Hid (VarsD w)) (hC : Hid (Sl w Cs cs)) (hK : Hid (Sl w Ks ks)) (hL : Hid (Pa w L ps)) :
    Calls Tryz.prog 5 #[gv P Q G, trV need Cs cn cc Ks kn kc, esV E1 E2 A na ca C Z nz cz, .string s, .slice L n c] w fun e' w' => e' = .returned (.bool true) ∧ Below w.heap.size w w' := by
  have dl : decide ((20 : Int) < (n : Int)) = false := by simp; omega
  have ds : decide ((100 : Int) < (s.size : Int)) = false := by simp; omega
  have hs9 : s.size ≤ 1000 := by omega
  obtain ⟨w0, hW⟩ : ∃ W, (((w.alloc (gObj P Q G)).alloc (trO need Cs cn cc Ks kn kc)).alloc (esO E1 E2 A na ca C Z nz cz)) = W := ⟨_, rfl⟩
  have HBw : Hid (Below w.heap.size w w0) := Lib.hid (by rw [← hW]; exact (((Below.refl _ _).alloc (Nat.le_refl _) _).alloc (by simp) _).alloc (by simp; omega) _)
  have hc : w0.cell? ⟨w.heap.size, 0, none⟩ = some (.int .i64 P) ∧ w0.cell? ⟨w.heap.size, 1, none⟩ = some (.int .i64 Q) ∧ w0.cell? ⟨w.heap.size, 2, none⟩ = some (.int .i64 G) ∧ w0.cell? ⟨w.heap.size + 1, 0, none⟩ = some (.int .i64 need) ∧ w0.cell? ⟨w.heap.size + 1, 1, none⟩ = some (.slice Cs cn cc) ∧ w0.cell? ⟨w.heap.size + 1, 2, none⟩ = some (.slice Ks kn kc) ∧ w0.cell? ⟨w.heap.size + 2, 0, none⟩ = some (.int .i64 E1) ∧ w0.cell? ⟨w.heap.size + 2, 1, none⟩ = some (.int .i64 E2) ∧ w0.cell? ⟨w.heap.size + 2, 2, none⟩ = some (.slice A na ca) ∧ w0.cell? ⟨w.heap.size + 2, 3, none⟩ = some (.int .i64 C) ∧ w0.cell? ⟨w.heap.size + 2, 4, none⟩ = some (.slice Z nz cz) := by rw [← hW]; exact ⟨cell_below (cell_below (allocs_cell (by simp) (by rfl)) (below_box0 _ _)) (below_box0 _ _), cell_below (cell_below (allocs_cell (by simp) (by rfl)) (below_box0 _ _)) (below_box0 _ _), cell_below (cell_below (allocs_cell (by simp) (by rfl)) (below_box0 _ _)) (below_box0 _ _), cell_below (allocs_cell (by simp) (by rfl)) (below_box0 _ _), cell_below (allocs_cell (by simp) (by rfl)) (below_box0 _ _), cell_below (allocs_cell (by simp) (by rfl)) (below_box0 _ _), allocs_cell (by simp) (by rfl), allocs_cell (by simp) (by rfl), allocs_cell (by simp) (by rfl), allocs_cell (by simp) (by rfl), allocs_cell (by simp) (by rfl)⟩
  have kC := Lib.hid (show ∀ u : World, Hid (Below w0.heap.size w0 u) → u.cell? ⟨w.heap.size, 0, none⟩ = some (.int .i64 P) ∧ u.cell? ⟨w.heap.size, 1, none⟩ = some (.int .i64 Q) ∧ u.cell? ⟨w.heap.size, 2, none⟩ = some (.int .i64 G) ∧ u.cell? ⟨w.heap.size + 1, 0, none⟩ = some (.int .i64 need) ∧ u.cell? ⟨w.heap.size + 1, 1, none⟩ = some (.slice Cs cn cc) ∧ u.cell? ⟨w.heap.size + 1, 2, none⟩ = some (.slice Ks kn kc) ∧ u.cell? ⟨w.heap.size + 2, 0, none⟩ = some (.int .i64 E1) ∧ u.cell? ⟨w.heap.size + 2, 1, none⟩ = some (.int .i64 E2) ∧ u.cell? ⟨w.heap.size + 2, 2, none⟩ = some (.slice A na ca) ∧ u.cell? ⟨w.heap.size + 2, 3, none⟩ = some (.int .i64 C) ∧ u.cell? ⟨w.heap.size + 2, 4, none⟩ = some (.slice Z nz cz) from fun u h => ⟨cell_below hc.1 h.out, cell_below hc.2.1 h.out, cell_below hc.2.2.1 h.out, cell_below hc.2.2.2.1 h.out, cell_below hc.2.2.2.2.1 h.out, cell_below hc.2.2.2.2.2.1 h.out, cell_below hc.2.2.2.2.2.2.1 h.out, cell_below hc.2.2.2.2.2.2.2.1 h.out, cell_below hc.2.2.2.2.2.2.2.2.1 h.out, cell_below hc.2.2.2.2.2.2.2.2.2.1 h.out, cell_below hc.2.2.2.2.2.2.2.2.2.2 h.out⟩)
  have kV := Lib.hid (show ∀ u : World, Hid (Below w0.heap.size w0 u) → Hid (Vars u) from fun u h => Lib.hid ((hv.out.below) (below_ext HBw.out h.out)))
  have kD := Lib.hid (show ∀ u : World, Hid (Below w0.heap.size w0 u) → Hid (VarsD u) from fun u h => Lib.hid ((hd0.out.below) (below_ext HBw.out h.out)))
  have kCs := Lib.hid (show ∀ u : World, Hid (Below w0.heap.size w0 u) → Hid (Sl u Cs cs) from fun u h => Lib.hid ((hC.out.below) (below_ext HBw.out h.out)))
  have kKs := Lib.hid (show ∀ u : World, Hid (Below w0.heap.size w0 u) → Hid (Sl u Ks ks) from fun u h => Lib.hid ((hK.out.below) (below_ext HBw.out h.out)))
  have kL := Lib.hid (show ∀ u : World, Hid (Below w0.heap.size w0 u) → Hid (Pa u L ps) from fun u h => Lib.hid ((hL.out.below) (below_ext HBw.out h.out)))
  have HB_0 : Hid (Below w0.heap.size w0 w0) := Lib.hid (Below.refl _ _)
  have HW := Lib.hid hW
  clear hW hc hv hd0 hC hK hL
  go_enter Tryz.func5, Tryz.ntmps5
  go_wp2_with fail
  rw [HW.out]
  obtain ⟨zc0, zc1, zc2, zc3, zc4, zc5, zc6, zc7, zc8, zc9, zc10⟩ := kC.out _ HB_0
  go_wp2_with fail
  refine (awake50 _ (kV.out _ HB_0)).mono ?_
  rintro e w1 ⟨rfl, hb0⟩
  have HB_1 := Lib.hid (below_ext HB_0.out hb0)
  clear zc0 zc1 zc2 zc3 zc4 zc5 zc6 zc7 zc8 zc9 zc10
  clear hb0
  obtain ⟨zc0, zc1, zc2, zc3, zc4, zc5, zc6, zc7, zc8, zc9, zc10⟩ := kC.out _ HB_1
  go_wp2_with fail
  refine (great50_any need Cs cn cc Ks kn kc false hgr _).mono ?_
  rintro e w2 ⟨rfl, hb0⟩
  have HB_2 := Lib.hid (below_ext HB_1.out hb0)
  clear zc0 zc1 zc2 zc3 zc4 zc5 zc6 zc7 zc8 zc9 zc10
  clear hb0
  obtain ⟨zc0, zc1, zc2, zc3, zc4, zc5, zc6, zc7, zc8, zc9, zc10⟩ := kC.out _ HB_2
  go_wp2_with fail
  refine (long50_any L ps n c false hlg hn (by omega) _ (kL.out _ HB_2)).mono ?_
  rintro e w3 ⟨rfl, hb0⟩
  have HB_3 := Lib.hid (below_ext HB_2.out hb0)
  clear zc0 zc1 zc2 zc3 zc4 zc5 zc6 zc7 zc8 zc9 zc10
  clear hb0
  obtain ⟨zc0, zc1, zc2, zc3, zc4, zc5, zc6, zc7, zc8, zc9, zc10⟩ := kC.out _ HB_3
  go_wp2_with fail
  refine (rtrv_any P Q G need Cs cs cn cc Ks ks kn kc hcn hkn true ht hQ _ (kCs.out _ HB_3) (kKs.out _ HB_3)).mono ?_
  rintro e w4 ⟨rfl, hb0⟩
  have HB_4 := Lib.hid (below_ext HB_3.out hb0)
  clear zc0 zc1 zc2 zc3 zc4 zc5 zc6 zc7 zc8 zc9 zc10
  clear hb0
  obtain ⟨zc0, zc1, zc2, zc3, zc4, zc5, zc6, zc7, zc8, zc9, zc10⟩ := kC.out _ HB_4
  go_wp2
  clear zc0 zc1 zc2 zc3 zc4 zc5 zc6 zc7 zc8 zc9 zc10
  go_loopw [41] (fun i wr => ∃ k : Nat, k ≤ n ∧ i = .int .i64 k ∧ Hid (Below w0.heap.size w0 wr)) (fun i _ => n - (intOf i).toNat)
  case atStart => exact ⟨0, by omega, rfl, HB_4⟩
  case round =>
    obtain ⟨k, hk, rfl, HBr⟩ := hrel
    by_cases hlt : k < n
    · skip
      have hkl : k < ps.length := by rw [hn.out]; exact hlt
      obtain ⟨b, o, hA, j0, j1, j2, j3, j4, hok⟩ := (kL.out _ HBr).out k hkl
      subst hA
      have hlg9 := lng_parts hlg.out hkl
      obtain ⟨px, hpx⟩ : ∃ x, ps.getD k noPart = x := ⟨_, rfl⟩
      obtain ⟨ix, v, pA, pna, pca, pal, pC, pZ, pnz, pcz, pzs⟩ := px
      rw [hpx] at j0 j1 j2 j3 j4 hok hlg9
      dsimp only at j0 j1 j2 j3 j4 hlg9
      obtain ⟨ok1, ok2, ok3, ok4⟩ := hok
      have O1 := Lib.hid ok1
      have O2 := Lib.hid ok2
      have O3 := Lib.hid ok3
      have O4 := Lib.hid ok4
      dsimp only at O1 O2 O3 O4
      obtain ⟨z1, z2⟩ := hlg9
      clear ok1 ok2 ok3 ok4 hpx hkl
      obtain ⟨r, hr⟩ : ∃ x, tvrB P Q G need cs ks E1 ix v pC (bys s) pal pzs = x := ⟨_, rfl⟩
      have HR : Kp (tvrB P Q G need cs ks E1 ix v pC (bys s) pal pzs = r) := ⟨hr⟩
      obtain rfl : r = false := hr.symm.trans (tvrB_lab hlb.out)
      clear hr
      have HB_wr_4 : Hid (Below wr.heap.size wr wr) := Lib.hid (Below.refl _ _)
      have kPA := Lib.hid (show ∀ u : World, Hid (Below wr.heap.size wr u) → Hid (Sl u pA pal) from fun u h => Lib.hid (O3.out.below h.out))
      have kPZ := Lib.hid (show ∀ u : World, Hid (Below wr.heap.size wr u) → Hid (Sl u pZ pzs) from fun u h => Lib.hid (O4.out.below h.out))
      obtain ⟨zc0, zc1, zc2, zc3, zc4, zc5, zc6, zc7, zc8, zc9, zc10⟩ := kC.out _ HBr
      have hq := below_box0 wr (paO ix v pA pna pca pC pZ pnz pcz)
      have HB_5 := Lib.hid (below_ext HBr.out hq)
      have HB_wr_5 := Lib.hid (below_ext HB_wr_4.out hq)
      have hc : (wr.alloc (paO ix v pA pna pca pC pZ pnz pcz)).cell? ⟨wr.heap.size, 0, none⟩ = some (.int .i64 ix) ∧ (wr.alloc (paO ix v pA pna pca pC pZ pnz pcz)).cell? ⟨wr.heap.size, 1, none⟩ = some (.int .i64 v) ∧ (wr.alloc (paO ix v pA pna pca pC pZ pnz pcz)).cell? ⟨wr.heap.size, 2, none⟩ = some (.slice pA pna pca) ∧ (wr.alloc (paO ix v pA pna pca pC pZ pnz pcz)).cell? ⟨wr.heap.size, 3, none⟩ = some (.int .i64 pC) ∧ (wr.alloc (paO ix v pA pna pca pC pZ pnz pcz)).cell? ⟨wr.heap.size, 4, none⟩ = some (.slice pZ pnz pcz) := ⟨allocs_cell rfl (by rfl), allocs_cell rfl (by rfl), allocs_cell rfl (by rfl), allocs_cell rfl (by rfl), allocs_cell rfl (by rfl)⟩
      have HC5 := Lib.hid hc
      clear hq
      obtain ⟨zc0x, zc1x, zc2x, zc3x, zc4x, zc5x, zc6x, zc7x, zc8x, zc9x, zc10x⟩ := kC.out _ HB_5
      obtain ⟨zq0, zq1, zq2, zq3, zq4⟩ := hc
      go_wp2_with fail
      obtain ⟨w5, hw⟩ : ∃ x, (wr.alloc (paO ix v pA pna pca pC pZ pnz pcz)) = x := ⟨_, rfl⟩
      rw [hw] at HC5 HB_5 HB_wr_5 ⊢
      have HSN5 : Hid (w5.heap.size = wr.heap.size + 1) := Lib.hid (by rw [← hw]; simp)
      clear zc0 zc1 zc2 zc3 zc4 zc5 zc6 zc7 zc8 zc9 zc10 zc0x zc1x zc2x zc3x zc4x zc5x zc6x zc7x zc8x zc9x zc10x zq0 zq1 zq2 zq3 zq4
      clear hw
      have HB_w5_5 : Hid (Below w5.heap.size w5 w5) := Lib.hid (Below.refl _ _)
      have kS := Lib.hid (show ∀ u : World, Hid (Below w5.heap.size w5 u) → u.cell? ⟨wr.heap.size, 0, none⟩ = some (.int .i64 ix) ∧ u.cell? ⟨wr.heap.size, 1, none⟩ = some (.int .i64 v) ∧ u.cell? ⟨wr.heap.size, 2, none⟩ = some (.slice pA pna pca) ∧ u.cell? ⟨wr.heap.size, 3, none⟩ = some (.int .i64 pC) ∧ u.cell? ⟨wr.heap.size, 4, none⟩ = some (.slice pZ pnz pcz) from fun u h => ⟨cell_below HC5.out.1 h.out, cell_below HC5.out.2.1 h.out, cell_below HC5.out.2.2.1 h.out, cell_below HC5.out.2.2.2.1 h.out, cell_below HC5.out.2.2.2.2 h.out⟩)
      obtain ⟨zc0, zc1, zc2, zc3, zc4, zc5, zc6, zc7, zc8, zc9, zc10⟩ := kC.out _ HB_5
      obtain ⟨kS_0, kS_1, kS_2, kS_3, kS_4⟩ := kS.out _ HB_w5_5
      clear j0 j1 j2 j3 j4
      clear zc0 zc1 zc2 zc3 zc4 zc5 zc6 zc7 zc8 zc9 zc10 kS_0 kS_1 kS_2 kS_3 kS_4
      obtain ⟨zc0, zc1, zc2, zc3, zc4, zc5, zc6, zc7, zc8, zc9, zc10⟩ := kC.out _ HB_5
      obtain ⟨kS_0, kS_1, kS_2, kS_3, kS_4⟩ := kS.out _ HB_w5_5
      go_wp2_with fail
      refine (tver_any P Q G need Cs cs cn cc Ks ks kn kc hcn hkn E1 E2 A na ca C Z nz cz ix v pA pal pna pca pC pZ pzs pnz pcz O1 O2 (by omega) (by omega) s hs9 false HR hQ _ (kV.out _ HB_5) (kD.out _ HB_5) (kCs.out _ HB_5) (kKs.out _ HB_5) (kPA.out _ HB_wr_5) (kPZ.out _ HB_wr_5)).mono ?_
      rintro e w6 ⟨rfl, hb0⟩
      have HB_6 := Lib.hid (below_ext HB_5.out hb0)
      have HB_wr_6 := Lib.hid (below_ext HB_wr_5.out hb0)
      have HB_w5_6 := Lib.hid (below_ext HB_w5_5.out hb0)
      clear zc0 zc1 zc2 zc3 zc4 zc5 zc6 zc7 zc8 zc9 zc10 kS_0 kS_1 kS_2 kS_3 kS_4
      clear hb0
      obtain ⟨zc0, zc1, zc2, zc3, zc4, zc5, zc6, zc7, zc8, zc9, zc10⟩ := kC.out _ HB_6
      obtain ⟨kS_0, kS_1, kS_2, kS_3, kS_4⟩ := kS.out _ HB_w5_6
      go_wp2_with fail
      refine (rlabel_any s hs9 false hlb _).mono ?_
      rintro e9 w9 ⟨rfl, hw9⟩
      subst hw9
      go_wp2
      go_roundw
      case rel => exact ⟨k + 1, by omega, by go_num, HB_6⟩
      case measure => simp [intOf]; omega
    · skip
      obtain rfl : k = n := by omega
      obtain ⟨zc0, zc1, zc2, zc3, zc4, zc5, zc6, zc7, zc8, zc9, zc10⟩ := kC.out _ HBr
      obtain ⟨v9, hv9⟩ : ∃ x, cmbV P Q need kn E1 E2 ps = x := ⟨_, rfl⟩
      obtain ⟨e9, he9⟩ : ∃ x, cmbE P Q need kn E1 E2 ps = x := ⟨_, rfl⟩
      have HV9 := Lib.hid hv9
      have HE9 := Lib.hid he9
      have ev : (v9 == v9) = true := by simp
      have ee : (e9 == e9) = true := by simp
      clear hv9 he9
      go_wp2_with fail
      refine (cmb_any P Q G need Cs cs cn cc Ks ks kn kc hcn hkn E1 E2 A na ca C Z nz cz L ps k c hn hlr (by omega) ht v9 e9 HV9 HE9 hQ _ (kV.out _ HBr) (kCs.out _ HBr) (kKs.out _ HBr) (kL.out _ HBr)).mono ?_
      rintro e w5 ⟨rfl, hb0⟩
      have HB_5 := Lib.hid (below_ext HBr.out hb0)
      clear zc0 zc1 zc2 zc3 zc4 zc5 zc6 zc7 zc8 zc9 zc10
      clear hb0
      obtain ⟨zc0, zc1, zc2, zc3, zc4, zc5, zc6, zc7, zc8, zc9, zc10⟩ := kC.out _ HB_5
      go_wp2_with fail
      refine (rcmb_any P Q G need Cs cs cn cc Ks ks kn kc hcn hkn E1 E2 A na ca C Z nz cz L ps k c hn hlr (by omega) ht v9 e9 HV9 HE9 _ (kL.out _ HB_5)).mono ?_
      rintro e w6 ⟨rfl, hb0⟩
      have HB_6 := Lib.hid (below_ext HB_5.out hb0)
      clear zc0 zc1 zc2 zc3 zc4 zc5 zc6 zc7 zc8 zc9 zc10
      clear hb0
      obtain ⟨zc0, zc1, zc2, zc3, zc4, zc5, zc6, zc7, zc8, zc9, zc10⟩ := kC.out _ HB_6
      have hbF := below_ext HBw.out HB_6.out
      go_wp2
      go_ret
      exact ⟨rfl, hbF⟩
set_option maxHeartbeats 12800000 in
theorem to_7 (P Q G need : Int) (Cs : Option Addr) (cs : List Int) (cn cc : Nat) (Ks : Option Addr) (ks : List Int) (kn kc : Nat) (hcn : Hid (cs.length = cn)) (hkn : Hid (ks.length = kn)) (E1 E2 : Int) (A : Option Addr) (na ca : Nat) (C : Int) (Z : Option Addr) (nz cz : Nat) (s : ByteArray) (L : Option Addr) (ps : List PartR) (n c : Nat) (hn : Hid (ps.length = n)) (hlr : Hid (∀ k, k < n → r64 (ps.getD k noPart).ix)) (hQ : Q < 9223372036854775808) (hgr : Hid ((decide (50 < cn) || decide (50 < kn)) = false)) (hl : n ≤ 20) (hlg : Hid (ps.any lngB = false)) (hs : s.size ≤ 100) (ht : Hid (trB P Q G need cs ks = true)) (hlb : Hid (labB (bys s) = true)) (w : World) (hv : Hid (Vars w)) (hd0 : Hid (VarsD w)) (hC : Hid (Sl w Cs cs)) (hK : Hid (Sl w Ks ks)) (hL : Hid (Pa w L ps)) :
    Calls Tryz.prog 5 #[gv P Q G, trV need Cs cn cc Ks kn kc, esV E1 E2 A na ca C Z nz cz, .string s, .slice L n c] w fun e' w' => e' = .returned (.bool true) ∧ Below w.heap.size w w' := by
  have dl : decide ((20 : Int) < (n : Int)) = false := by simp; omega
  have ds : decide ((100 : Int) < (s.size : Int)) = false := by simp; omega
  have hs9 : s.size ≤ 1000 := by omega
  obtain ⟨w0, hW⟩ : ∃ W, (((w.alloc (gObj P Q G)).alloc (trO need Cs cn cc Ks kn kc)).alloc (esO E1 E2 A na ca C Z nz cz)) = W := ⟨_, rfl⟩
  have HBw : Hid (Below w.heap.size w w0) := Lib.hid (by rw [← hW]; exact (((Below.refl _ _).alloc (Nat.le_refl _) _).alloc (by simp) _).alloc (by simp; omega) _)
  have hc : w0.cell? ⟨w.heap.size, 0, none⟩ = some (.int .i64 P) ∧ w0.cell? ⟨w.heap.size, 1, none⟩ = some (.int .i64 Q) ∧ w0.cell? ⟨w.heap.size, 2, none⟩ = some (.int .i64 G) ∧ w0.cell? ⟨w.heap.size + 1, 0, none⟩ = some (.int .i64 need) ∧ w0.cell? ⟨w.heap.size + 1, 1, none⟩ = some (.slice Cs cn cc) ∧ w0.cell? ⟨w.heap.size + 1, 2, none⟩ = some (.slice Ks kn kc) ∧ w0.cell? ⟨w.heap.size + 2, 0, none⟩ = some (.int .i64 E1) ∧ w0.cell? ⟨w.heap.size + 2, 1, none⟩ = some (.int .i64 E2) ∧ w0.cell? ⟨w.heap.size + 2, 2, none⟩ = some (.slice A na ca) ∧ w0.cell? ⟨w.heap.size + 2, 3, none⟩ = some (.int .i64 C) ∧ w0.cell? ⟨w.heap.size + 2, 4, none⟩ = some (.slice Z nz cz) := by rw [← hW]; exact ⟨cell_below (cell_below (allocs_cell (by simp) (by rfl)) (below_box0 _ _)) (below_box0 _ _), cell_below (cell_below (allocs_cell (by simp) (by rfl)) (below_box0 _ _)) (below_box0 _ _), cell_below (cell_below (allocs_cell (by simp) (by rfl)) (below_box0 _ _)) (below_box0 _ _), cell_below (allocs_cell (by simp) (by rfl)) (below_box0 _ _), cell_below (allocs_cell (by simp) (by rfl)) (below_box0 _ _), cell_below (allocs_cell (by simp) (by rfl)) (below_box0 _ _), allocs_cell (by simp) (by rfl), allocs_cell (by simp) (by rfl), allocs_cell (by simp) (by rfl), allocs_cell (by simp) (by rfl), allocs_cell (by simp) (by rfl)⟩
  have kC := Lib.hid (show ∀ u : World, Hid (Below w0.heap.size w0 u) → u.cell? ⟨w.heap.size, 0, none⟩ = some (.int .i64 P) ∧ u.cell? ⟨w.heap.size, 1, none⟩ = some (.int .i64 Q) ∧ u.cell? ⟨w.heap.size, 2, none⟩ = some (.int .i64 G) ∧ u.cell? ⟨w.heap.size + 1, 0, none⟩ = some (.int .i64 need) ∧ u.cell? ⟨w.heap.size + 1, 1, none⟩ = some (.slice Cs cn cc) ∧ u.cell? ⟨w.heap.size + 1, 2, none⟩ = some (.slice Ks kn kc) ∧ u.cell? ⟨w.heap.size + 2, 0, none⟩ = some (.int .i64 E1) ∧ u.cell? ⟨w.heap.size + 2, 1, none⟩ = some (.int .i64 E2) ∧ u.cell? ⟨w.heap.size + 2, 2, none⟩ = some (.slice A na ca) ∧ u.cell? ⟨w.heap.size + 2, 3, none⟩ = some (.int .i64 C) ∧ u.cell? ⟨w.heap.size + 2, 4, none⟩ = some (.slice Z nz cz) from fun u h => ⟨cell_below hc.1 h.out, cell_below hc.2.1 h.out, cell_below hc.2.2.1 h.out, cell_below hc.2.2.2.1 h.out, cell_below hc.2.2.2.2.1 h.out, cell_below hc.2.2.2.2.2.1 h.out, cell_below hc.2.2.2.2.2.2.1 h.out, cell_below hc.2.2.2.2.2.2.2.1 h.out, cell_below hc.2.2.2.2.2.2.2.2.1 h.out, cell_below hc.2.2.2.2.2.2.2.2.2.1 h.out, cell_below hc.2.2.2.2.2.2.2.2.2.2 h.out⟩)
  have kV := Lib.hid (show ∀ u : World, Hid (Below w0.heap.size w0 u) → Hid (Vars u) from fun u h => Lib.hid ((hv.out.below) (below_ext HBw.out h.out)))
  have kD := Lib.hid (show ∀ u : World, Hid (Below w0.heap.size w0 u) → Hid (VarsD u) from fun u h => Lib.hid ((hd0.out.below) (below_ext HBw.out h.out)))
  have kCs := Lib.hid (show ∀ u : World, Hid (Below w0.heap.size w0 u) → Hid (Sl u Cs cs) from fun u h => Lib.hid ((hC.out.below) (below_ext HBw.out h.out)))
  have kKs := Lib.hid (show ∀ u : World, Hid (Below w0.heap.size w0 u) → Hid (Sl u Ks ks) from fun u h => Lib.hid ((hK.out.below) (below_ext HBw.out h.out)))
  have kL := Lib.hid (show ∀ u : World, Hid (Below w0.heap.size w0 u) → Hid (Pa u L ps) from fun u h => Lib.hid ((hL.out.below) (below_ext HBw.out h.out)))
  have HB_0 : Hid (Below w0.heap.size w0 w0) := Lib.hid (Below.refl _ _)
  have HW := Lib.hid hW
  clear hW hc hv hd0 hC hK hL
  go_enter Tryz.func5, Tryz.ntmps5
  go_wp2_with fail
  rw [HW.out]
  obtain ⟨zc0, zc1, zc2, zc3, zc4, zc5, zc6, zc7, zc8, zc9, zc10⟩ := kC.out _ HB_0
  go_wp2_with fail
  refine (awake50 _ (kV.out _ HB_0)).mono ?_
  rintro e w1 ⟨rfl, hb0⟩
  have HB_1 := Lib.hid (below_ext HB_0.out hb0)
  clear zc0 zc1 zc2 zc3 zc4 zc5 zc6 zc7 zc8 zc9 zc10
  clear hb0
  obtain ⟨zc0, zc1, zc2, zc3, zc4, zc5, zc6, zc7, zc8, zc9, zc10⟩ := kC.out _ HB_1
  go_wp2_with fail
  refine (great50_any need Cs cn cc Ks kn kc false hgr _).mono ?_
  rintro e w2 ⟨rfl, hb0⟩
  have HB_2 := Lib.hid (below_ext HB_1.out hb0)
  clear zc0 zc1 zc2 zc3 zc4 zc5 zc6 zc7 zc8 zc9 zc10
  clear hb0
  obtain ⟨zc0, zc1, zc2, zc3, zc4, zc5, zc6, zc7, zc8, zc9, zc10⟩ := kC.out _ HB_2
  go_wp2_with fail
  refine (long50_any L ps n c false hlg hn (by omega) _ (kL.out _ HB_2)).mono ?_
  rintro e w3 ⟨rfl, hb0⟩
  have HB_3 := Lib.hid (below_ext HB_2.out hb0)
  clear zc0 zc1 zc2 zc3 zc4 zc5 zc6 zc7 zc8 zc9 zc10
  clear hb0
  obtain ⟨zc0, zc1, zc2, zc3, zc4, zc5, zc6, zc7, zc8, zc9, zc10⟩ := kC.out _ HB_3
  go_wp2_with fail
  refine (rtrv_any P Q G need Cs cs cn cc Ks ks kn kc hcn hkn true ht hQ _ (kCs.out _ HB_3) (kKs.out _ HB_3)).mono ?_
  rintro e w4 ⟨rfl, hb0⟩
  have HB_4 := Lib.hid (below_ext HB_3.out hb0)
  clear zc0 zc1 zc2 zc3 zc4 zc5 zc6 zc7 zc8 zc9 zc10
  clear hb0
  obtain ⟨zc0, zc1, zc2, zc3, zc4, zc5, zc6, zc7, zc8, zc9, zc10⟩ := kC.out _ HB_4
  go_wp2
  clear zc0 zc1 zc2 zc3 zc4 zc5 zc6 zc7 zc8 zc9 zc10
  go_loopw [41] (fun i wr => ∃ k : Nat, k ≤ n ∧ i = .int .i64 k ∧ Hid (Below w0.heap.size w0 wr)) (fun i _ => n - (intOf i).toNat)
  case atStart => exact ⟨0, by omega, rfl, HB_4⟩
  case round =>
    obtain ⟨k, hk, rfl, HBr⟩ := hrel
    by_cases hlt : k < n
    · skip
      have hkl : k < ps.length := by rw [hn.out]; exact hlt
      obtain ⟨b, o, hA, j0, j1, j2, j3, j4, hok⟩ := (kL.out _ HBr).out k hkl
      subst hA
      have hlg9 := lng_parts hlg.out hkl
      obtain ⟨px, hpx⟩ : ∃ x, ps.getD k noPart = x := ⟨_, rfl⟩
      obtain ⟨ix, v, pA, pna, pca, pal, pC, pZ, pnz, pcz, pzs⟩ := px
      rw [hpx] at j0 j1 j2 j3 j4 hok hlg9
      dsimp only at j0 j1 j2 j3 j4 hlg9
      obtain ⟨ok1, ok2, ok3, ok4⟩ := hok
      have O1 := Lib.hid ok1
      have O2 := Lib.hid ok2
      have O3 := Lib.hid ok3
      have O4 := Lib.hid ok4
      dsimp only at O1 O2 O3 O4
      obtain ⟨z1, z2⟩ := hlg9
      clear ok1 ok2 ok3 ok4 hpx hkl
      obtain ⟨r, hr⟩ : ∃ x, tvrB P Q G need cs ks E1 ix v pC (bys s) pal pzs = x := ⟨_, rfl⟩
      have HR : Kp (tvrB P Q G need cs ks E1 ix v pC (bys s) pal pzs = r) := ⟨hr⟩
      have err : (r != r) = false := by simp
      clear hr
      have HB_wr_4 : Hid (Below wr.heap.size wr wr) := Lib.hid (Below.refl _ _)
      have kPA := Lib.hid (show ∀ u : World, Hid (Below wr.heap.size wr u) → Hid (Sl u pA pal) from fun u h => Lib.hid (O3.out.below h.out))
      have kPZ := Lib.hid (show ∀ u : World, Hid (Below wr.heap.size wr u) → Hid (Sl u pZ pzs) from fun u h => Lib.hid (O4.out.below h.out))
      obtain ⟨zc0, zc1, zc2, zc3, zc4, zc5, zc6, zc7, zc8, zc9, zc10⟩ := kC.out _ HBr
      have hq := below_box0 wr (paO ix v pA pna pca pC pZ pnz pcz)
      have HB_5 := Lib.hid (below_ext HBr.out hq)
      have HB_wr_5 := Lib.hid (below_ext HB_wr_4.out hq)
      have hc : (wr.alloc (paO ix v pA pna pca pC pZ pnz pcz)).cell? ⟨wr.heap.size, 0, none⟩ = some (.int .i64 ix) ∧ (wr.alloc (paO ix v pA pna pca pC pZ pnz pcz)).cell? ⟨wr.heap.size, 1, none⟩ = some (.int .i64 v) ∧ (wr.alloc (paO ix v pA pna pca pC pZ pnz pcz)).cell? ⟨wr.heap.size, 2, none⟩ = some (.slice pA pna pca) ∧ (wr.alloc (paO ix v pA pna pca pC pZ pnz pcz)).cell? ⟨wr.heap.size, 3, none⟩ = some (.int .i64 pC) ∧ (wr.alloc (paO ix v pA pna pca pC pZ pnz pcz)).cell? ⟨wr.heap.size, 4, none⟩ = some (.slice pZ pnz pcz) := ⟨allocs_cell rfl (by rfl), allocs_cell rfl (by rfl), allocs_cell rfl (by rfl), allocs_cell rfl (by rfl), allocs_cell rfl (by rfl)⟩
      have HC5 := Lib.hid hc
      clear hq
      obtain ⟨zc0x, zc1x, zc2x, zc3x, zc4x, zc5x, zc6x, zc7x, zc8x, zc9x, zc10x⟩ := kC.out _ HB_5
      obtain ⟨zq0, zq1, zq2, zq3, zq4⟩ := hc
      go_wp2_with fail
      obtain ⟨w5, hw⟩ : ∃ x, (wr.alloc (paO ix v pA pna pca pC pZ pnz pcz)) = x := ⟨_, rfl⟩
      rw [hw] at HC5 HB_5 HB_wr_5 ⊢
      have HSN5 : Hid (w5.heap.size = wr.heap.size + 1) := Lib.hid (by rw [← hw]; simp)
      clear zc0 zc1 zc2 zc3 zc4 zc5 zc6 zc7 zc8 zc9 zc10 zc0x zc1x zc2x zc3x zc4x zc5x zc6x zc7x zc8x zc9x zc10x zq0 zq1 zq2 zq3 zq4
      clear hw
      have HB_w5_5 : Hid (Below w5.heap.size w5 w5) := Lib.hid (Below.refl _ _)
      have kS := Lib.hid (show ∀ u : World, Hid (Below w5.heap.size w5 u) → u.cell? ⟨wr.heap.size, 0, none⟩ = some (.int .i64 ix) ∧ u.cell? ⟨wr.heap.size, 1, none⟩ = some (.int .i64 v) ∧ u.cell? ⟨wr.heap.size, 2, none⟩ = some (.slice pA pna pca) ∧ u.cell? ⟨wr.heap.size, 3, none⟩ = some (.int .i64 pC) ∧ u.cell? ⟨wr.heap.size, 4, none⟩ = some (.slice pZ pnz pcz) from fun u h => ⟨cell_below HC5.out.1 h.out, cell_below HC5.out.2.1 h.out, cell_below HC5.out.2.2.1 h.out, cell_below HC5.out.2.2.2.1 h.out, cell_below HC5.out.2.2.2.2 h.out⟩)
      obtain ⟨zc0, zc1, zc2, zc3, zc4, zc5, zc6, zc7, zc8, zc9, zc10⟩ := kC.out _ HB_5
      obtain ⟨kS_0, kS_1, kS_2, kS_3, kS_4⟩ := kS.out _ HB_w5_5
      clear j0 j1 j2 j3 j4
      clear zc0 zc1 zc2 zc3 zc4 zc5 zc6 zc7 zc8 zc9 zc10 kS_0 kS_1 kS_2 kS_3 kS_4
      obtain ⟨zc0, zc1, zc2, zc3, zc4, zc5, zc6, zc7, zc8, zc9, zc10⟩ := kC.out _ HB_5
      obtain ⟨kS_0, kS_1, kS_2, kS_3, kS_4⟩ := kS.out _ HB_w5_5
      go_wp2_with fail
      refine (tver_any P Q G need Cs cs cn cc Ks ks kn kc hcn hkn E1 E2 A na ca C Z nz cz ix v pA pal pna pca pC pZ pzs pnz pcz O1 O2 (by omega) (by omega) s hs9 r HR hQ _ (kV.out _ HB_5) (kD.out _ HB_5) (kCs.out _ HB_5) (kKs.out _ HB_5) (kPA.out _ HB_wr_5) (kPZ.out _ HB_wr_5)).mono ?_
      rintro e w6 ⟨rfl, hb0⟩
      have HB_6 := Lib.hid (below_ext HB_5.out hb0)
      have HB_wr_6 := Lib.hid (below_ext HB_wr_5.out hb0)
      have HB_w5_6 := Lib.hid (below_ext HB_w5_5.out hb0)
      clear zc0 zc1 zc2 zc3 zc4 zc5 zc6 zc7 zc8 zc9 zc10 kS_0 kS_1 kS_2 kS_3 kS_4
      clear hb0
      obtain ⟨zc0, zc1, zc2, zc3, zc4, zc5, zc6, zc7, zc8, zc9, zc10⟩ := kC.out _ HB_6
      obtain ⟨kS_0, kS_1, kS_2, kS_3, kS_4⟩ := kS.out _ HB_w5_6
      go_wp2_with fail
      refine (rlabel_any s hs9 true hlb _).mono ?_
      rintro e9 w9 ⟨rfl, hw9⟩
      subst hw9
      go_wp2_with fail
      refine (rtver_any P Q G need Cs cs cn cc Ks ks kn kc hcn hkn E1 E2 A na ca C Z nz cz ix v pA pal pna pca pC pZ pzs pnz pcz O1 O2 (by omega) (by omega) s hs9 r HR hQ _ (kCs.out _ HB_6) (kKs.out _ HB_6) (kPA.out _ HB_wr_6) (kPZ.out _ HB_wr_6)).mono ?_
      rintro e w7 ⟨rfl, hb0⟩
      have HB_7 := Lib.hid (below_ext HB_6.out hb0)
      have HB_wr_7 := Lib.hid (below_ext HB_wr_6.out hb0)
      have HB_w5_7 := Lib.hid (below_ext HB_w5_6.out hb0)
      clear zc0 zc1 zc2 zc3 zc4 zc5 zc6 zc7 zc8 zc9 zc10 kS_0 kS_1 kS_2 kS_3 kS_4
      clear hb0
      obtain ⟨zc0, zc1, zc2, zc3, zc4, zc5, zc6, zc7, zc8, zc9, zc10⟩ := kC.out _ HB_7
      obtain ⟨kS_0, kS_1, kS_2, kS_3, kS_4⟩ := kS.out _ HB_w5_7
      go_wp2
      go_roundw
      case rel => exact ⟨k + 1, by omega, by go_num, HB_7⟩
      case measure => simp [intOf]; omega
    · skip
      obtain rfl : k = n := by omega
      obtain ⟨zc0, zc1, zc2, zc3, zc4, zc5, zc6, zc7, zc8, zc9, zc10⟩ := kC.out _ HBr
      obtain ⟨v9, hv9⟩ : ∃ x, cmbV P Q need kn E1 E2 ps = x := ⟨_, rfl⟩
      obtain ⟨e9, he9⟩ : ∃ x, cmbE P Q need kn E1 E2 ps = x := ⟨_, rfl⟩
      have HV9 := Lib.hid hv9
      have HE9 := Lib.hid he9
      have ev : (v9 == v9) = true := by simp
      have ee : (e9 == e9) = true := by simp
      clear hv9 he9
      go_wp2_with fail
      refine (cmb_any P Q G need Cs cs cn cc Ks ks kn kc hcn hkn E1 E2 A na ca C Z nz cz L ps k c hn hlr (by omega) ht v9 e9 HV9 HE9 hQ _ (kV.out _ HBr) (kCs.out _ HBr) (kKs.out _ HBr) (kL.out _ HBr)).mono ?_
      rintro e w5 ⟨rfl, hb0⟩
      have HB_5 := Lib.hid (below_ext HBr.out hb0)
      clear zc0 zc1 zc2 zc3 zc4 zc5 zc6 zc7 zc8 zc9 zc10
      clear hb0
      obtain ⟨zc0, zc1, zc2, zc3, zc4, zc5, zc6, zc7, zc8, zc9, zc10⟩ := kC.out _ HB_5
      go_wp2_with fail
      refine (rcmb_any P Q G need Cs cs cn cc Ks ks kn kc hcn hkn E1 E2 A na ca C Z nz cz L ps k c hn hlr (by omega) ht v9 e9 HV9 HE9 _ (kL.out _ HB_5)).mono ?_
      rintro e w6 ⟨rfl, hb0⟩
      have HB_6 := Lib.hid (below_ext HB_5.out hb0)
      clear zc0 zc1 zc2 zc3 zc4 zc5 zc6 zc7 zc8 zc9 zc10
      clear hb0
      obtain ⟨zc0, zc1, zc2, zc3, zc4, zc5, zc6, zc7, zc8, zc9, zc10⟩ := kC.out _ HB_6
      have hbF := below_ext HBw.out HB_6.out
      go_wp2
      go_ret
      exact ⟨rfl, hbF⟩
theorem to_true (P Q G need : Int) (Cs : Option Addr) (cs : List Int) (cn cc : Nat) (Ks : Option Addr) (ks : List Int) (kn kc : Nat) (hcn : Hid (cs.length = cn)) (hkn : Hid (ks.length = kn)) (E1 E2 : Int) (A : Option Addr) (na ca : Nat) (C : Int) (Z : Option Addr) (nz cz : Nat) (s : ByteArray) (L : Option Addr) (ps : List PartR) (n c : Nat) (hn : Hid (ps.length = n)) (hlr : Hid (∀ k, k < n → r64 (ps.getD k noPart).ix)) (hQ : Q < 9223372036854775808) (w : World) (hv : Hid (Vars w)) (hd0 : Hid (VarsD w)) (hC : Hid (Sl w Cs cs)) (hK : Hid (Sl w Ks ks)) (hL : Hid (Pa w L ps)) :
    Calls Tryz.prog 5 #[gv P Q G, trV need Cs cn cc Ks kn kc, esV E1 E2 A na ca C Z nz cz, .string s, .slice L n c] w fun e' w' => e' = .returned (.bool true) ∧ Below w.heap.size w w' := by
  cases hgr : (decide (50 < cn) || decide (50 < kn)) with
  | true => exact to_1 P Q G need Cs cs cn cc Ks ks kn kc hcn hkn E1 E2 A na ca C Z nz cz s L ps n c hn hlr hQ (Lib.hid hgr) w hv hd0 hC hK hL
  | false =>
    by_cases hl : 20 < n
    · exact to_2 P Q G need Cs cs cn cc Ks ks kn kc hcn hkn E1 E2 A na ca C Z nz cz s L ps n c hn hlr hQ (Lib.hid hgr) hl w hv hd0 hC hK hL
    · cases hlg : ps.any lngB with
      | true => exact to_3 P Q G need Cs cs cn cc Ks ks kn kc hcn hkn E1 E2 A na ca C Z nz cz s L ps n c hn hlr hQ (Lib.hid hgr) (by omega) (Lib.hid hlg) w hv hd0 hC hK hL
      | false =>
        by_cases hs : 100 < s.size
        · exact to_4 P Q G need Cs cs cn cc Ks ks kn kc hcn hkn E1 E2 A na ca C Z nz cz s L ps n c hn hlr hQ (Lib.hid hgr) (by omega) (Lib.hid hlg) hs w hv hd0 hC hK hL
        · cases ht : trB P Q G need cs ks with
          | false => exact to_5 P Q G need Cs cs cn cc Ks ks kn kc hcn hkn E1 E2 A na ca C Z nz cz s L ps n c hn hlr hQ (Lib.hid hgr) (by omega) (Lib.hid hlg) (by omega) (Lib.hid ht) w hv hd0 hC hK hL
          | true =>
            cases hlb : labB (bys s) with
            | false => exact to_6 P Q G need Cs cs cn cc Ks ks kn kc hcn hkn E1 E2 A na ca C Z nz cz s L ps n c hn hlr hQ (Lib.hid hgr) (by omega) (Lib.hid hlg) (by omega) (Lib.hid ht) (Lib.hid hlb) w hv hd0 hC hK hL
            | true => exact to_7 P Q G need Cs cs cn cc Ks ks kn kc hcn hkn E1 E2 A na ca C Z nz cz s L ps n c hn hlr hQ (Lib.hid hgr) (by omega) (Lib.hid hlg) (by omega) (Lib.hid ht) (Lib.hid hlb) w hv hd0 hC hK hL
end Go.Proofs.YtjnoaejikapmdaaGreatDoor
