/- Contracts and lemmas: TruA, TruB, TruC, DigD, DigE, DigF, RdgA, Itm, EncA, EncB, EncC, EncD. -/
import Derived.Maps.OwnSet
import Derived.Deep.AppendLies
import Derived.Test.YtchcllcbknfikaaGreatDoorTa2
set_option linter.unusedVariables false
set_option linter.unusedSimpArgs false
set_option maxRecDepth 100000
set_option maxHeartbeats 25600000
namespace Go.Proofs.YtchcllcbknfikaaGreatDoor
open Go.RowKit si
abbrev kN (need : Int) (Cs : Option Addr) (cn cc : Nat) (Ks : Option Addr) (kn kc : Nat) : Value := .agg #[.int .i64 need, .slice Cs cn cc, .slice Ks kn kc]
abbrev wJ (need : Int) (Cs : Option Addr) (cn cc : Nat) (Ks : Option Addr) (kn kc : Nat) : Obj := .cells #[.int .i64 need, .slice Cs cn cc, .slice Ks kn kc] 26
def qj (Q need : Int) (n : Nat) : Bool := decide (1 ≤ n) && (decide (n ≤ 8) && (decide ((n : Int) < Q) && (decide (1 ≤ need) && decide (need ≤ n))))
def Fp (Q i : Int) : Nat → Int
 | 0 => 1
 | k + 1 => Fp Q i k * i % Q
def Gg (P Q : Int) (cs : List Int) (i : Int) : Nat → Int
 | 0 => 1
 | k + 1 => Gg P Q cs i k * pw (cs.getD k 0) (Fp Q i k % Q) P % P
def Fh (P Q : Int) (cs : List Int) : Nat → List Int → Bool
 | _, [] => true
 | i, y :: t => (y == Gg P Q cs ((i : Int) + 1) cs.length) && Fh P Q cs (i + 1) t
theorem Eo {P Q : Int} {cs ks : List Int} {k : Nat} (hk : k < ks.length) : Fh P Q cs k (ks.drop k) = ((ks.getD k 0 == Gg P Q cs ((k : Int) + 1) cs.length) && Fh P Q cs (k + 1) (ks.drop (k + 1))) := by
 rw [List.drop_eq_getElem_cons hk, Fh, List.getD_eq_getElem?_getD, List.getElem?_eq_getElem hk]; rfl
theorem zL {Q i : Int} (hQ : 2 ≤ Q) : ∀ k, 0 ≤ Fp Q i k ∧ Fp Q i k < Q
 | 0 => ⟨by rw [Fp]; omega, by rw [Fp]; omega⟩
 | k + 1 => ⟨Int.emod_nonneg _ (by omega), Int.emod_lt_of_pos _ (by omega)⟩
theorem yI {P Q : Int} {cs : List Int} {i : Int} (hP : 2 ≤ P) (hQ : 1 ≤ Q) (h : cs.all (aW P Q) = true) : ∀ k, k ≤ cs.length → aW P Q (Gg P Q cs i k) = true
 | 0, _ => Iy hP
 | k + 1, hk => Cm hP hQ (yI hP hQ h k (by omega)) (Ck hP hQ (Int.emod_nonneg _ (by omega)) (kU h (by omega)))
theorem iP {Q need : Int} {n : Nat} (h : qj Q need n = true) : 1 ≤ n ∧ n ≤ 8 ∧ (n : Int) < Q ∧ 1 ≤ need ∧ need ≤ n := by
 unfold qj at h
 simpa using h
theorem sF {w : World} {A : Option Addr} {xs : List Int} (h : Sl w A xs) (hp : 0 < xs.length) : ∃ b o, A = some ⟨b, o, none⟩ := by
 obtain ⟨b, o, h1, _⟩ := h 0 hp
 exact ⟨b, o, h1⟩
def tL (P Q G need : Int) (cs ks : List Int) : Bool := bg P Q G && (qj Q need ks.length && (decide ((cs.length : Int) = need) && (!(cs.getD 0 0 == 1) && (cs.all (aW P Q) && Fh P Q cs 0 ks))))
theorem om (P Q G need : Int) (n : Nat) (r : Bool) (hr : Hid (qj Q need n = r)) (w : World) :
  Calls Tryz.prog 47 #[gv P Q G, .int .i64 need, .int .i64 n] w (Rt w (.bool r)) := by
 have HX := aa (a_ w P Q G)
 obtain ⟨c0, c1, c2⟩ := HX.out
 have hb := af w (bq P Q G)
 have hr1 := hr.out
 unfold qj at hr1
 by_cases h0 : 1 ≤ n
 ·
  have d0 : decide ((1 : Int) ≤ (n : Int)) = true := by simp; omega
  by_cases h1 : n ≤ 8
  ·
   have d1 : decide ((n : Int) ≤ 8) = true := by simp; omega
   by_cases h2 : (n : Int) < Q
   ·
    have d2 : decide ((n : Int) < Q) = true := by simp; omega
    by_cases h3 : 1 ≤ need
    ·
     have d3 : decide ((1 : Int) ≤ need) = true := by simp; omega
     by_cases h4 : need ≤ n
     ·
      have d4 : decide (need ≤ (n : Int)) = true := by simp; omega
      obtain rfl : r = true := by rw [← hr1]; simp; omega
      go_in
      go_wp2
      go_ret
      exact ⟨rfl, hb⟩
     ·
      have d4 : decide (need ≤ (n : Int)) = false := by simp; omega
      obtain rfl : r = false := by rw [← hr1]; simp; omega
      go_in
      go_wp2
      go_ret
      exact ⟨rfl, hb⟩
    ·
     have d3 : decide ((1 : Int) ≤ need) = false := by simp; omega
     obtain rfl : r = false := by rw [← hr1]; simp; omega
     go_in
     go_wp2
     go_ret
     exact ⟨rfl, hb⟩
   ·
    have d2 : decide ((n : Int) < Q) = false := by simp; omega
    obtain rfl : r = false := by rw [← hr1]; simp; omega
    go_in
    go_wp2
    go_ret
    exact ⟨rfl, hb⟩
  ·
   have d1 : decide ((n : Int) ≤ 8) = false := by simp; omega
   obtain rfl : r = false := by rw [← hr1]; simp; omega
   go_in
   go_wp2
   go_ret
   exact ⟨rfl, hb⟩
 ·
  have d0 : decide ((1 : Int) ≤ (n : Int)) = false := by simp; omega
  obtain rfl : r = false := by rw [← hr1]; simp; omega
  go_in
  go_wp2
  go_ret
  exact ⟨rfl, hb⟩
theorem IC (P Q G : Int) (bC oC : Nat) (cs : List Int) (cn cc : Nat) (hbig : cn < 1000000) (idx K : Int) (q8 : Hid (bg P Q G = true)) (hn : Hid (cs.length = cn)) (hm : Hid (cs.all (aW P Q) = true)) (i0 : 0 ≤ idx) (i1 : idx < Q) (hK : Hid (Gg P Q cs idx cs.length = K)) (w : World) (hv : Hid (Vars w)) (hC : Hid (Sl w (some ⟨bC, oC, none⟩) cs)) :
  Calls Tryz.prog 49 #[gv P Q G, .slice (some ⟨bC, oC, none⟩) cn cc, .int .i64 idx] w (Rt w (.int .i64 K)) := by
 obtain ⟨hp2, hp, hq3, Cv⟩ := b_ q8.out
 have hQ : Q < 9223372036854775808 := by omega
 have hq : Q < 2305843009213693952 := by omega
 obtain ⟨w0, HW, aj, kC⟩ := st1 (bq P Q G) qz w
 have kV := mkV aj hv
 have qU := mkS aj hC
 have ah := bP w0
 clear hv hC
 go_in
 go_wp2_with fail
 rw [HW.out]
 have zc := kC.out _ ah
 go_wp2
 clear zc
 go_loopw [7, 8, 15] (fun y e i wr => ∃ k : Nat, k ≤ cn ∧ i = .int .i64 k ∧ y = .int .i64 (Gg P Q cs idx k) ∧ e = .int .i64 (Fp Q idx k) ∧ Hid (Below w0.heap.size w0 wr)) (fun _ _ i _ => cn - (intOf i).toNat)
 case atStart => exact ⟨0, by omega, rfl, rfl, rfl, ah⟩
 case round =>
  obtain ⟨k, hk, rfl, rfl, rfl, aF⟩ := hrel
  have hkm := yI (i := idx) hp2 (by omega) hm.out k (by rw [hn.out]; exact hk)
  obtain ⟨e0, e1⟩ := zL (i := idx) (show 2 ≤ Q by omega) k
  by_cases hlt : k < cn
  ·
   have hkl : k < cs.length := by rw [hn.out]; exact hlt
   obtain ⟨b, o, hA, hi⟩ := (qU.out _ aF).out k hkl
   cases hA
   have hcm := kU hm.out hkl
   have sk : Gg P Q cs idx (k + 1) = Gg P Q cs idx k * pw (cs.getD k 0) (Fp Q idx k % Q) P % P := rfl
   have se : Fp Q idx (k + 1) = Fp Q idx k * idx % Q := rfl
   obtain ⟨x, hx⟩ : ∃ x, cs.getD k 0 = x := ⟨_, rfl⟩
   obtain ⟨a, ha⟩ : ∃ x, Gg P Q cs idx k = x := ⟨_, rfl⟩
   obtain ⟨e, he⟩ : ∃ x, Fp Q idx k = x := ⟨_, rfl⟩
   obtain ⟨v, Gh⟩ : ∃ x', pw x (e % Q) P = x' := ⟨_, rfl⟩
   obtain ⟨u, hu⟩ : ∃ x', a * v % P = x' := ⟨_, rfl⟩
   obtain ⟨f, hf⟩ : ∃ x', e * idx % Q = x' := ⟨_, rfl⟩
   rw [hx] at hi hcm sk
   rw [ha] at hkm sk ⊢
   rw [he] at e0 e1 sk se ⊢
   rw [Gh, hu] at sk
   rw [hf] at se
   have ck1 : Hid (nN P Q G [x] = 0) := aa (IY q8.out (by simp [hcm]))
   have mv : aW P Q v = true := by rw [← Gh]; exact Ck hp2 (by omega) (Int.emod_nonneg _ (by omega)) hcm
   have ck2 : Hid (nN P Q G [a, v] = 0) := aa (IY q8.out (by simp [hkm, mv]))
   have U5 := aa Gh
   have HU := aa hu
   have HF := aa hf
   have SK := aa sk
   have SE := aa se
   clear hx ha he Gh hu hf sk se hcm hkm mv hkl
   have zc := kC.out _ aF
   go_wp2_with fail
   clear zc
   refine eH kC aF (Qi P Q G x e v ck1 U5 (by omega) (by omega) _ (kV.out _ aF)) fun w1 ax zc => ?_
   go_wp2_with fail
   clear zc
   refine eH kC ax (Qj P Q G a v u ck2 HU hQ _ (kV.out _ ax)) fun w2 aK zc => ?_
   go_wp2_with fail
   refine (BL e idx Q f HF hq e0 e1 i0 i1 _).mono ?_
   rintro e9 w9 ⟨rfl, n9, rfl⟩
   have Al := aa (aG aK.out n9)
   go_wp2
   go_roundw
   case rel => exact ⟨k + 1, by omega, by go_num, by rw [SK.out], by rw [SE.out], Al⟩
   case measure => simp [intOf]; omega
  ·
   obtain rfl : k = cn := by omega
   have hkv := hK.out
   rw [hn.out] at hkv
   rw [hkv]
   clear hkv hkm e0 e1
   go_wp2
   go_ret
   exact ⟨rfl, gy aj aF⟩
theorem Wj (P Q G need : Int) (Cs : Option Addr) (cn cc : Nat) (Ks : Option Addr) (kn kc : Nat) (q8 : Hid (bg P Q G = false)) (hQ : Q < 9223372036854775808) (w : World) (hv : Hid (Vars w)) :
  Calls Tryz.prog 13 #[gv P Q G, kN need Cs cn cc Ks kn kc] w (Rt w (.bool false)) := by
 obtain ⟨w0, HW, aj, kC⟩ := st2 (bq P Q G) fE (wJ need Cs cn cc Ks kn kc) qz w
 have kV := mkV aj hv
 have ah := bP w0
 clear hv
 go_in
 go_wp2_with fail
 rw [HW.out]
 have zc := kC.out _ ah
 go_wp2_with fail
 clear zc
 refine eH kC ah (dD P Q G false q8 hQ _ (kV.out _ ah)) fun w1 ax zc => ?_
 go_wp2
 go_ret
 exact ⟨rfl, gy aj ax⟩
theorem Wi (P Q G need : Int) (Cs : Option Addr) (cn cc : Nat) (Ks : Option Addr) (kn kc : Nat) (q8 : Hid (bg P Q G = true)) (HN : Hid (qj Q need kn = false)) (hQ : Q < 9223372036854775808) (w : World) (hv : Hid (Vars w)) :
  Calls Tryz.prog 13 #[gv P Q G, kN need Cs cn cc Ks kn kc] w (Rt w (.bool false)) := by
 obtain ⟨w0, HW, aj, kC⟩ := st2 (bq P Q G) fE (wJ need Cs cn cc Ks kn kc) qz w
 have kV := mkV aj hv
 have ah := bP w0
 clear hv
 go_in
 go_wp2_with fail
 rw [HW.out]
 have zc := kC.out _ ah
 go_wp2_with fail
 clear zc
 refine eH kC ah (dD P Q G true q8 hQ _ (kV.out _ ah)) fun w1 ax zc => ?_
 go_wp2_with fail
 clear zc
 refine eH kC ax (om P Q G need kn false HN _) fun w2 aK zc => ?_
 go_wp2
 go_ret
 exact ⟨rfl, gy aj aK⟩
theorem Wh (P Q G need : Int) (Cs : Option Addr) (cn cc : Nat) (Ks : Option Addr) (kn kc : Nat) (q8 : Hid (bg P Q G = true)) (HN : Hid (qj Q need kn = true)) (hne : ¬ ((cn : Int) = need)) (hQ : Q < 9223372036854775808) (w : World) (hv : Hid (Vars w)) :
  Calls Tryz.prog 13 #[gv P Q G, kN need Cs cn cc Ks kn kc] w (Rt w (.bool false)) := by
 have dn : ((cn : Int) != need) = true := by simpa using hne
 obtain ⟨w0, HW, aj, kC⟩ := st2 (bq P Q G) fE (wJ need Cs cn cc Ks kn kc) qz w
 have kV := mkV aj hv
 have ah := bP w0
 clear hv
 go_in
 go_wp2_with fail
 rw [HW.out]
 have zc := kC.out _ ah
 go_wp2_with fail
 clear zc
 refine eH kC ah (dD P Q G true q8 hQ _ (kV.out _ ah)) fun w1 ax zc => ?_
 go_wp2_with fail
 clear zc
 refine eH kC ax (om P Q G need kn true HN _) fun w2 aK zc => ?_
 go_wp2
 go_ret
 exact ⟨rfl, gy aj aK⟩
theorem We (P Q G need : Int) (bC oC : Nat) (cs : List Int) (cn cc : Nat) (bK oK : Nat) (ks : List Int) (kn kc : Nat) (hcn : Hid (cs.length = cn)) (hkn : Hid (ks.length = kn)) (q8 : Hid (bg P Q G = true)) (HN : Hid (qj Q need kn = true)) (hne : Hid ((cn : Int) = need)) (hpos : 0 < cn) (NQ : Int) (uI : Hid (cs.getD 0 0 = NQ)) (h1 : (NQ == 1) = true) (hQ : Q < 9223372036854775808) (w : World) (hv : Hid (Vars w)) (hC : Hid (Sl w (some ⟨bC, oC, none⟩) cs)) (hK : Hid (Sl w (some ⟨bK, oK, none⟩) ks)) :
  Calls Tryz.prog 13 #[gv P Q G, kN need (some ⟨bC, oC, none⟩) cn cc (some ⟨bK, oK, none⟩) kn kc] w (Rt w (.bool false)) := by
 have dn : ((cn : Int) != need) = false := by simpa using hne.out
 obtain ⟨w0, HW, aj, kC⟩ := st2 (bq P Q G) fE (wJ need (some ⟨bC, oC, none⟩) cn cc (some ⟨bK, oK, none⟩) kn kc) qz w
 have kV := mkV aj hv
 have qU := mkS aj hC
 have xq := mkS aj hK
 have ah := bP w0
 clear hv hC hK
 go_in
 go_wp2_with fail
 rw [HW.out]
 have zc := kC.out _ ah
 go_wp2_with fail
 clear zc
 refine eH kC ah (dD P Q G true q8 hQ _ (kV.out _ ah)) fun w1 ax zc => ?_
 obtain ⟨b9, o9, M_, hi9⟩ := (qU.out _ ax).out 0 (by rw [hcn.out]; exact hpos)
 cases M_
 rw [uI.out, Nat.add_zero] at hi9
 have HI9 := aa hi9
 clear hi9
 go_wp2_with fail
 clear zc
 refine eH kC ax (om P Q G need kn true HN _) fun w2 aK zc => ?_
 obtain ⟨b9, o9, M_, hi9⟩ := (qU.out _ aK).out 0 (by rw [hcn.out]; exact hpos)
 cases M_
 rw [uI.out, Nat.add_zero] at hi9
 clear HI9
 go_wp2
 go_ret
 exact ⟨rfl, gy aj aK⟩
theorem V_ (P Q G need : Int) (bC oC : Nat) (cs : List Int) (cn cc : Nat) (bK oK : Nat) (ks : List Int) (kn kc : Nat) (hcn : Hid (cs.length = cn)) (hkn : Hid (ks.length = kn)) (q8 : Hid (bg P Q G = true)) (HN : Hid (qj Q need kn = true)) (hne : Hid ((cn : Int) = need)) (hpos : 0 < cn) (NQ : Int) (uI : Hid (cs.getD 0 0 = NQ)) (h1 : (NQ == 1) = false) (r : Bool) (hr : Hid ((cs.all (aW P Q) && Fh P Q cs 0 ks) = r)) (hQ : Q < 9223372036854775808) (w : World) (hv : Hid (Vars w)) (hC : Hid (Sl w (some ⟨bC, oC, none⟩) cs)) (hK : Hid (Sl w (some ⟨bK, oK, none⟩) ks)) :
  Calls Tryz.prog 13 #[gv P Q G, kN need (some ⟨bC, oC, none⟩) cn cc (some ⟨bK, oK, none⟩) kn kc] w (Rt w (.bool r)) := by
 have dn : ((cn : Int) != need) = false := by simpa using hne.out
 obtain ⟨n1, n2, n3, n4, n5⟩ := iP HN.out
 have Aw : cn < 1000000 := by have := hne.out; omega
 obtain ⟨w0, HW, aj, kC⟩ := st2 (bq P Q G) fE (wJ need (some ⟨bC, oC, none⟩) cn cc (some ⟨bK, oK, none⟩) kn kc) qz w
 have kV := mkV aj hv
 have qU := mkS aj hC
 have xq := mkS aj hK
 have ah := bP w0
 clear hv hC hK
 go_in
 go_wp2_with fail
 rw [HW.out]
 have zc := kC.out _ ah
 go_wp2_with fail
 clear zc
 refine eH kC ah (dD P Q G true q8 hQ _ (kV.out _ ah)) fun w1 ax zc => ?_
 obtain ⟨b9, o9, M_, hi9⟩ := (qU.out _ ax).out 0 (by rw [hcn.out]; exact hpos)
 cases M_
 rw [uI.out, Nat.add_zero] at hi9
 have HI9 := aa hi9
 clear hi9
 go_wp2_with fail
 clear zc
 refine eH kC ax (om P Q G need kn true HN _) fun w2 aK zc => ?_
 obtain ⟨b9, o9, M_, hi9⟩ := (qU.out _ aK).out 0 (by rw [hcn.out]; exact hpos)
 cases M_
 rw [uI.out, Nat.add_zero] at hi9
 clear HI9
 go_wp2
 clear zc
 clear hi9
 go_loopw [40] (fun i wr => ∃ k : Nat, k ≤ cn ∧ i = .int .i64 k ∧ Hid (cs.all (aW P Q) = (cs.drop k).all (aW P Q)) ∧ Hid (Below w0.heap.size w0 wr)) (fun i _ => cn - (intOf i).toNat)
 case atStart => exact ⟨0, by omega, rfl, aa rfl, aK⟩
 case round =>
  obtain ⟨k, hk, rfl, HR, aF⟩ := hrel
  by_cases hlt : k < cn
  ·
   have hkl : k < cs.length := by rw [hcn.out]; exact hlt
   obtain ⟨b, o, hA, hi⟩ := (qU.out _ aF).out k hkl
   cases hA
   cases Ew : aW P Q (cs.getD k 0) with
   | true =>
    have HS : Hid (cs.all (aW P Q) = (cs.drop (k + 1)).all (aW P Q)) := aa (HR.out.trans (kW hkl Ew))
    obtain ⟨x, hx⟩ : ∃ x, cs.getD k 0 = x := ⟨_, rfl⟩
    rw [hx] at hi Ew
    have HM := aa Ew
    clear hx Ew HR hkl
    have zc := kC.out _ aF
    go_wp2_with fail
    clear zc
    refine eH kC aF (mM P Q G x true (aa (by rw [GM, q8.out, HM.out]; rfl)) hQ _ (kV.out _ aF)) fun w3 aN zc => ?_
    go_wp2
    go_roundw
    case rel => exact ⟨k + 1, by omega, by go_num, HS, aN⟩
    case measure => simp [intOf]; omega
   | false =>
    obtain rfl : r = false := by rw [← hr.out, HR.out, mO hkl Ew]; rfl
    obtain ⟨x, hx⟩ : ∃ x, cs.getD k 0 = x := ⟨_, rfl⟩
    rw [hx] at hi Ew
    have HM := aa Ew
    clear hx Ew HR hkl
    have zc := kC.out _ aF
    go_wp2_with fail
    clear zc
    refine eH kC aF (mM P Q G x false (aa (by rw [GM, q8.out, HM.out]; rfl)) hQ _ (kV.out _ aF)) fun w3 aN zc => ?_
    go_wp2
    go_ret
    exact ⟨rfl, gy aj aN⟩
  ·
   obtain rfl : k = cn := by omega
   have Kz : Hid (cs.all (aW P Q) = true) := aa (by rw [HR.out, ← hcn.out]; simp)
   have HR2 : Hid (Fh P Q cs 0 ks = r) := aa (by rw [← hr.out, Kz.out]; rfl)
   clear HR
   have zc := kC.out _ aF
   go_wp2
   clear zc
   go_loopw [52] (fun i wr => ∃ j : Nat, j ≤ kn ∧ i = .int .i64 j ∧ Hid (Fh P Q cs j (ks.drop j) = r) ∧ Hid (Below w0.heap.size w0 wr)) (fun i _ => kn - (intOf i).toNat)
   case atStart => exact ⟨0, by omega, rfl, HR2, aF⟩
   case round =>
    obtain ⟨j, hj, rfl, Oe, yQ⟩ := hrel
    by_cases JY : j < kn
    ·
     have hjl : j < ks.length := by rw [hkn.out]; exact JY
     obtain ⟨b, o, hA, hi⟩ := (xq.out _ yQ).out j hjl
     cases hA
     have hst := Eo (P := P) (Q := Q) (cs := cs) hjl
     obtain ⟨y, hy⟩ : ∃ x, ks.getD j 0 = x := ⟨_, rfl⟩
     obtain ⟨K, Uz⟩ : ∃ x, Gg P Q cs ((j : Int) + 1) cs.length = x := ⟨_, rfl⟩
     rw [hy] at hi hst
     rw [Uz] at hst
     have VV := aa Uz
     have dw : IntKind.i64.wrap ((j : Int) + 1) = (j : Int) + 1 := IntWalk.i64_in _ (by omega)
     have XN : wrap64 ((j : Int) + 1) = (j : Int) + 1 := IntWalk.wrap64_in _ (by omega)
     clear hy Uz
     cases hyk : (y == K) with
     | true =>
      have HRn : Hid (Fh P Q cs (j + 1) (ks.drop (j + 1)) = r) := aa (by rw [← Oe.out, hst, hyk]; rfl)
      have dne : (y != K) = false := by simpa using hyk
      clear hst Oe hjl hyk
      have zc := kC.out _ yQ
      go_wp2_with fail
      clear zc
      refine eH kC yQ (IC P Q G bC oC cs k cc Aw ((j : Int) + 1) K q8 hcn Kz (by omega) (by omega) VV _ (kV.out _ yQ) (qU.out _ yQ)) fun w3 aN zc => ?_
      go_wp2
      go_roundw
      case rel => exact ⟨j + 1, by omega, by go_num, HRn, aN⟩
      case measure => simp [intOf]; omega
     | false =>
      obtain rfl : r = false := by rw [← Oe.out, hst, hyk]; rfl
      have dne : (y != K) = true := by simpa using hyk
      clear hst Oe hjl hyk
      have zc := kC.out _ yQ
      go_wp2_with fail
      clear zc
      refine eH kC yQ (IC P Q G bC oC cs k cc Aw ((j : Int) + 1) K q8 hcn Kz (by omega) (by omega) VV _ (kV.out _ yQ) (qU.out _ yQ)) fun w3 aN zc => ?_
      go_wp2
      go_ret
      exact ⟨rfl, gy aj aN⟩
    ·
     obtain rfl : j = kn := by omega
     obtain rfl : r = true := by rw [← Oe.out, ← hkn.out, List.drop_length]; rfl
     clear Oe
     have zc := kC.out _ yQ
     go_wp2
     go_ret
     exact ⟨rfl, gy aj yQ⟩
theorem n_ (P Q G need : Int) (Cs : Option Addr) (cs : List Int) (cn cc : Nat) (Ks : Option Addr) (ks : List Int) (kn kc : Nat) (hcn : Hid (cs.length = cn)) (hkn : Hid (ks.length = kn)) (r : Bool) (hr : Hid (tL P Q G need cs ks = r)) (hQ : Q < 9223372036854775808) (w : World) (hv : Hid (Vars w)) (hC : Hid (Sl w Cs cs)) (hK : Hid (Sl w Ks ks)) :
  Calls Tryz.prog 13 #[gv P Q G, kN need Cs cn cc Ks kn kc] w (Rt w (.bool r)) := by
 have hr1 := hr.out
 unfold tL at hr1
 rw [hkn.out, hcn.out] at hr1
 cases h1 : bg P Q G with
 | false =>
  obtain rfl : r = false := by rw [← hr1, h1]; rfl
  exact Wj P Q G need Cs cn cc Ks kn kc (aa h1) hQ w hv
 | true =>
  cases h2 : qj Q need kn with
  | false =>
   obtain rfl : r = false := by rw [← hr1, h1, h2]; rfl
   exact Wi P Q G need Cs cn cc Ks kn kc (aa h1) (aa h2) hQ w hv
  | true =>
   by_cases h3 : (cn : Int) = need
   ·
    obtain ⟨n1, n2, n3, n4, n5⟩ := iP h2
    have hpos : 0 < cn := by omega
    obtain ⟨bC, oC, rfl⟩ := sF hC.out (by rw [hcn.out]; exact hpos)
    obtain ⟨bK, oK, rfl⟩ := sF hK.out (by rw [hkn.out]; exact n1)
    cases h4 : (cs.getD 0 0 == 1) with
    | true =>
     obtain rfl : r = false := by rw [← hr1, h1, h2, decide_eq_true h3, h4]; rfl
     exact We P Q G need bC oC cs cn cc bK oK ks kn kc hcn hkn (aa h1) (aa h2) (aa h3) hpos _ (aa rfl) h4 hQ w hv hC hK
    | false => exact V_ P Q G need bC oC cs cn cc bK oK ks kn kc hcn hkn (aa h1) (aa h2) (aa h3) hpos _ (aa rfl) h4 r (aa (by rw [← hr1, h1, h2, decide_eq_true h3, h4]; rfl)) hQ w hv hC hK
   ·
    obtain rfl : r = false := by rw [← hr1, h1, h2, decide_eq_false h3]; rfl
    exact Wh P Q G need Cs cn cc Ks kn kc (aa h1) (aa h2) h3 hQ w hv
theorem o8 (P Q G need : Int) (n : Nat) (r : Bool) (hr : Hid (qj Q need n = r)) (w : World) :
  Calls Tryz.prog 41 #[gv P Q G, .int .i64 need, .int .i64 n] w (Rt w (.bool r)) := by
 have HX := aa (a_ w P Q G)
 obtain ⟨c0, c1, c2⟩ := HX.out
 have hb := af w (bq P Q G)
 have hr1 := hr.out
 unfold qj at hr1
 by_cases h0 : 1 ≤ n
 ·
  have d0 : decide ((1 : Int) ≤ (n : Int)) = true := by simp; omega
  by_cases h1 : n ≤ 8
  ·
   have d1 : decide ((n : Int) ≤ 8) = true := by simp; omega
   by_cases h2 : (n : Int) < Q
   ·
    have d2 : decide ((n : Int) < Q) = true := by simp; omega
    by_cases h3 : 1 ≤ need
    ·
     have d3 : decide ((1 : Int) ≤ need) = true := by simp; omega
     by_cases h4 : need ≤ n
     ·
      have d4 : decide (need ≤ (n : Int)) = true := by simp; omega
      obtain rfl : r = true := by rw [← hr1]; simp; omega
      go_in
      go_wp2
      go_ret
      exact ⟨rfl, hb⟩
     ·
      have d4 : decide (need ≤ (n : Int)) = false := by simp; omega
      obtain rfl : r = false := by rw [← hr1]; simp; omega
      go_in
      go_wp2
      go_ret
      exact ⟨rfl, hb⟩
    ·
     have d3 : decide ((1 : Int) ≤ need) = false := by simp; omega
     obtain rfl : r = false := by rw [← hr1]; simp; omega
     go_in
     go_wp2
     go_ret
     exact ⟨rfl, hb⟩
   ·
    have d2 : decide ((n : Int) < Q) = false := by simp; omega
    obtain rfl : r = false := by rw [← hr1]; simp; omega
    go_in
    go_wp2
    go_ret
    exact ⟨rfl, hb⟩
  ·
   have d1 : decide ((n : Int) ≤ 8) = false := by simp; omega
   obtain rfl : r = false := by rw [← hr1]; simp; omega
   go_in
   go_wp2
   go_ret
   exact ⟨rfl, hb⟩
 ·
  have d0 : decide ((1 : Int) ≤ (n : Int)) = false := by simp; omega
  obtain rfl : r = false := by rw [← hr1]; simp; omega
  go_in
  go_wp2
  go_ret
  exact ⟨rfl, hb⟩
theorem IB {P Q : Int} {cs : List Int} (hP : 2 ≤ P) (hQ : 1 ≤ Q) (h : cs.all (aW P Q) = true) : ∀ (ks : List Int) (i : Nat), Fh P Q cs i ks = true → ks.all (aW P Q) = true
 | [], _, _ => rfl
 | y :: t, i, hk => by
  rw [Fh] at hk
  simp only [Bool.and_eq_true, beq_iff_eq] at hk
  rw [List.all_cons, IB hP hQ h t (i + 1) hk.2, hk.1, yI hP hQ h _ (Nat.le_refl _)]; rfl
theorem gu (P Q G : Int) (A : Option Addr) (xs : List Int) (n c : Nat) (r : Bool) (hr : Hid (xs.all (aW P Q) = r)) (hn : Hid (xs.length = n)) (hbig : n < 1000000) (h1 : P < 2305843009213693952) (Dq : 0 ≤ Q) (hQ : Q < 9223372036854775808) (w : World) (ZB : Hid (Sl w A xs)) :
  Calls Tryz.prog 42 #[gv P Q G, .slice A n c] w (Rt w (.bool r)) := by
 obtain ⟨w0, HW, aj, kC⟩ := st1 (bq P Q G) qz w
 have qU := mkS aj ZB
 have ah := bP w0
 clear ZB
 go_in
 go_wp2_with fail
 rw [HW.out]
 have zc := kC.out _ ah
 go_wp2
 clear zc
 go_loopw [5] (fun i wr => ∃ k : Nat, k ≤ n ∧ i = .int .i64 k ∧ Hid (xs.all (aW P Q) = (xs.drop k).all (aW P Q)) ∧ Hid (Below w0.heap.size w0 wr)) (fun i _ => n - (intOf i).toNat)
 case atStart => exact ⟨0, by omega, rfl, aa rfl, ah⟩
 case round =>
  obtain ⟨k, hk, rfl, HR, aF⟩ := hrel
  by_cases hlt : k < n
  ·
   have hkl : k < xs.length := by rw [hn.out]; exact hlt
   obtain ⟨b, o, hA, hi⟩ := (qU.out _ aF).out k hkl
   subst hA
   cases Ew : aW P Q (xs.getD k 0) with
   | true =>
    have HS : Hid (xs.all (aW P Q) = (xs.drop (k + 1)).all (aW P Q)) := aa (HR.out.trans (kW hkl Ew))
    obtain ⟨x, hx⟩ : ∃ x, xs.getD k 0 = x := ⟨_, rfl⟩
    rw [hx] at hi Ew
    have kI := mkc (p := ⟨b, o + k, none⟩) (v := .int .i64 x) hi
    have HM := aa Ew
    clear hx Ew HR hkl hi
    have iE := bP wr
    have zc := kC.out _ aF
    have Jg := kI.out _ iE
    go_wp2_with fail
    clear zc Jg
    have hS1 := aa (show ∀ u1 u2 : World, (Hid (Below w0.heap.size w0 u1) ∧ Hid (Below wr.heap.size wr u1)) → Below u1.heap.size u1 u2 → ((u2.cell? ⟨w.heap.size, 0, none⟩ = some (.int .i64 P) ∧ u2.cell? ⟨w.heap.size, 1, none⟩ = some (.int .i64 Q) ∧ u2.cell? ⟨w.heap.size, 2, none⟩ = some (.int .i64 G)) ∧ (u2.cell? ⟨b, o + k, none⟩ = some (.int .i64 x)) ∧ Hid (Below w0.heap.size w0 u2) ∧ Hid (Below wr.heap.size wr u2)) from fun u1 u2 h1 h2 => by
     obtain ⟨q0, q1⟩ := h1
     have r0 := bF q0 h2
     have r1 := bF q1 h2
     exact ⟨kC.out _ r0, kI.out _ r1, r0, r1⟩)
    have HR1 := aa (show Hid (Below w0.heap.size w0 wr) ∧ Hid (Below wr.heap.size wr wr) from ⟨aF, iE⟩)
    go_region_held3 (fun w' => (w'.cell? ⟨w.heap.size, 0, none⟩ = some (.int .i64 P) ∧ w'.cell? ⟨w.heap.size, 1, none⟩ = some (.int .i64 Q) ∧ w'.cell? ⟨w.heap.size, 2, none⟩ = some (.int .i64 G)) ∧ (w'.cell? ⟨b, o + k, none⟩ = some (.int .i64 x)) ∧ Hid (Below w0.heap.size w0 w') ∧ Hid (Below wr.heap.size wr w'))
     (first | exact hS1.out _ _ HR1.out ((Below.refl _ _).drew) | (exact hS1.out _ _ (by go_split_ands; exact ⟨(by assumption), (by assumption)⟩) bS) | go_keep)
     ((first
      | (go_at_call 103; (with_reducible refine (bD P Q G x true HM h1 Dq hQ _).mono ?_); rintro e wA ⟨rfl, bS⟩)))
    rename_i hHeld
    obtain ⟨-, -, E8, Oi⟩ := hHeld
    clear hS1 HR1
    have zc := kC.out _ E8
    have Jg := kI.out _ Oi
    go_wp2
    go_roundw
    case rel => exact ⟨k + 1, by omega, by go_num, HS, E8⟩
    case measure => simp only [intOf]; omega
   | false =>
    obtain rfl : r = false := by rw [← hr.out, HR.out]; exact mO hkl Ew
    obtain ⟨x, hx⟩ : ∃ x, xs.getD k 0 = x := ⟨_, rfl⟩
    rw [hx] at hi Ew
    have kI := mkc (p := ⟨b, o + k, none⟩) (v := .int .i64 x) hi
    have HM := aa Ew
    clear hx Ew HR hkl hi
    have iE := bP wr
    have zc := kC.out _ aF
    have Jg := kI.out _ iE
    go_wp2_with fail
    clear zc Jg
    have hS1 := aa (show ∀ u1 u2 : World, (Hid (Below w0.heap.size w0 u1) ∧ Hid (Below wr.heap.size wr u1)) → Below u1.heap.size u1 u2 → ((u2.cell? ⟨w.heap.size, 0, none⟩ = some (.int .i64 P) ∧ u2.cell? ⟨w.heap.size, 1, none⟩ = some (.int .i64 Q) ∧ u2.cell? ⟨w.heap.size, 2, none⟩ = some (.int .i64 G)) ∧ (u2.cell? ⟨b, o + k, none⟩ = some (.int .i64 x)) ∧ Hid (Below w0.heap.size w0 u2) ∧ Hid (Below wr.heap.size wr u2)) from fun u1 u2 h1 h2 => by
     obtain ⟨q0, q1⟩ := h1
     have r0 := bF q0 h2
     have r1 := bF q1 h2
     exact ⟨kC.out _ r0, kI.out _ r1, r0, r1⟩)
    have HR1 := aa (show Hid (Below w0.heap.size w0 wr) ∧ Hid (Below wr.heap.size wr wr) from ⟨aF, iE⟩)
    go_region_held3 (fun w' => (w'.cell? ⟨w.heap.size, 0, none⟩ = some (.int .i64 P) ∧ w'.cell? ⟨w.heap.size, 1, none⟩ = some (.int .i64 Q) ∧ w'.cell? ⟨w.heap.size, 2, none⟩ = some (.int .i64 G)) ∧ (w'.cell? ⟨b, o + k, none⟩ = some (.int .i64 x)) ∧ Hid (Below w0.heap.size w0 w') ∧ Hid (Below wr.heap.size wr w'))
     (first | exact hS1.out _ _ HR1.out ((Below.refl _ _).drew) | (exact hS1.out _ _ (by go_split_ands; exact ⟨(by assumption), (by assumption)⟩) bS) | go_keep)
     ((first
      | (go_at_call 103; (with_reducible refine (bD P Q G x false HM h1 Dq hQ _).mono ?_); rintro e wA ⟨rfl, bS⟩)))
    rename_i hHeld
    obtain ⟨-, -, E8, Oi⟩ := hHeld
    clear hS1 HR1
    have zc := kC.out _ E8
    have Jg := kI.out _ Oi
    go_wp2
    go_ret
    exact ⟨rfl, gy aj E8⟩
  ·
   obtain rfl : k = n := by omega
   obtain rfl : r = true := by rw [← hr.out, HR.out, ← hn.out]; simp
   clear HR
   have zc := kC.out _ aF
   go_wp2
   go_ret
   exact ⟨rfl, gy aj aF⟩
theorem Tf (P Q G need : Int) (Cs : Option Addr) (cn cc : Nat) (Ks : Option Addr) (kn kc : Nat) (q8 : Hid (bg P Q G = false)) (hQ : Q < 9223372036854775808) (w : World) :
  Calls Tryz.prog 12 #[gv P Q G, kN need Cs cn cc Ks kn kc] w (Rt w (.bool false)) := by
 obtain ⟨w0, HW, aj, kC⟩ := st2 (bq P Q G) fE (wJ need Cs cn cc Ks kn kc) qz w
 have ah := bP w0
 go_in
 go_wp2_with fail
 rw [HW.out]
 have zc := kC.out _ ah
 go_wp2_with fail
 clear zc
 refine eH kC ah (bW P Q G false q8 hQ _) fun w1 ax zc => ?_
 go_wp2
 go_ret
 exact ⟨rfl, gy aj ax⟩
theorem Te (P Q G need : Int) (Cs : Option Addr) (cn cc : Nat) (Ks : Option Addr) (kn kc : Nat) (q8 : Hid (bg P Q G = true)) (HN : Hid (qj Q need kn = false)) (hQ : Q < 9223372036854775808) (w : World) :
  Calls Tryz.prog 12 #[gv P Q G, kN need Cs cn cc Ks kn kc] w (Rt w (.bool false)) := by
 obtain ⟨w0, HW, aj, kC⟩ := st2 (bq P Q G) fE (wJ need Cs cn cc Ks kn kc) qz w
 have ah := bP w0
 go_in
 go_wp2_with fail
 rw [HW.out]
 have zc := kC.out _ ah
 go_wp2_with fail
 clear zc
 refine eH kC ah (bW P Q G true q8 hQ _) fun w1 ax zc => ?_
 go_wp2_with fail
 clear zc
 refine eH kC ax (o8 P Q G need kn false HN _) fun w2 aK zc => ?_
 go_wp2
 go_ret
 exact ⟨rfl, gy aj aK⟩
theorem Td (P Q G need : Int) (Cs : Option Addr) (cn cc : Nat) (Ks : Option Addr) (kn kc : Nat) (q8 : Hid (bg P Q G = true)) (HN : Hid (qj Q need kn = true)) (hne : ¬ ((cn : Int) = need)) (hQ : Q < 9223372036854775808) (w : World) :
  Calls Tryz.prog 12 #[gv P Q G, kN need Cs cn cc Ks kn kc] w (Rt w (.bool false)) := by
 have dn : ((cn : Int) != need) = true := by simpa using hne
 obtain ⟨w0, HW, aj, kC⟩ := st2 (bq P Q G) fE (wJ need Cs cn cc Ks kn kc) qz w
 have ah := bP w0
 go_in
 go_wp2_with fail
 rw [HW.out]
 have zc := kC.out _ ah
 go_wp2_with fail
 clear zc
 refine eH kC ah (bW P Q G true q8 hQ _) fun w1 ax zc => ?_
 go_wp2_with fail
 clear zc
 refine eH kC ax (o8 P Q G need kn true HN _) fun w2 aK zc => ?_
 go_wp2
 go_ret
 exact ⟨rfl, gy aj aK⟩
theorem Tc (P Q G need : Int) (bC oC : Nat) (cs : List Int) (cn cc : Nat) (bK oK : Nat) (ks : List Int) (kn kc : Nat) (hcn : Hid (cs.length = cn)) (hkn : Hid (ks.length = kn)) (q8 : Hid (bg P Q G = true)) (HN : Hid (qj Q need kn = true)) (hne : Hid ((cn : Int) = need)) (hpos : 0 < cn) (hall : Hid (cs.all (aW P Q) = false)) (hQ : Q < 9223372036854775808) (w : World) (hC : Hid (Sl w (some ⟨bC, oC, none⟩) cs)) (hK : Hid (Sl w (some ⟨bK, oK, none⟩) ks)) :
  Calls Tryz.prog 12 #[gv P Q G, kN need (some ⟨bC, oC, none⟩) cn cc (some ⟨bK, oK, none⟩) kn kc] w (Rt w (.bool false)) := by
 have dn : ((cn : Int) != need) = false := by simpa using hne.out
 obtain ⟨hp2, hp, hq3, Cv⟩ := b_ q8.out
 obtain ⟨n1, n2, n3, n4, n5⟩ := iP HN.out
 have Aw : cn < 1000000 := by have := hne.out; omega
 obtain ⟨w0, HW, aj, kC⟩ := st2 (bq P Q G) fE (wJ need (some ⟨bC, oC, none⟩) cn cc (some ⟨bK, oK, none⟩) kn kc) qz w
 have qU := mkS aj hC
 have xq := mkS aj hK
 have ah := bP w0
 clear hC hK
 go_in
 go_wp2_with fail
 rw [HW.out]
 have zc := kC.out _ ah
 go_wp2_with fail
 clear zc
 refine eH kC ah (bW P Q G true q8 hQ _) fun w1 ax zc => ?_
 go_wp2_with fail
 clear zc
 refine eH kC ax (o8 P Q G need kn true HN _) fun w2 aK zc => ?_
 go_wp2_with fail
 clear zc
 refine eH kC aK (gu P Q G (some ⟨bC, oC, none⟩) cs cn cc false hall hcn Aw hp (by omega) hQ _ (qU.out _ aK)) fun w3 aN zc => ?_
 go_wp2
 go_ret
 exact ⟨rfl, gy aj aN⟩
theorem Ta (P Q G need : Int) (bC oC : Nat) (cs : List Int) (cn cc : Nat) (bK oK : Nat) (ks : List Int) (kn kc : Nat) (hcn : Hid (cs.length = cn)) (hkn : Hid (ks.length = kn)) (q8 : Hid (bg P Q G = true)) (HN : Hid (qj Q need kn = true)) (hne : Hid ((cn : Int) = need)) (hpos : 0 < cn) (hall : Hid (cs.all (aW P Q) = true)) (MW : Hid (ks.all (aW P Q) = false)) (hQ : Q < 9223372036854775808) (w : World) (hC : Hid (Sl w (some ⟨bC, oC, none⟩) cs)) (hK : Hid (Sl w (some ⟨bK, oK, none⟩) ks)) :
  Calls Tryz.prog 12 #[gv P Q G, kN need (some ⟨bC, oC, none⟩) cn cc (some ⟨bK, oK, none⟩) kn kc] w (Rt w (.bool false)) := by
 have dn : ((cn : Int) != need) = false := by simpa using hne.out
 obtain ⟨hp2, hp, hq3, Cv⟩ := b_ q8.out
 obtain ⟨n1, n2, n3, n4, n5⟩ := iP HN.out
 have Aw : cn < 1000000 := by have := hne.out; omega
 obtain ⟨w0, HW, aj, kC⟩ := st2 (bq P Q G) fE (wJ need (some ⟨bC, oC, none⟩) cn cc (some ⟨bK, oK, none⟩) kn kc) qz w
 have qU := mkS aj hC
 have xq := mkS aj hK
 have ah := bP w0
 clear hC hK
 go_in
 go_wp2_with fail
 rw [HW.out]
 have zc := kC.out _ ah
 go_wp2_with fail
 clear zc
 refine eH kC ah (bW P Q G true q8 hQ _) fun w1 ax zc => ?_
 go_wp2_with fail
 clear zc
 refine eH kC ax (o8 P Q G need kn true HN _) fun w2 aK zc => ?_
 go_wp2_with fail
 clear zc
 refine eH kC aK (gu P Q G (some ⟨bC, oC, none⟩) cs cn cc true hall hcn Aw hp (by omega) hQ _ (qU.out _ aK)) fun w3 aN zc => ?_
 go_wp2_with fail
 clear zc
 refine eH kC aN (gu P Q G (some ⟨bK, oK, none⟩) ks kn kc false MW hkn (by omega) hp (by omega) hQ _ (xq.out _ aN)) fun w4 dQ zc => ?_
 go_wp2
 go_ret
 exact ⟨rfl, gy aj dQ⟩
theorem S_ (P Q G need : Int) (bC oC : Nat) (cs : List Int) (cn cc : Nat) (bK oK : Nat) (ks : List Int) (kn kc : Nat) (hcn : Hid (cs.length = cn)) (hkn : Hid (ks.length = kn)) (q8 : Hid (bg P Q G = true)) (HN : Hid (qj Q need kn = true)) (hne : Hid ((cn : Int) = need)) (hpos : 0 < cn) (hall : Hid (cs.all (aW P Q) = true)) (MW : Hid (ks.all (aW P Q) = true)) (NQ : Int) (uI : Hid (cs.getD 0 0 = NQ)) (h1 : (NQ == 1) = true) (hQ : Q < 9223372036854775808) (w : World) (hC : Hid (Sl w (some ⟨bC, oC, none⟩) cs)) (hK : Hid (Sl w (some ⟨bK, oK, none⟩) ks)) :
  Calls Tryz.prog 12 #[gv P Q G, kN need (some ⟨bC, oC, none⟩) cn cc (some ⟨bK, oK, none⟩) kn kc] w (Rt w (.bool false)) := by
 have dn : ((cn : Int) != need) = false := by simpa using hne.out
 obtain ⟨hp2, hp, hq3, Cv⟩ := b_ q8.out
 obtain ⟨n1, n2, n3, n4, n5⟩ := iP HN.out
 have Aw : cn < 1000000 := by have := hne.out; omega
 obtain ⟨w0, HW, aj, kC⟩ := st2 (bq P Q G) fE (wJ need (some ⟨bC, oC, none⟩) cn cc (some ⟨bK, oK, none⟩) kn kc) qz w
 have qU := mkS aj hC
 have xq := mkS aj hK
 have ah := bP w0
 clear hC hK
 go_in
 go_wp2_with fail
 rw [HW.out]
 have zc := kC.out _ ah
 go_wp2_with fail
 clear zc
 refine eH kC ah (bW P Q G true q8 hQ _) fun w1 ax zc => ?_
 go_wp2_with fail
 clear zc
 refine eH kC ax (o8 P Q G need kn true HN _) fun w2 aK zc => ?_
 go_wp2_with fail
 clear zc
 refine eH kC aK (gu P Q G (some ⟨bC, oC, none⟩) cs cn cc true hall hcn Aw hp (by omega) hQ _ (qU.out _ aK)) fun w3 aN zc => ?_
 go_wp2_with fail
 clear zc
 refine eH kC aN (gu P Q G (some ⟨bK, oK, none⟩) ks kn kc true MW hkn (by omega) hp (by omega) hQ _ (xq.out _ aN)) fun w4 dQ zc => ?_
 obtain ⟨b9, o9, M_, hi9⟩ := (qU.out _ dQ).out 0 (by rw [hcn.out]; exact hpos)
 cases M_
 rw [uI.out, Nat.add_zero] at hi9
 go_wp2
 go_ret
 exact ⟨rfl, gy aj dQ⟩
theorem vO {j n : Nat} (h : j < n) (h8 : n ≤ 8) : IntKind.i64.wrap ((j : Int) + 1 - 1) = (j : Int) ∧ IntKind.i64.wrap (j : Int) = (j : Int) ∧ IntKind.i64.wrap ((j : Int) + 1 + 1) = (j : Int) + 1 + 1 ∧ wrap64 ((j : Int) + 1 - 1) = (j : Int) ∧ wrap64 ((j : Int) + 1 + 1) = (j : Int) + 1 + 1 :=
 ⟨by rw [Int.add_sub_cancel]; exact IntWalk.i64_in _ (by omega), IntWalk.i64_in _ (by omega), IntWalk.i64_in _ (by omega), by rw [Int.add_sub_cancel]; exact IntWalk.wrap64_in _ (by omega), IntWalk.wrap64_in _ (by omega)⟩
theorem G6 (j : Nat) : ((j : Int) + 1 + 1) = ((j + 1 : Nat) : Int) + 1 := by omega
theorem TG {j n : Nat} (h : j < n) : n + 1 - ((j : Int) + 1 + 1).toNat < n + 1 - ((j : Int) + 1).toNat := by omega
theorem xR {a b : Int} : (a != b) = (b != a) := by rw [bne, bne, BEq.comm]
theorem S9 (P Q G need : Int) (bC oC : Nat) (cs : List Int) (cn cc : Nat) (bK oK : Nat) (ks : List Int) (kn kc : Nat) (hcn : Hid (cs.length = cn)) (hkn : Hid (ks.length = kn)) (q8 : Hid (bg P Q G = true)) (HN : Hid (qj Q need kn = true)) (hne : Hid ((cn : Int) = need)) (hpos : 0 < cn) (hall : Hid (cs.all (aW P Q) = true)) (MW : Hid (ks.all (aW P Q) = true)) (NQ : Int) (uI : Hid (cs.getD 0 0 = NQ)) (h1 : (NQ == 1) = false) (r : Bool) (hr : Hid (Fh P Q cs 0 (ks.drop 0) = r)) (hQ : Q < 9223372036854775808) (w : World) (hC : Hid (Sl w (some ⟨bC, oC, none⟩) cs)) (hK : Hid (Sl w (some ⟨bK, oK, none⟩) ks)) :
  Calls Tryz.prog 12 #[gv P Q G, kN need (some ⟨bC, oC, none⟩) cn cc (some ⟨bK, oK, none⟩) kn kc] w (Rt w (.bool r)) := by
 have dn : ((cn : Int) != need) = false := by simpa using hne.out
 obtain ⟨hp2, hp, hq3, Cv⟩ := b_ q8.out
 obtain ⟨n1, n2, n3, n4, n5⟩ := iP HN.out
 have Aw : cn < 1000000 := by have := hne.out; omega
 obtain ⟨w0, HW, aj, kC⟩ := st2 (bq P Q G) fE (wJ need (some ⟨bC, oC, none⟩) cn cc (some ⟨bK, oK, none⟩) kn kc) qz w
 have qU := mkS aj hC
 have xq := mkS aj hK
 have ah := bP w0
 clear hC hK
 go_in
 go_wp2_with fail
 rw [HW.out]
 have zc := kC.out _ ah
 go_wp2_with fail
 clear zc
 refine eH kC ah (bW P Q G true q8 hQ _) fun w1 ax zc => ?_
 go_wp2_with fail
 clear zc
 refine eH kC ax (o8 P Q G need kn true HN _) fun w2 aK zc => ?_
 go_wp2_with fail
 clear zc
 refine eH kC aK (gu P Q G (some ⟨bC, oC, none⟩) cs cn cc true hall hcn Aw hp (by omega) hQ _ (qU.out _ aK)) fun w3 aN zc => ?_
 go_wp2_with fail
 clear zc
 refine eH kC aN (gu P Q G (some ⟨bK, oK, none⟩) ks kn kc true MW hkn (by omega) hp (by omega) hQ _ (xq.out _ aN)) fun w4 dQ zc => ?_
 obtain ⟨b9, o9, M_, hi9⟩ := (qU.out _ dQ).out 0 (by rw [hcn.out]; exact hpos)
 cases M_
 rw [uI.out, Nat.add_zero] at hi9
 go_wp2
 clear zc
 clear hi9
 go_loopw [5] (fun i wr => ∃ j : Nat, j ≤ kn ∧ i = .int .i64 ((j : Int) + 1) ∧ Hid (Fh P Q cs j (ks.drop j) = r) ∧ Hid (Below w0.heap.size w0 wr)) (fun i _ => kn + 1 - (intOf i).toNat)
 case atStart => exact ⟨0, by omega, rfl, hr, dQ⟩
 case round =>
  obtain ⟨j, hj, rfl, Oe, yQ⟩ := hrel
  by_cases JY : j < kn
  ·
   have hjl : j < ks.length := by rw [hkn.out]; exact JY
   have hst := Eo (P := P) (Q := Q) (cs := cs) hjl
   obtain ⟨y, hy⟩ : ∃ x, ks.getD j 0 = x := ⟨_, rfl⟩
   obtain ⟨K, Uz⟩ : ∃ x, Gg P Q cs ((j : Int) + 1) cs.length = x := ⟨_, rfl⟩
   rw [hy, Uz] at hst
   have VV := aa Uz
   have HY := aa hy
   have HST := aa hst
   have dle : decide ((j : Int) + 1 ≤ (kn : Int)) = true := by simp; omega
   have i1 : (j : Int) + 1 < Q := by omega
   clear hy Uz hst
   have zc := kC.out _ yQ
   go_wp2
   clear zc
   go_loopw [6, 7, 8] (fun a e i wz => ∃ k : Nat, k ≤ cn ∧ i = .int .i64 k ∧ a = .int .i64 (Gg P Q cs ((j : Int) + 1) k) ∧ e = .int .i64 (Fp Q ((j : Int) + 1) k) ∧ Hid (Below w0.heap.size w0 wz)) (fun _ _ i _ => cn - (intOf i).toNat)
   case atStart => exact ⟨0, by omega, rfl, rfl, rfl, yQ⟩
   case round =>
    obtain ⟨k, hk, rfl, rfl, rfl, aF⟩ := hrel
    have hkm := yI (i := (j : Int) + 1) hp2 (by omega) hall.out k (by rw [hcn.out]; exact hk)
    obtain ⟨e0, e1⟩ := zL (i := (j : Int) + 1) (show 2 ≤ Q by omega) k
    by_cases hlt : k < cn
    ·
     have hkl : k < cs.length := by rw [hcn.out]; exact hlt
     obtain ⟨b, o, hA, hi⟩ := (qU.out _ aF).out k hkl
     cases hA
     have hcm := kU hall.out hkl
     have sk : Gg P Q cs ((j : Int) + 1) (k + 1) = Gg P Q cs ((j : Int) + 1) k * pw (cs.getD k 0) (Fp Q ((j : Int) + 1) k % Q) P % P := rfl
     have se : Fp Q ((j : Int) + 1) (k + 1) = Fp Q ((j : Int) + 1) k * ((j : Int) + 1) % Q := rfl
     obtain ⟨x, hx⟩ : ∃ x, cs.getD k 0 = x := ⟨_, rfl⟩
     obtain ⟨a, ha⟩ : ∃ x, Gg P Q cs ((j : Int) + 1) k = x := ⟨_, rfl⟩
     obtain ⟨e, he⟩ : ∃ x, Fp Q ((j : Int) + 1) k = x := ⟨_, rfl⟩
     obtain ⟨v, Gh⟩ : ∃ x', pw x (e % Q) P = x' := ⟨_, rfl⟩
     obtain ⟨u, hu⟩ : ∃ x', a * v % P = x' := ⟨_, rfl⟩
     obtain ⟨f, hf⟩ : ∃ x', e * ((j : Int) + 1) % Q = x' := ⟨_, rfl⟩
     rw [hx] at hi hcm sk
     rw [ha] at hkm sk ⊢
     rw [he] at e0 e1 sk se ⊢
     rw [Gh, hu] at sk
     rw [hf] at se
     have x0 := iY hcm
     have x1 := iZ hcm
     have a0 := iY hkm
     have a1 := iZ hkm
     obtain ⟨v0, v1⟩ : 0 ≤ v ∧ v < P := by rw [← Gh]; exact zl _ _ _ (by omega)
     have U5 := aa Gh
     have HU := aa hu
     have HF := aa hf
     have SK := aa sk
     have SE := aa se
     have kI := mkc (p := ⟨bC, oC + k, none⟩) (v := .int .i64 x) hi
     clear hx ha he Gh hu hf sk se hcm hkm hkl hi
     have lC := bP wr
     have zc := kC.out _ aF
     have Jg := kI.out _ lC
     go_wp2_with fail
     clear zc Jg
     have hS5 := aa (show ∀ u1 u2 : World, (Hid (Below w0.heap.size w0 u1) ∧ Hid (Below wr.heap.size wr u1)) → Below u1.heap.size u1 u2 → ((u2.cell? ⟨w.heap.size, 0, none⟩ = some (.int .i64 P) ∧ u2.cell? ⟨w.heap.size, 1, none⟩ = some (.int .i64 Q) ∧ u2.cell? ⟨w.heap.size, 2, none⟩ = some (.int .i64 G) ∧ u2.cell? ⟨w.heap.size + 1, 0, none⟩ = some (.int .i64 need) ∧ u2.cell? ⟨w.heap.size + 1, 1, none⟩ = some (.slice (some ⟨bC, oC, none⟩) cn cc) ∧ u2.cell? ⟨w.heap.size + 1, 2, none⟩ = some (.slice (some ⟨bK, oK, none⟩) kn kc)) ∧ (u2.cell? ⟨bC, oC + k, none⟩ = some (.int .i64 x)) ∧ Hid (Below w0.heap.size w0 u2) ∧ Hid (Below wr.heap.size wr u2)) from fun u1 u2 h1 h2 => by
      obtain ⟨q0, q1⟩ := h1
      have r0 := bF q0 h2
      have r1 := bF q1 h2
      exact ⟨kC.out _ r0, kI.out _ r1, r0, r1⟩)
     have uH := aa (show Hid (Below w0.heap.size w0 wr) ∧ Hid (Below wr.heap.size wr wr) from ⟨aF, lC⟩)
     go_region_held3 (fun w' => (w'.cell? ⟨w.heap.size, 0, none⟩ = some (.int .i64 P) ∧ w'.cell? ⟨w.heap.size, 1, none⟩ = some (.int .i64 Q) ∧ w'.cell? ⟨w.heap.size, 2, none⟩ = some (.int .i64 G) ∧ w'.cell? ⟨w.heap.size + 1, 0, none⟩ = some (.int .i64 need) ∧ w'.cell? ⟨w.heap.size + 1, 1, none⟩ = some (.slice (some ⟨bC, oC, none⟩) cn cc) ∧ w'.cell? ⟨w.heap.size + 1, 2, none⟩ = some (.slice (some ⟨bK, oK, none⟩) kn kc)) ∧ (w'.cell? ⟨bC, oC + k, none⟩ = some (.int .i64 x)) ∧ Hid (Below w0.heap.size w0 w') ∧ Hid (Below wr.heap.size wr w'))
      (first | exact hS5.out _ _ uH.out ((Below.refl _ _).drew) | (exact hS5.out _ _ (by go_split_ands; exact ⟨(by assumption), (by assumption)⟩) bS) | go_keep)
      ((first
       | (go_at_call 44; (with_reducible refine (FU P Q G x e v U5 (by omega) hp (by omega) (by omega) (by omega) x1 (by omega) (by omega) _).mono ?_); rintro e wA ⟨rfl, bS⟩)
       | (go_at_call 43; (with_reducible refine (JB P Q G a v u HU hp (by omega) a1 v0 v1 _).mono ?_); rintro e wA ⟨rfl, bS⟩)))
     rename_i hHeld
     obtain ⟨-, -, R4, YP⟩ := hHeld
     clear hS5 uH
     have zc := kC.out _ R4
     have Jg := kI.out _ YP
     go_wp2_with fail
     refine (jk e ((j : Int) + 1) Q f HF (by omega) e0 e1 (by omega) i1 _).mono ?_
     rintro e9 w9 ⟨rfl, vI⟩
     subst vI
     go_wp2
     go_roundw
     case rel => exact ⟨k + 1, by omega, by go_num, by rw [SK.out], by rw [SE.out], R4⟩
     case measure => simp [intOf]; omega
    ·
     obtain rfl : k = cn := by omega
     have hkv := VV.out
     rw [hcn.out] at hkv
     rw [hkv]
     clear hkv hkm e0 e1
     obtain ⟨b, o, hA, hi⟩ := (xq.out _ aF).out j hjl
     cases hA
     rw [HY.out] at hi
     obtain ⟨dj, dj1, dj2, dj3, dj4⟩ := vO JY n2
     cases hyk : (y == K) with
     | true =>
      have HRn : Hid (Fh P Q cs (j + 1) (ks.drop (j + 1)) = r) := aa (by rw [← Oe.out, HST.out, hyk]; rfl)
      have dne : (K != y) = false := by rw [xR]; simpa using hyk
      clear hyk
      have zc := kC.out _ aF
      go_wp2
      go_roundw
      case rel => exact ⟨j + 1, JY, by rw [G6], HRn, aF⟩
      case measure => simp only [intOf]; exact TG JY
     | false =>
      obtain rfl : r = false := by rw [← Oe.out, HST.out, hyk]; rfl
      have dne : (K != y) = true := by rw [xR]; simpa using hyk
      clear hyk
      have zc := kC.out _ aF
      go_wp2
      go_ret
      exact ⟨rfl, gy aj aF⟩
  ·
   obtain rfl : j = kn := by omega
   obtain rfl : r = true := by rw [← Oe.out, ← hkn.out, List.drop_length]; rfl
   have dle : decide ((j : Int) + 1 ≤ (j : Int)) = false := by simp; omega
   clear Oe
   have zc := kC.out _ yQ
   go_wp2
   go_ret
   exact ⟨rfl, gy aj yQ⟩
theorem ji (P Q G need : Int) (Cs : Option Addr) (cs : List Int) (cn cc : Nat) (Ks : Option Addr) (ks : List Int) (kn kc : Nat) (hcn : Hid (cs.length = cn)) (hkn : Hid (ks.length = kn)) (r : Bool) (hr : Hid (tL P Q G need cs ks = r)) (hQ : Q < 9223372036854775808) (w : World) (hC : Hid (Sl w Cs cs)) (hK : Hid (Sl w Ks ks)) :
  Calls Tryz.prog 12 #[gv P Q G, kN need Cs cn cc Ks kn kc] w (Rt w (.bool r)) := by
 have hr1 := hr.out
 unfold tL at hr1
 rw [hkn.out, hcn.out] at hr1
 cases h1 : bg P Q G with
 | false =>
  obtain rfl : r = false := by rw [← hr1, h1]; rfl
  exact Tf P Q G need Cs cn cc Ks kn kc (aa h1) hQ w
 | true =>
  cases h2 : qj Q need kn with
  | false =>
   obtain rfl : r = false := by rw [← hr1, h1, h2]; rfl
   exact Te P Q G need Cs cn cc Ks kn kc (aa h1) (aa h2) hQ w
  | true =>
   by_cases h3 : (cn : Int) = need
   ·
    obtain ⟨n1, n2, n3, n4, n5⟩ := iP h2
    obtain ⟨p1, p2, p3, p4⟩ := b_ h1
    have hpos : 0 < cn := by omega
    obtain ⟨bC, oC, rfl⟩ := sF hC.out (by rw [hcn.out]; exact hpos)
    obtain ⟨bK, oK, rfl⟩ := sF hK.out (by rw [hkn.out]; exact n1)
    cases h4 : cs.all (aW P Q) with
    | false =>
     obtain rfl : r = false := by rw [← hr1, h1, h2, decide_eq_true h3, h4]; simp
     exact Tc P Q G need bC oC cs cn cc bK oK ks kn kc hcn hkn (aa h1) (aa h2) (aa h3) hpos (aa h4) hQ w hC hK
    | true =>
     cases h5 : ks.all (aW P Q) with
     | false =>
      have h6 : Fh P Q cs 0 ks = false := by
       cases h7 : Fh P Q cs 0 ks with
       | false => rfl
       | true => rw [IB p1 (by omega) h4 ks 0 h7] at h5; cases h5
      obtain rfl : r = false := by rw [← hr1, h1, h2, decide_eq_true h3, h4, h6]; simp
      exact Ta P Q G need bC oC cs cn cc bK oK ks kn kc hcn hkn (aa h1) (aa h2) (aa h3) hpos (aa h4) (aa h5) hQ w hC hK
     | true =>
      cases h6 : (cs.getD 0 0 == 1) with
      | true =>
       obtain rfl : r = false := by rw [← hr1, h1, h2, decide_eq_true h3, h6]; rfl
       exact S_ P Q G need bC oC cs cn cc bK oK ks kn kc hcn hkn (aa h1) (aa h2) (aa h3) hpos (aa h4) (aa h5) _ (aa rfl) h6 hQ w hC hK
      | false => exact S9 P Q G need bC oC cs cn cc bK oK ks kn kc hcn hkn (aa h1) (aa h2) (aa h3) hpos (aa h4) (aa h5) _ (aa rfl) h6 r (aa (by rw [← hr1, h1, h2, decide_eq_true h3, h4, h6, List.drop_zero]; rfl)) hQ w hC hK
   ·
    obtain rfl : r = false := by rw [← hr1, h1, h2, decide_eq_false h3]; rfl
    exact Td P Q G need Cs cn cc Ks kn kc (aa h1) (aa h2) h3 hQ w
end Go.Proofs.YtchcllcbknfikaaGreatDoor
namespace Go.Proofs.YtchcllcbknfikaaGreatDoor
open Go.RowKit si Go.Maps
def uB (n : Nat) (i : Int) : Bool := decide (1 ≤ i) && decide (i ≤ n)
theorem zA {n : Nat} {i : Int} (h : uB n i = true) : ∃ m : Nat, m < n ∧ i = (m : Int) + 1 := by
 unfold uB at h
 simp only [Bool.and_eq_true, decide_eq_true_eq] at h
 exact ⟨(i - 1).toNat, by omega, by omega⟩
theorem zz (need : Int) (Cs : Option Addr) (cn cc : Nat) (Ks : Option Addr) (kn kc : Nat) (i : Int) (r : Bool) (hr : Hid (uB kn i = r)) (w : World) :
  Calls Tryz.prog 37 #[kN need Cs cn cc Ks kn kc, .int .i64 i] w (Rt w (.bool r)) := by
 have HX := af w (wJ need Cs cn cc Ks kn kc)
 have hc : (w.alloc (wJ need Cs cn cc Ks kn kc)).cell? ⟨w.heap.size, 0, none⟩ = some (.int .i64 need) ∧ (w.alloc (wJ need Cs cn cc Ks kn kc)).cell? ⟨w.heap.size, 1, none⟩ = some (.slice Cs cn cc) ∧ (w.alloc (wJ need Cs cn cc Ks kn kc)).cell? ⟨w.heap.size, 2, none⟩ = some (.slice Ks kn kc) := ⟨au (heap_alloc_new _ _) 0, au (heap_alloc_new _ _) 1, au (heap_alloc_new _ _) 2⟩
 obtain ⟨c0, c1, c2⟩ := hc
 have hr1 := hr.out
 unfold uB at hr1
 by_cases h0 : (1 : Int) ≤ i
 ·
  have d0 : decide ((1 : Int) ≤ i) = true := by simp; omega
  by_cases h1 : i ≤ (kn : Int)
  ·
   have d1 : decide (i ≤ (kn : Int)) = true := by simp; omega
   obtain rfl : r = true := by rw [← hr1]; simp; omega
   go_in
   go_wp2
   go_ret
   exact ⟨rfl, HX⟩
  ·
   have d1 : decide (i ≤ (kn : Int)) = false := by simp; omega
   obtain rfl : r = false := by rw [← hr1]; simp; omega
   go_in
   go_wp2
   go_ret
   exact ⟨rfl, HX⟩
 ·
  have d0 : decide ((1 : Int) ≤ i) = false := by simp; omega
  obtain rfl : r = false := by rw [← hr1]; simp; omega
  go_in
  go_wp2
  go_ret
  exact ⟨rfl, HX⟩
theorem rQ (need : Int) (Cs : Option Addr) (cn cc : Nat) (Ks : Option Addr) (kn kc : Nat) (i : Int) (r : Bool) (hr : Hid (uB kn i = r)) (w : World) :
  Calls Tryz.prog 50 #[kN need Cs cn cc Ks kn kc, .int .i64 i] w (Rt w (.bool r)) := by
 have HX := af w (wJ need Cs cn cc Ks kn kc)
 have hc : (w.alloc (wJ need Cs cn cc Ks kn kc)).cell? ⟨w.heap.size, 0, none⟩ = some (.int .i64 need) ∧ (w.alloc (wJ need Cs cn cc Ks kn kc)).cell? ⟨w.heap.size, 1, none⟩ = some (.slice Cs cn cc) ∧ (w.alloc (wJ need Cs cn cc Ks kn kc)).cell? ⟨w.heap.size, 2, none⟩ = some (.slice Ks kn kc) := ⟨au (heap_alloc_new _ _) 0, au (heap_alloc_new _ _) 1, au (heap_alloc_new _ _) 2⟩
 obtain ⟨c0, c1, c2⟩ := hc
 have hr1 := hr.out
 unfold uB at hr1
 by_cases h0 : (1 : Int) ≤ i
 ·
  have d0 : decide ((1 : Int) ≤ i) = true := by simp; omega
  by_cases h1 : i ≤ (kn : Int)
  ·
   have d1 : decide (i ≤ (kn : Int)) = true := by simp; omega
   obtain rfl : r = true := by rw [← hr1]; simp; omega
   go_in
   go_wp2
   go_ret
   exact ⟨rfl, HX⟩
  ·
   have d1 : decide (i ≤ (kn : Int)) = false := by simp; omega
   obtain rfl : r = false := by rw [← hr1]; simp; omega
   go_in
   go_wp2
   go_ret
   exact ⟨rfl, HX⟩
 ·
  have d0 : decide ((1 : Int) ≤ i) = false := by simp; omega
  obtain rfl : r = false := by rw [← hr1]; simp; omega
  go_in
  go_wp2
  go_ret
  exact ⟨rfl, HX⟩
end Go.Proofs.YtchcllcbknfikaaGreatDoor
namespace Go.Proofs.YtchcllcbknfikaaGreatDoor
open Go.RowKit si
def pz (N : Nat) (l : List Int) : List Int := l ++ dz (N - l.length)
theorem FZ {N : Nat} {l : List Int} (h : l.length ≤ N) : (pz N l).length = N := by simp [pz, dz]; omega
theorem Tw {N : Nat} {l : List Int} {x : Int} (h : l.length < N) : (pz N l).set l.length x = pz N (l ++ [x]) := by
 obtain ⟨m, hm⟩ : ∃ m, N - l.length = m + 1 := ⟨N - l.length - 1, by omega⟩
 have hm2 : N - (l ++ [x]).length = m := by rw [List.length_append, List.length_singleton]; omega
 rw [pz, pz, hm, hm2, dz, List.replicate_succ, List.set_append_right _ _ (Nat.le_refl _), Nat.sub_self, List.set_cons_zero]
 simp [dz]
theorem B_ {N : Nat} {l : List Int} (h : l.length = N) : pz N l = l := by simp [pz, dz, h]
theorem BZ {N k : Nat} {l : List Int} (h : k < l.length) (h2 : k < N) : (pz N (l.take k)).set k (l.getD k 0) = pz N (l.take (k + 1)) := by
 have e := Tw (N := N) (l := l.take k) (x := l.getD k 0) (by rw [List.length_take]; omega)
 rw [List.length_take, Nat.min_eq_left (by omega)] at e
 rw [e, take_one h]
theorem V6 : (#[.int .u8 0, .int .u8 0, .int .u8 0, .int .u8 0, .int .u8 0, .int .u8 0, .int .u8 0, .int .u8 0] : Array Value) = arr .u8 (dz 8) := rfl
theorem I5 (n : Int) : ∀ k : Nat, k < 8 → (qY n).getD k 0 = n / 2 ^ (56 - 8 * k) % 256
 | 0, _ => rfl
 | 1, _ => rfl
 | 2, _ => rfl
 | 3, _ => rfl
 | 4, _ => rfl
 | 5, _ => rfl
 | 6, _ => rfl
 | 7, _ => by simp [qY]
 | k + 8, h => absurd h (by omega)
theorem J_ (n : Int) (w : World) :
  Calls Tryz.prog 220 #[.int .u64 n] w fun e w' => e = .returned (.slice (some ⟨w.heap.size, 0, none⟩) 8 8) ∧ bH .u8 5 w' w.heap.size (qY n) ∧ Below w.heap.size w w' := by
 obtain ⟨W, hW⟩ : ∃ W, w.alloc (.cells #[.int .u8 0, .int .u8 0, .int .u8 0, .int .u8 0, .int .u8 0, .int .u8 0, .int .u8 0, .int .u8 0] 5) = W := ⟨_, rfl⟩
 have bT : Hid (Below w.heap.size w W) := aa (by rw [← hW]; exact af _ _)
 have HB0 : Hid (bH .u8 5 W w.heap.size (pz 8 ((qY n).take 0))) := aa (by
  rw [← hW, V6]
  exact bH.new _ _)
 have hmk : ∀ w, (Instr.makeSlice 114 (.int .i64 8) (.int .i64 8)).run Tryz.prog w = .ok (.slice (some ⟨w.heap.size, 0, none⟩) 8 8) (w.alloc (.cells #[.int .u8 0, .int .u8 0, .int .u8 0, .int .u8 0, .int .u8 0, .int .u8 0, .int .u8 0, .int .u8 0] 5)) := fun _ => by kernel_rfl
 have HW := aa hW
 clear hW
 go_in
 go_wp2
 rw [HW.out]
 clear HW hmk
 go_loopw [8] (fun i u => ∃ k : Nat, k ≤ 8 ∧ i = .int .i64 k ∧ Hid (bH .u8 5 u w.heap.size (pz 8 ((qY n).take k))) ∧ Hid (Below w.heap.size w u)) (fun i _ => 8 - (intOf i).toNat)
 case atStart => exact ⟨0, by omega, rfl, HB0, bT⟩
 case round =>
  obtain ⟨k, hk, rfl, HB, aF⟩ := hrel
  by_cases hlt : k < 8
  ·
   have hc := HB.out.cell (j := k) (by rw [FZ (by rw [List.length_take, fV]; omega)]; exact hlt)
   have hf := HB.out.free k
   have hst := BZ (N := 8) (k := k) (l := qY n) hlt hlt
   rw [I5 n k hlt] at hst
   obtain ⟨q, hq⟩ : ∃ q, n / 2 ^ (56 - 8 * k) = q := ⟨_, rfl⟩
   rw [hq] at hst
   have j0 : (0 : Int) ≤ 56 - 8 * k := by omega
   have j1 : (56 - 8 * (k : Int)).toNat = 56 - 8 * k := by omega
   have HB2 : Hid (bH .u8 5 (wr.setCell ⟨w.heap.size, k, none⟩ (.int .u8 (q % 256))) w.heap.size (pz 8 ((qY n).take (k + 1)))) := aa (by
    rw [← hst]
    exact HB.out.set)
   have Db : Hid (Below w.heap.size w (wr.setCell ⟨w.heap.size, k, none⟩ (.int .u8 (q % 256)))) := aa (aF.out.setCell (Nat.le_refl _) _)
   clear hst HB aF
   go_wp2
   try go_region
   try (rw [hq])
   go_wp2
   go_roundw
   case rel => exact ⟨k + 1, by omega, by go_num, HB2, Db⟩
   case measure => simp [intOf]; omega
  ·
   have Kv : Hid (bH .u8 5 wr w.heap.size (qY n)) := aa (by
    have h := HB.out
    rwa [show k = (qY n).length by rw [fV]; omega, List.take_length, B_ (fV n)] at h)
   clear HB
   go_wp2
   go_ret
   exact ⟨rfl, Kv.out, aF.out⟩
theorem CX (b o i : Nat) : (⟨b, o, none⟩ : Addr).add i = ⟨b, o + i, none⟩ := by unfold Addr.add; split <;> simp_all
theorem Sk.news {K : IntKind} {w : World} {b o : Nat} {l : List Int} (h : Sk K w (some ⟨b, o, none⟩) l) : ∀ j u, (l.map (Value.int K))[j]? = some u → w.cell? ((⟨b, o, none⟩ : Addr).add j) = some u := fun j u hj => by
 rw [List.getElem?_map] at hj
 by_cases hl : j < l.length
 ·
  rw [List.getElem?_eq_getElem hl] at hj
  rw [CX, h.cell hl, List.getD_eq_getElem?_getD, List.getElem?_eq_getElem hl]
  exact hj
 · rw [List.getElem?_eq_none (by omega)] at hj; cases hj
theorem Sk.at_add {K : IntKind} {w : World} {b o n : Nat} {l : List Int} (h : Sk K w (some ⟨b, o, none⟩) l) (hn : l.length = n) : ∀ i, i < n → w.cell? ((⟨b, o, none⟩ : Addr).add i) = some (.int K (l.getD i 0)) := fun i hi => by
 rw [CX]; exact h.cell (by omega)
theorem Sk.setRow_ne {K : IntKind} {w : World} {a : Nat} {A : Option Addr} {l : List Int} {cs : Array Value} (h : Sk K w A l) (hne : ∀ b o, A = some ⟨b, o, none⟩ → b ≠ a) : Sk K (w.setRow a cs) A l := fun j hj => by
 obtain ⟨b, o, e, hc⟩ := h j hj
 exact ⟨b, o, e, by rw [cell_setRow_other _ _ _ _ (hne b o e)]; exact hc⟩
theorem dS : (Tryz.prog.info? 5).map (fun i => (i.zero, i.size, i.bytes)) = some (some (.int .u8 0), 1, 1) := by kernel_rfl
theorem Rp : (Tryz.prog.info? 41).map (·.size) = some 32 := by kernel_rfl
theorem ay {l : List Int} (h : l.length = 32) : (Tryz.prog.info? 41).map (·.size) = some (arr .u8 l).size := Rp.trans (congrArg some (by rw [dL, h]))
theorem eB {l m : List Int} (h : l.length = 32) (h2 : m.length = 32) : (arr .u8 l).size = (arr .u8 m).size := by rw [dL, dL, h, h2]
theorem jd : (z32 : Array Value) = arr .u8 (dz 32) := rfl
theorem Ip (s : St) : ∀ k : Nat, k < 8 → ∀ m : Nat, m < 4 → (nI s).getD (4 * k + m) 0 = s.list.getD k 0 / 2 ^ (24 - 8 * m) % 256 := by
 intro k hk m hm
 obtain ⟨a, b, c, d, e, f, g, h⟩ := s
 rcases (show k = 0 ∨ k = 1 ∨ k = 2 ∨ k = 3 ∨ k = 4 ∨ k = 5 ∨ k = 6 ∨ k = 7 by omega) with rfl | rfl | rfl | rfl | rfl | rfl | rfl | rfl <;>
 rcases (show m = 0 ∨ m = 1 ∨ m = 2 ∨ m = 3 by omega) with rfl | rfl | rfl | rfl <;>
 simp [nI, zw, St.list]
theorem nH (s : St) : (nI s).length = 32 := rfl
def lenOf : Value → Nat
 | .slice _ n _ => n
 | _ => 0
theorem D6 (m : Nat) : List.replicate (m + 1) (0 : Int) = List.replicate m 0 ++ [0] := List.replicate_succ' ..
theorem PO (xa xb xc xd xe xf xg xh : Int) (b o cap : Nat) (blk : List Int) (hlen : Hid (blk.length = 64)) (hby : Hid (aC blk = true)) (w : World) (hs : Hid (Sk .u8 w (some ⟨b, o, none⟩) blk)) (hcap : 64 ≤ cap) (hcm : cap ≤ 9223372036854775807) (hv : Hid (bz w)) :
  Calls Tryz.prog 221 #[.agg #[.int .u32 xa, .int .u32 xb, .int .u32 xc, .int .u32 xd, .int .u32 xe, .int .u32 xf, .int .u32 xg, .int .u32 xh], .slice (some ⟨b, o, none⟩) 64 cap] w (Rt w (.agg (arr .u32 (Eh ⟨xa, xb, xc, xd, xe, xf, xg, xh⟩ blk).list))) := by
 rw [QG]
 exact PR ⟨xa, xb, xc, xd, xe, xf, xg, xh⟩ b o cap blk hlen hby w hs hcap hcm hv
theorem Ig (b o c : Nat) (l : List Int) (n : Nat) (hn : Hid (l.length = n)) (hbig : n ≤ 1000000) (hby : Hid (aC l = true)) (w : World) (hs : Hid (Sk .u8 w (some ⟨b, o, none⟩) l)) (hv : Hid (bz w)) :
  Calls Tryz.prog 198 #[.slice (some ⟨b, o, none⟩) n c] w (Rt w (.agg (arr .u8 (qb l)))) := by
 obtain ⟨i0, hi, hz0, hz1, hz2⟩ := info_parts dS
 obtain ⟨W, hW⟩ : ∃ W, w.alloc (.cells z32 41) = W := ⟨_, rfl⟩
 have bT : Hid (Below w.heap.size w W) := aa (by rw [← hW]; exact af _ _)
 have eG : Hid (bH .u8 41 W w.heap.size (dz 32)) := aa (by
  rw [← hW, jd]
  exact bH.new _ _)
 have lu : Hid (W.heap.size = w.heap.size + 1) := aa (by rw [← hW]; simp)
 have HS := aa (hs.out.below bT.out)
 have HV := aa (hv.out.below bT.out)
 have HW := aa hW
 clear hW hs hv
 go_in
 go_wp2_with fail
 rw [HW.out]
 refine (Tryz.bytes_Clone_at ⟨b, o, none⟩ n c l _ hn.out (by omega) (HS.out.at_add hn.out)).mono ?_
 rintro e w1 ⟨v1, rfl, ho1, hne1, hb1⟩
 have Fu : Hid (aR .u8 5 w1 W.heap.size v1 l) := aa (by unfold aR; rw [hn.out]; exact ho1)
 have HB1 := hb1
 have Kt := aa hb1
 have hbs := hb1.size
 clear HW hne1 HB1 hb1
 have hown := Fu.out.row hn.out
 clear ho1
 go_wp2_with (at_builtin; refine wpList_append_own _ rfl _ _ 114 rfl W.heap.size 5 i0 (.int .u8 0) 1 1 Tryz.underlying114 hi hz0 hz1 hz2 rfl (by decide) _ _ _ rfl (hown.alloc _) ⟨w1.heap.size, 0, none⟩ 1 1 [.int .u8 128] rfl rfl (cell_one_new _ _ _) (ints_oneCell .u8 [128]) (by unfold maxLen; omega) (by omega) (by simp; omega) ?_; intro v2 w2 hown2 hgrow2 _)
 have uj : Hid (aR .u8 5 w2 W.heap.size v2 (l ++ [128])) := aa (aR.app hn.out.symm rfl hown2)
 have VE : Hid (Below W.heap.size W w2) := aa (Fu.out.below Kt.out hbs hgrow2)
 clear hown hown2 hgrow2 Fu hbs Kt
 obtain ⟨A2, c2, e2, _⟩ := uj.out.sk
 rw [List.length_append, hn.out, List.length_singleton] at e2
 subst e2
 go_loopw [3] (fun p u => ∃ (N : Nat) (A : Option Addr) (cap : Nat), n + 1 ≤ N ∧ N ≤ n + 1 + l9 n ∧ p = .slice A N cap ∧ Hid (aR .u8 5 u W.heap.size p (l ++ [128] ++ List.replicate (N - n - 1) 0)) ∧ Hid (Below W.heap.size W u)) (fun p _ => n + 65 - lenOf p)
 case atStart => exact ⟨n + 1, A2, c2, Nat.le_refl _, by omega, rfl, aa (by rw [show n + 1 - n - 1 = 0 by omega]; simpa using uj.out), VE⟩
 case round =>
  obtain ⟨N, A, cap, hN0, hN1, rfl, HO, aF⟩ := hrel
  have hpz : l9 n < 64 := by unfold l9; omega
  have hll : (l ++ [128] ++ List.replicate (N - n - 1) 0).length = N := by simp [hn.out]; omega
  by_cases hend : N % 64 = 56
  ·
   have HN : Hid (N = n + 1 + l9 n) := aa (by unfold l9 at hN1 hpz ⊢; omega)
   have t1 : ((N : Int) % 64 == 56) = true := by simp; omega
   have t2 : ((N : Int) % 64 != 56) = false := by simp; omega
   clear hend
   go_wp2_with fail
   refine (J_ _ _).mono ?_
   rintro e w3 ⟨rfl, hbl, hb3⟩
   have pR := aa (HO.out.keep hb3)
   have qI := aa (aF.out.trans (hb3.mono aF.out.size))
   have Kw := aa hbl
   have hbs := qI.out.size
   have hown := pR.out.row hll
   have QY := aa hll
   clear hbl hb3 HO aF hll
   go_upto_region 5 with (at_builtin; refine wpList_append_own _ rfl _ _ 114 rfl W.heap.size 5 i0 (.int .u8 0) 1 1 Tryz.underlying114 hi hz0 hz1 hz2 rfl (by decide) _ _ _ rfl hown ⟨wr.heap.size, 0, none⟩ 8 8 ((qY (8 * (n : Int))).map (.int .u8)) rfl rfl (Kw.out.sk.news) (ints_oneCell .u8 (qY (8 * (n : Int)))) (by unfold maxLen l9 at *; omega) (by unfold l9 at *; omega) (by omega) ?_; intro v4 w4 hown2 hgrow2 _)
   have yO : Hid (aR .u8 5 w4 W.heap.size v4 (nS l)) := aa (by
    have h := aR.app (ys := qY (8 * (n : Int))) QY.out.symm rfl hown2
    have e : l ++ [128] ++ List.replicate (N - n - 1) 0 ++ qY (8 * (n : Int)) = nS l := by
     rw [nS, hn.out, show N - n - 1 = l9 n by have := HN.out; omega]
    rwa [e] at h)
   have H6 : Hid (Below W.heap.size W w4) := aa (pR.out.below0 qI.out hbs hgrow2)
   clear hown hown2 hgrow2 pR Kw qI hbs
   obtain ⟨M, hM⟩ : ∃ M, (nS l).length = 64 * M := ⟨(nS l).length / 64, by have := Eb l; omega⟩
   have hM1 : 1 ≤ M := by rw [rH] at hM; omega
   have hM2 : 64 * M ≤ n + 200 := by rw [rH, hn.out, l9] at hM; omega
   obtain ⟨g4, cap4, e4, hg4, hcap, Ez, rT⟩ := yO.out.cells (by omega)
   rw [hM] at e4 hcap
   obtain ⟨P, hP⟩ : ∃ P, nS l = P := ⟨_, rfl⟩
   have Xv : aC P = true := by rw [← hP]; exact zq hby.out
   rw [hP] at rT hM yO
   have HP : Kp (nS l = P) := ⟨hP⟩
   have HM := aa hM
   have HPB := aa Xv
   have ZN := aa rT
   have hcm : cap4 ≤ 9223372036854775807 := by simpa [maxLen] using Ez
   have ae7 : g4 < w4.heap.size := rT.lt (by omega)
   subst e4
   clear hP hM Xv rT Ez yO QY t1 t2
   have uG := aa (HV.out.below H6.out)
   obtain ⟨s0, s1, s2, s3, s4, s5, s6, s7⟩ : w4.cell? ⟨4, 0, none⟩ = some (.int .u32 1779033703) ∧ w4.cell? ⟨4, 1, none⟩ = some (.int .u32 3144134277) ∧ w4.cell? ⟨4, 2, none⟩ = some (.int .u32 1013904242) ∧ w4.cell? ⟨4, 3, none⟩ = some (.int .u32 2773480762) ∧ w4.cell? ⟨4, 4, none⟩ = some (.int .u32 1359893119) ∧ w4.cell? ⟨4, 5, none⟩ = some (.int .u32 2600822924) ∧ w4.cell? ⟨4, 6, none⟩ = some (.int .u32 528734635) ∧ w4.cell? ⟨4, 7, none⟩ = some (.int .u32 1541459225) :=
    ⟨uG.out.2 0 (by decide), uG.out.2 1 (by decide), uG.out.2 2 (by decide), uG.out.2 3 (by decide), uG.out.2 4 (by decide), uG.out.2 5 (by decide), uG.out.2 6 (by decide), uG.out.2 7 (by decide)⟩
   go_wp2_with ((with_reducible show wpList _ _ _ (⟨none, _, _, _, _, _⟩ :: _) _ _); refine wpList_store_row rfl 229 _ _ rfl w4.heap.size (arr .u32 st0.list) rfl rfl _ _ (heap_alloc_new _ _) (kr st0) rfl (dh _) ?_)
   clear s0 s1 s2 s3 s4 s5 s6 s7
   rw [World.setRow_alloc_new]
   simp only [Act.put]
   have Zc : Hid (Below W.heap.size W (w4.alloc (.cells (arr .u32 st0.list) 229))) := aa (H6.out.alloc H6.out.size _)
   have YB : Hid (bH .u32 229 (w4.alloc (.cells (arr .u32 st0.list) 229)) w4.heap.size (lH P 0).list) := aa (bH.new _ _)
   have YE : Hid (Sk .u8 (w4.alloc (.cells (arr .u32 st0.list) 229)) (some ⟨g4, 0, none⟩) (P.drop (64 * 0))) := aa (by
    rw [Nat.mul_zero, List.drop_zero]
    exact ZN.out.below (af _ _))
   have aaS := H6.out.size
   obtain ⟨W5, M8⟩ : ∃ u, w4.alloc (.cells (arr .u32 st0.list) 229) = u := ⟨_, rfl⟩
   rw [M8] at Zc YB YE ⊢
   clear M8 ZN H6 uG
   go_loopw [3] (fun p u => ∃ (k R off cp : Nat), k ≤ M ∧ Hid (64 * k + R = 64 * M) ∧ p = .slice (some ⟨g4, off, none⟩) R cp ∧ R ≤ cp ∧ cp ≤ 9223372036854775807 ∧ Hid (Sk .u8 u (some ⟨g4, off, none⟩) (P.drop (64 * k))) ∧ Hid (bH .u32 229 u w4.heap.size (lH P k).list) ∧ Hid (Below W.heap.size W u)) (fun p _ => lenOf p)
   case atStart => exact ⟨0, 64 * M, 0, cap4, by omega, aa (by omega), rfl, hcap, hcm, YE, YB, Zc⟩
   case round =>
    obtain ⟨k, R, off, cp, hk, HR, rfl, hRc, hcp, ZL, I8, aF⟩ := hrel
    by_cases hR0 : 0 < R
    ·
     have aff : 64 ≤ R := by have := HR.out; omega
     have ae_ : (64 : Int) ≤ (cp : Int) := by omega
     have hkM : k < M := by have := HR.out; omega
     have Rb : Hid ((fU P k).length = 64) := aa (xS (by have := HM.out; omega))
     have Fx : Hid (aC (fU P k) = true) := aa (t_ HPB.out k)
     obtain ⟨⟨xa, xb, xc, xd, xe, xf, xg, xh⟩, hS⟩ : ∃ T, lH P k = T := ⟨_, rfl⟩
     rw [hS] at I8
     have Du : Kp (lH P k = ⟨xa, xb, xc, xd, xe, xf, xg, xh⟩) := ⟨hS⟩
     clear hS
     have Yt : Hid (Sk .u8 wr (some ⟨g4, off, none⟩) (fU P k)) := aa (ZL.out.take)
     have HVr := aa (HV.out.below aF.out)
     have HCS : Hid (wr.cell? ⟨w4.heap.size, 0, none⟩ = some (.int .u32 xa) ∧ wr.cell? ⟨w4.heap.size, 1, none⟩ = some (.int .u32 xb) ∧ wr.cell? ⟨w4.heap.size, 2, none⟩ = some (.int .u32 xc) ∧ wr.cell? ⟨w4.heap.size, 3, none⟩ = some (.int .u32 xd) ∧ wr.cell? ⟨w4.heap.size, 4, none⟩ = some (.int .u32 xe) ∧ wr.cell? ⟨w4.heap.size, 5, none⟩ = some (.int .u32 xf) ∧ wr.cell? ⟨w4.heap.size, 6, none⟩ = some (.int .u32 xg) ∧ wr.cell? ⟨w4.heap.size, 7, none⟩ = some (.int .u32 xh)) := aa ⟨I8.out.cell (j := 0) (show 0 < 8 by decide), I8.out.cell (j := 1) (show 1 < 8 by decide), I8.out.cell (j := 2) (show 2 < 8 by decide), I8.out.cell (j := 3) (show 3 < 8 by decide), I8.out.cell (j := 4) (show 4 < 8 by decide), I8.out.cell (j := 5) (show 5 < 8 by decide), I8.out.cell (j := 6) (show 6 < 8 by decide), I8.out.cell (j := 7) (show 7 < 8 by decide)⟩
     obtain ⟨T, hT⟩ : ∃ T, Eh ⟨xa, xb, xc, xd, xe, xf, xg, xh⟩ (fU P k) = T := ⟨_, rfl⟩
     have HT : Kp (Eh ⟨xa, xb, xc, xd, xe, xf, xg, xh⟩ (fU P k) = T) := ⟨hT⟩
     have HTN : Kp (lH P (k + 1) = T) := ⟨by rw [lH, Du.out, hT]⟩
     clear hT
     go_wp2_with fail
     refine bJ (S := fun w' => w'.cell? ⟨w4.heap.size, 0, none⟩ = some (.int .u32 xa) ∧ w'.cell? ⟨w4.heap.size, 1, none⟩ = some (.int .u32 xb) ∧ w'.cell? ⟨w4.heap.size, 2, none⟩ = some (.int .u32 xc) ∧ w'.cell? ⟨w4.heap.size, 3, none⟩ = some (.int .u32 xd) ∧ w'.cell? ⟨w4.heap.size, 4, none⟩ = some (.int .u32 xe) ∧ w'.cell? ⟨w4.heap.size, 5, none⟩ = some (.int .u32 xf) ∧ w'.cell? ⟨w4.heap.size, 6, none⟩ = some (.int .u32 xg) ∧ w'.cell? ⟨w4.heap.size, 7, none⟩ = some (.int .u32 xh)) (E := [3, 4]) (by kernel_rfl) (by simpa using HCS.out) (fun hHeld => ?_)
     refine bQ 0 ?_
     refine bQ 1 ?_
     refine bQ 2 ?_
     refine mR 3 fun K hK => ?_
     go_simp
     refine (PO xa xb xc xd xe xf xg xh g4 off cp (fU P k) Rb Fx _ (aa (Yt.out.below (Below.refl _ _).drew)) (by omega) hcp (aa (HVr.out.below (Below.refl _ _).drew))).mono ?_
     rintro e w6 ⟨rfl, hb6⟩
     rw [HT.out]
     refine hK.out _ _ ?_
     clear hK K
     try simp only [qq]
     refine mR 4 fun K hK => ?_
     refine wp_store_row 229 _ _ rfl w4.heap.size (arr .u32 T.list) rfl rfl 229 _ ((I8.out.below (Below.refl _ _).drew).below hb6) (kr T) rfl (dh _) ?_
     refine hK.out _ _ ?_
     clear hK K
     try simp only [qq]
     refine gH ?_
     have U8 : Hid (bH .u32 229 (w6.setRow w4.heap.size (arr .u32 T.list)) w4.heap.size (lH P (k + 1)).list) := aa (by
      rw [HTN.out]
      exact ((I8.out.below (Below.refl _ _).drew).below hb6).setRow)
     have Db : Hid (Below W.heap.size W (w6.setRow w4.heap.size (arr .u32 T.list))) := aa (ai (aF.out.drew.trans (hb6.mono aF.out.size)) aaS)
     have Yr : Hid (Sk .u8 (w6.setRow w4.heap.size (arr .u32 T.list)) (some ⟨g4, off, none⟩) (P.drop (64 * k))) := aa (((ZL.out.below (Below.refl _ _).drew).below hb6).setRow_ne (fun b o e => by cases e; omega))
     obtain ⟨w7, hw7⟩ : ∃ u, w6.setRow w4.heap.size (arr .u32 T.list) = u := ⟨_, rfl⟩
     rw [hw7] at U8 Db Yr ⊢
     clear hw7 hb6 ZL Yt I8 aF HVr HCS HT HTN Du hHeld
     have afr : (64 : Int) ≤ (R : Int) := by omega
     by_cases hce : cp = 64
     ·
      subst hce
      obtain rfl : R = 64 := by omega
      have HN0 : Hid (Sk .u8 w7 (some ⟨g4, off, none⟩) (P.drop (64 * (k + 1)))) := aa (Sk.nil_of (by rw [List.length_drop, HM.out]; have := HR.out; omega))
      have HR2 : Hid (64 * (k + 1) + 0 = 64 * M) := aa (by have := HR.out; omega)
      go_wp2
      go_roundw
      case rel => exact ⟨k + 1, 0, off, 0, by omega, HR2, rfl, by omega, by omega, HN0, U8, Db⟩
      case measure => simp [lenOf]
     ·
      have HN0 : Hid (Sk .u8 w7 (some ⟨g4, off + 64, none⟩) (P.drop (64 * (k + 1)))) := aa (by
       have h := Yr.out.drop (n := 64)
       rwa [List.drop_drop, show 64 * k + 64 = 64 * (k + 1) by omega] at h)
      have HR2 : Hid (64 * (k + 1) + (R - 64) = 64 * M) := aa (by have := HR.out; omega)
      go_wp2
      go_roundw
      case rel => exact ⟨k + 1, R - 64, off + 64, cp - 64, by omega, HR2, rfl, by omega, by omega, HN0, U8, Db⟩
      case measure => simp [lenOf]; omega
    ·
     obtain rfl : R = 0 := by omega
     obtain ⟨⟨xa, xb, xc, xd, xe, xf, xg, xh⟩, hS⟩ : ∃ T, lH P M = T := ⟨_, rfl⟩
     have Ve : Kp (qb l = nI ⟨xa, xb, xc, xd, xe, xf, xg, xh⟩) := ⟨by
      rw [qb, HP.out, HM.out, show 64 * M / 64 = M by omega, hS]⟩
     have abH : Hid (bH .u32 229 wr w4.heap.size (St.mk xa xb xc xd xe xf xg xh).list) := aa (by
      rw [← hS, show M = k by have := HR.out; omega]
      exact I8.out)
     have U3 : Hid (bH .u8 41 (wr.alloc (.cells z32 41)) wr.heap.size (pz 32 ((nI ⟨xa, xb, xc, xd, xe, xf, xg, xh⟩).take (4 * 0)))) := aa (by
      rw [jd]
      exact bH.new _ _)
     have qP : Hid (Below W.heap.size W (wr.alloc (.cells z32 41))) := aa (aF.out.alloc aF.out.size _)
     clear hS I8 ZL HR
     go_upto_region 11 with ((with_reducible show wpList _ _ _ (⟨some 37, _, _, _, _, _⟩ :: _) _ _); refine wpList_load_row rfl 229 _ rfl w4.heap.size rfl _ _ _ _ (abH.out.old _) Tryz.underlying229 rfl (kr _) ?_)
     rw [← QG]
     have hbr := aF.out.size
     obtain ⟨WN, Ry⟩ : ∃ u, wr.alloc (.cells z32 41) = u := ⟨_, rfl⟩
     rw [Ry] at U3 qP ⊢
     obtain ⟨B5, RH⟩ : ∃ x, wr.heap.size = x := ⟨_, rfl⟩
     have OI : Hid (B5 < WN.heap.size) := aa (by rw [← Ry, ← RH]; simp)
     rw [RH] at U3 hbr ⊢
     clear Ry RH
     go_loopw [38] (fun i u => ∃ k : Nat, k ≤ 8 ∧ i = .int .i64 k ∧ Hid (bH .u8 41 u B5 (pz 32 ((nI ⟨xa, xb, xc, xd, xe, xf, xg, xh⟩).take (4 * k)))) ∧ Hid (Below B5 WN u)) (fun i _ => 8 - (intOf i).toNat)
     case atStart => exact ⟨0, by omega, rfl, U3, aa (Below.refl _ _)⟩
     case round =>
      obtain ⟨k4, hk4, rfl, AQ, mZ⟩ := hrel
      by_cases hlk : k4 < 8
      ·
       have hi8 := WW xa xb xc xd xe xf xg xh k4 hlk
       obtain ⟨v0, e1⟩ : ∃ x, (St.mk xa xb xc xd xe xf xg xh).list.getD k4 0 = x := ⟨_, rfl⟩
       rw [e1] at hi8
       have E1 := aa e1
       clear e1
       go_wp2
       go_loopw [42] (fun j u => ∃ m : Nat, m ≤ 4 ∧ j = .int .i64 m ∧ Hid (bH .u8 41 u B5 (pz 32 ((nI ⟨xa, xb, xc, xd, xe, xf, xg, xh⟩).take (4 * k4 + m)))) ∧ Hid (Below B5 WN u)) (fun j _ => 4 - (intOf j).toNat)
       case atStart => exact ⟨0, by omega, rfl, AQ, mZ⟩
       case round =>
        obtain ⟨m, hm, rfl, uK, Q8⟩ := hrel
        by_cases hlm : m < 4
        ·
         have hol : (nI ⟨xa, xb, xc, xd, xe, xf, xg, xh⟩).length = 32 := nH _
         have hc := uK.out.cell (j := 4 * k4 + m) (by rw [FZ (by rw [List.length_take, hol]; omega)]; omega)
         have hf := uK.out.free (4 * k4 + m)
         have hst := BZ (N := 32) (k := 4 * k4 + m) (l := nI ⟨xa, xb, xc, xd, xe, xf, xg, xh⟩) (by rw [hol]; omega) (by omega)
         rw [Ip _ k4 hlk m hlm, E1.out] at hst
         obtain ⟨q, hq⟩ : ∃ q, v0 / 2 ^ (24 - 8 * m) = q := ⟨_, rfl⟩
         rw [hq] at hst
         have HC := hc
         have j0 : (0 : Int) ≤ 24 - 8 * m := by omega
         have j1 : (24 - 8 * (m : Int)).toNat = 24 - 8 * m := by omega
         have j2 : (4 * (k4 : Int) + m).toNat = 4 * k4 + m := by omega
         obtain ⟨WV, Dp⟩ : ∃ u, wr.setCell ⟨B5, 4 * k4 + m, none⟩ (.int .u8 (q % 256)) = u := ⟨_, rfl⟩
         have HB2 : Hid (bH .u8 41 WV B5 (pz 32 ((nI ⟨xa, xb, xc, xd, xe, xf, xg, xh⟩).take (4 * k4 + (m + 1))))) := aa (by
          rw [← Dp, show 4 * k4 + (m + 1) = 4 * k4 + m + 1 by omega, ← hst]
          exact uK.out.set)
         have VF : Hid (Below B5 WN WV) := aa (by rw [← Dp]; exact Q8.out.setCell (Nat.le_refl _) _)
         clear hst uK Q8 hol HC
         go_wp2
         try go_region
         try (rw [hq])
         try (rw [Dp])
         go_wp2
         go_roundw
         case rel => exact ⟨m + 1, by omega, by go_num, HB2, VF⟩
         case measure => simp [intOf]; omega
        ·
         have HB2 : Hid (bH .u8 41 wr B5 (pz 32 ((nI ⟨xa, xb, xc, xd, xe, xf, xg, xh⟩).take (4 * (k4 + 1))))) := aa (by
          have h := uK.out
          rwa [show 4 * k4 + m = 4 * (k4 + 1) by omega] at h)
         clear uK
         go_wp2
         go_roundw
         case rel => exact ⟨k4 + 1, by omega, by go_num, HB2, Q8⟩
         case measure => simp [intOf]; omega
      ·
       have Kv : Hid (bH .u8 41 wr B5 (qb l)) := aa (by
        have h := AQ.out
        rwa [show 4 * k4 = (nI ⟨xa, xb, xc, xd, xe, xf, xg, xh⟩).length by rw [nH]; omega, List.take_length, B_ (nH _), ← Ve.out] at h)
       have vZ := aa (qP.out.trans (mZ.out.mono hbr))
       have RY : Hid (bH .u8 41 wr w.heap.size (dz 32)) := aa (eG.out.keepB (by have := lu.out; omega) vZ.out)
       have fM : Hid (Below w.heap.size w (wr.setRow w.heap.size (arr .u8 (qb l)))) := aa (ai (ag bT.out vZ.out) (Nat.le_refl _))
       have HRR : Hid (bH .u8 41 (wr.setRow w.heap.size (arr .u8 (qb l))) w.heap.size (qb l)) := aa RY.out.setRow
       clear AQ mZ
       go_wp2_with (first
        | ((with_reducible show wpList _ _ _ (⟨some 58, _, _, _, _, _⟩ :: _) _ _); refine wpList_load_row rfl 41 _ rfl B5 rfl _ _ _ _ Kv.out Tryz.underlying41 rfl (ay (gF l)) ?_)
        | ((with_reducible show wpList _ _ _ (⟨none, _, _, _, _, _⟩ :: _) _ _); refine wpList_store_row rfl 41 _ _ rfl w.heap.size (arr .u8 (qb l)) rfl rfl _ _ RY.out (ay (gF l)) (eB rfl (gF l)) (dh _) ?_))
       exact bodyPost_ret (v := .agg (arr .u8 (qb l))) (results_cell_row (p := 2) (ty := 41) rfl _ _ w.heap.size _ _ _ _ rfl HRR.out Tryz.underlying41 rfl (ay (gF l))) rfl ⟨rfl, fM.out⟩
  ·
   have hN : N < n + 1 + l9 n := by unfold l9 at hN1 hpz ⊢; omega
   have t1 : ((N : Int) % 64 == 56) = false := by simp; omega
   have t2 : ((N : Int) % 64 != 56) = true := by simp; omega
   have hown := HO.out.row hll
   have hbs := aF.out.size
   have QY := aa hll
   clear hend hll
   go_wp2_with (at_builtin; refine wpList_append_own _ rfl _ _ 114 rfl W.heap.size 5 i0 (.int .u8 0) 1 1 Tryz.underlying114 hi hz0 hz1 hz2 rfl (by decide) _ _ _ rfl (hown.alloc _) ⟨wr.heap.size, 0, none⟩ 1 1 [.int .u8 0] rfl rfl (cell_one_new _ _ _) (ints_oneCell .u8 [0]) (by unfold maxLen; omega) (by omega) (by simp; omega) ?_; intro v2 w2 hown2 hgrow2 _)
   have pR : Hid (aR .u8 5 w2 W.heap.size v2 (l ++ [128] ++ List.replicate (N + 1 - n - 1) 0)) := aa (by
    rw [show N + 1 - n - 1 = (N - n - 1) + 1 by omega, D6, ← List.append_assoc]
    exact aR.app QY.out.symm rfl hown2)
   have qI : Hid (Below W.heap.size W w2) := aa (HO.out.below aF.out hbs hgrow2)
   clear hown hown2 hgrow2 HO
   obtain ⟨A3, c3, e3, _⟩ := pR.out.sk
   have e4 : (l ++ [128] ++ List.replicate (N + 1 - n - 1) 0).length = N + 1 := by simp [hn.out]; omega
   rw [e4] at e3
   subst e3
   clear e4
   go_wp2
   go_roundw
   case rel => exact ⟨N + 1, A3, c3, by omega, by omega, rfl, pR, qI⟩
   case measure => simp [lenOf]; omega
def aX (s : ByteArray) : List Int := s.data.toList.map fun c => (c.toNat : Int)
theorem bE (s : ByteArray) : (aX s).length = s.size := by simp [aX]
theorem ja (s : ByteArray) : aC (aX s) = true := by
 refine List.all_eq_true.2 fun x hx => ?_
 obtain ⟨c, _, rfl⟩ := List.mem_map.1 hx
 have := c.toNat_lt
 simp; omega
theorem mh {w : World} {g cap : Nat} {s : ByteArray} {e : TypeId} {fr : Nat × Nat} (h : w.heap[g]? = some (.cells (bytesRow s cap) e fr)) : Sk .u8 w (some ⟨g, 0, none⟩) (aX s) := fun j hj => ⟨g, 0, rfl, by
 rw [bE] at hj
 rw [Nat.zero_add, cell_of_row _ _ j _ _ _ h, bytesRow_at s cap j (by simpa using hj)]
 simp [aX, List.getD_eq_getElem?_getD]
 rw [Array.getElem?_eq_getElem (by simpa using hj)]
 rfl⟩
theorem aR.skAt {K : IntKind} {T : TypeId} {w : World} {B g n c : Nat} {xs : List Int} (h : aR K T w B (.slice (some ⟨g, 0, none⟩) n c) xs) (h0 : 0 < xs.length) : Sk K w (some ⟨g, 0, none⟩) xs := by
 obtain ⟨g', cap', e, _, _, _, hs⟩ := h.cells h0
 simp only [Value.slice.injEq, Option.some.injEq, Addr.mk.injEq] at e
 rw [e.1.1]
 exact hs
theorem aQ {P : Program} {fn : Func} {p q : Tmp} {ty : TypeId} (h : fn.results = #[.cell p ty, .tmp q]) (tmps : Array Value) (w : World) (a : Addr) (v u : Value)
  (hp : tmps.getD p undef = .pointer (some a)) (hq : tmps.getD q undef = u) (hl : (loadVar ty a).run P w = .ok v w) : (results fn tmps).run P w = .ok (.tuple #[v, u]) w := by
 have hp' : tmps[p]?.getD undef = .pointer (some a) := by simpa using hp
 have hq' : tmps[q]?.getD undef = u := by simpa using hq
 simp [results, h, hp', hq', asAddr, hl]
def mq (h : List Int) : Value := .tuple #[.agg (arr .u8 h), .int .i64 0]
theorem qa (s : ByteArray) (hs1 : 1 ≤ s.size) (hs2 : s.size ≤ 100) (b o c : Nat) (l : List Int) (n : Nat) (hn : Hid (l.length = n)) (hn0 : 0 < n) (hbig : n ≤ 900000) (hby : Hid (aC l = true)) (w : World) (hs : Hid (Sk .u8 w (some ⟨b, o, none⟩) l)) (hv : Hid (bz w)) :
  Calls Tryz.prog 178 #[.string s, .slice (some ⟨b, o, none⟩) n c] w (Rt w (mq (tagged (aX s) l))) := by
 obtain ⟨i0, hi, hz0, hz1, hz2⟩ := info_parts dS
 obtain ⟨W, hW⟩ : ∃ W, w.alloc (.cells z32 41) = W := ⟨_, rfl⟩
 have bT : Hid (Below w.heap.size w W) := aa (by rw [← hW]; exact af _ _)
 have eG : Hid (bH .u8 41 W w.heap.size (dz 32)) := aa (by
  rw [← hW, jd]
  exact bH.new _ _)
 have lu : Hid (W.heap.size = w.heap.size + 1) := aa (by rw [← hW]; simp)
 have HS := aa (hs.out.below bT.out)
 have HV := aa (hv.out.below bT.out)
 have HW := aa hW
 have hcv := fun w => run_bytes_of_string (P := Tryz.prog) w 9 114 5 s Tryz.underlying9 Tryz.underlying114 Tryz.underlying5
 clear hW hs hv
 go_in
 go_wp2_with fail
 rw [HW.out]
 clear hcv HW
 obtain ⟨Wc, hWc⟩ : ∃ u, (W.alloc (.cells (bytesRow s (grownCap W s.size 0 5)) 5 ((bytesRow s (grownCap W s.size 0 5)).size, (bytesRow s (grownCap W s.size 0 5)).size + 1))).drew = u := ⟨_, rfl⟩
 have su : Hid (Below W.heap.size W Wc) := aa (by rw [← hWc]; exact (af _ _).drew)
 have HSc : Hid (Sk .u8 Wc (some ⟨w.heap.size + 1, 0, none⟩) (aX s)) := aa (by
  rw [← hWc, ← lu.out]
  exact mh (heap_alloc_new W _))
 obtain ⟨gc, hgc⟩ : ∃ g, grownCap W s.size 0 5 = g := ⟨_, rfl⟩
 rw [hWc, hgc]
 clear hWc hgc
 refine (Ig (w.heap.size + 1) 0 gc (aX s) s.size (aa (bE s)) (by omega) (aa (ja s)) _ HSc (aa (HV.out.below su.out))).mono ?_
 rintro e w1 ⟨rfl, hb1⟩
 have HB1 := aa (ag su.out hb1)
 clear hb1 HSc su
 obtain ⟨t, ht⟩ : ∃ t, qb (aX s) = t := ⟨_, rfl⟩
 have htl : t.length = 32 := by rw [← ht]; exact gF _
 have htb : aC t = true := by rw [← ht]; exact iU _
 have HT : Kp (qb (aX s) = t) := ⟨ht⟩
 have yM := aa htl
 have HTB := aa htb
 rw [ht]
 clear ht htl htb
 go_upto_region 4 with ((with_reducible show wpList _ _ _ (⟨none, _, _, _, _, _⟩ :: _) _ _); refine wpList_store_row rfl 41 _ _ rfl w1.heap.size (arr .u8 t) rfl rfl _ _ (heap_alloc_new _ _) (ay yM.out) (eB (l := dz 32) rfl yM.out) (dh _) ?_)
 rw [World.setRow_alloc_new]
 simp only [Act.put]
 have HB2 := aa (ag HB1.out (af w1 (.cells (arr .u8 t) 41)))
 have HT2 : Hid (bH .u8 41 (w1.alloc (.cells (arr .u8 t) 41)) w1.heap.size t) := aa (bH.new _ _)
 obtain ⟨W2, hW2⟩ : ∃ u, w1.alloc (.cells (arr .u8 t) 41) = u := ⟨_, rfl⟩
 have HSN : Hid (w1.heap.size < W2.heap.size) := aa (by rw [← hW2]; simp)
 rw [hW2] at HB2 HT2 ⊢
 clear hW2 HB1
 obtain ⟨gt, hgt⟩ : ∃ g, w1.heap.size = g := ⟨_, rfl⟩
 rw [hgt] at HT2 HSN ⊢
 clear hgt
 have o7 := aa ((Below.refl W2.heap.size W2).drew)
 have AL := aa (HT2.out.below o7.out)
 have HB3 := aa (ag HB2.out o7.out)
 obtain ⟨Wd, hWd⟩ : ∃ u, W2.drew = u := ⟨_, rfl⟩
 refine bJ (S := fun w' => True) (E := []) (by kernel_rfl) (trivial) (fun hHeld => ?_)
 refine bQ 0 ?_
 refine bQ 2 ?_
 refine bQ 4 ?_
 refine bY 1 fun K hK => ?_
 go_simp
 try rw [hWd]
 rw [hWd] at o7 AL HB3
 refine (Tryz.bytes_Clone_at ⟨gt, 0, none⟩ 32 32 t _ yM.out (by decide) (AL.out.sk.at_add yM.out)).mono ?_
 rintro e w3 ⟨v3, rfl, ho3, aeV, hb3⟩
 refine hK.out _ _ ?_ (fun hHeld => ?_)
 · trivial
 clear hK K
 try simp only [qq]
 refine bY 3 fun K hK => ?_
 have QT := aa (HS.out.below (ag HB3.out hb3))
 have HT3 := aa (AL.out.below hb3)
 have hbz := hb3.size
 refine step_append_lies _ (by rfl) _ _ _ (by rfl) (Wd.heap.size) 5 i0 _ 1 1 Tryz.underlying114 hi hz0 hz1 hz2 rfl (by omega) v3 32 (t.map (.int .u8)) (by rfl) (ho3) ⟨gt, 0, none⟩ 32 32 (t.map (.int .u8)) (by rfl) (by simp [yM.out, hn.out]) (HT3.out.sk.news) (ints_oneCell .u8 _) (by omega) (by unfold maxLen; omega) (by omega) (by omega) (w3.heap.size) (rfl) ?_
 intro g4 cap4 w4 tY qo Xt aaK
 have kL := aa (Below.grown hb3 qo (by omega) (fun j hj => (World.ownsRow.lt ho3 j hj).1))
 refine hK.out _ _ ?_ (fun hHeld => ?_)
 · trivial
 clear hK K
 try simp only [qq]
 refine bY 5 fun K hK => ?_
 have yN := aa ((HS.out.below HB3.out).below kL.out)
 have aaQ := kL.out.size
 refine step_append_lies _ (by rfl) _ _ _ (by rfl) (Wd.heap.size) 5 i0 _ 1 1 Tryz.underlying114 hi hz0 hz1 hz2 rfl (by omega) (.slice (some ⟨g4, 0, none⟩) (32 + 32) cap4) (32 + 32) (t.map (.int .u8) ++ t.map (.int .u8)) (by rfl) (tY) ⟨b, o, none⟩ n c (l.map (.int .u8)) (by rfl) (by simp [yM.out, hn.out]) (yN.out.news) (ints_oneCell .u8 _) (by omega) (by unfold maxLen; omega) (by omega) (by omega) (w4.heap.size) (rfl) ?_
 intro g5 cap5 w5 hown5 qm Ur Ui
 have jZ := aa (Below.grown kL.out qm (by omega) (fun j hj => (World.ownsRow.lt tY j hj).1))
 have xC : Hid (aR .u8 5 w5 Wd.heap.size (.slice (some ⟨g5, 0, none⟩) (32 + 32 + n) cap5) (t ++ t ++ l)) := aa (aR.app (by rw [List.length_append, yM.out]) hn.out.symm (by rw [List.map_append]; exact hown5))
 refine hK.out _ _ ?_ (fun hHeld => ?_)
 · trivial
 clear hK K
 try simp only [qq]
 refine bY 6 fun K hK => ?_
 go_simp
 have Cu := xC.out.skAt (by simp [hn.out]; omega)
 refine (Ig g5 0 cap5 (t ++ t ++ l) (32 + 32 + n) (aa (by simp [hn.out, yM.out]; omega)) (by omega) (aa (by rw [dG, dG, HTB.out, hby.out]; rfl)) _ (aa Cu) (aa ((HV.out.below HB3.out).below jZ.out))).mono ?_
 rintro e w6 ⟨rfl, hb6⟩
 have m_ := aa (jZ.out.trans (hb6.mono jZ.out.size))
 refine hK.out _ _ ?_ (fun hHeld => ?_)
 · trivial
 clear hK K
 try simp only [qq]
 refine bY 7 fun K hK => ?_
 rw [show (if Region.wanted _ _ = true then _ else _ : Prop) = _ from if_pos rfl]
 refine wp_store_row 41 _ _ rfl w.heap.size (arr .u8 (qb (t ++ t ++ l))) rfl rfl 41 _ (((eG.out.below HB3.out)).below m_.out) (ay (gF _)) (eB rfl (gF _)) (dh _) ?_
 refine hK.out _ _ ?_ (fun hHeld => ?_)
 · trivial
 clear hK K
 try simp only [qq]
 refine bQ 8 ?_
 refine gH ?_
 have HRR : Hid (bH .u8 41 (w6.setRow w.heap.size (arr .u8 (qb (t ++ t ++ l)))) w.heap.size (qb (t ++ t ++ l))) := aa ((eG.out.below HB3.out).below m_.out).setRow
 have fM : Hid (Below w.heap.size w (w6.setRow w.heap.size (arr .u8 (qb (t ++ t ++ l))))) := aa (ai (ag bT.out (ag HB3.out m_.out)) (Nat.le_refl _))
 have Yo : Kp (tagged (aX s) l = qb (t ++ t ++ l)) := ⟨by rw [tagged, HT.out]⟩
 obtain ⟨R, hR⟩ : ∃ R, qb (t ++ t ++ l) = R := ⟨_, rfl⟩
 have hRl : R.length = 32 := by rw [← hR]; exact gF _
 rw [hR] at HRR fM Yo ⊢
 obtain ⟨w8, hw8⟩ : ∃ u, w6.setRow w.heap.size (arr .u8 R) = u := ⟨_, rfl⟩
 rw [hw8] at HRR fM ⊢
 have Vn : Kp ((loadVar 41 ⟨w.heap.size, 0, none⟩).run Tryz.prog w8 = .ok (.agg (arr .u8 R)) w8) := ⟨run_loadVar_row _ _ _ _ _ _ _ HRR.out Tryz.underlying41 rfl (ay hRl)⟩
 clear hR hRl hw8
 go_wp2
 exact bodyPost_ret (v := mq R) (aQ (p := 4) (q := 5) (ty := 41) rfl _ _ ⟨w.heap.size, 0, none⟩ _ _ rfl rfl Vn.out) rfl ⟨by rw [Yo.out], fM.out⟩
theorem nG {K : IntKind} {T : TypeId} (w : World) : aR K T (w.alloc (.cells #[] T)) w.heap.size (.slice (some ⟨w.heap.size, 0, none⟩) 0 0) [] :=
 ⟨rfl, Or.inr ⟨w.heap.size, 0, #[], rfl, Nat.le_refl _, heap_alloc_new _ _, Nat.le_refl _, by decide, rfl, rfl⟩⟩
theorem FY (n : Int) (w : World) : Calls Tryz.prog 234 #[.int .i64 n] w (zV .u8 5 (qY n) w) := by
 obtain ⟨i0, hi, hz0, hz1, hz2⟩ := info_parts dS
 go_in
 go_wp2
 go_loopw [3, 4] (fun v i u => ∃ k : Nat, k ≤ 8 ∧ i = .int .i64 (7 - (k : Int)) ∧ Hid (aR .u8 5 u w.heap.size v ((qY n).take k)) ∧ Hid (Below w.heap.size w u)) (fun _ i _ => (intOf i + 1).toNat)
 case atStart => exact ⟨0, by omega, rfl, aa (rJ _ _), aa (Below.refl _ _)⟩
 case round =>
  obtain ⟨k, hk, rfl, HO, aF⟩ := hrel
  by_cases hlt : k < 8
  ·
   obtain ⟨q, hq⟩ : ∃ q, n / 2 ^ (56 - 8 * k) = q := ⟨_, rfl⟩
   have yx : Hid ((qY n).take (k + 1) = (qY n).take k ++ [q % 256]) := aa (by rw [take_one (by rw [fV]; exact hlt), I5 n k hlt, hq])
   have ry : Hid (((qY n).take k).length = k) := aa (by rw [List.length_take, fV]; omega)
   have j0 : (0 : Int) ≤ 8 * (7 - (k : Int)) := by omega
   have j1 : (8 * (7 - (k : Int))).toNat = 56 - 8 * k := by omega
   have hown := HO.out.row ry.out
   have hbs := aF.out.size
   have d1 : (0 : Int) ≤ 7 - (k : Int) := by omega
   go_wp2_with (at_builtin; refine wpList_append_own _ rfl _ _ 114 rfl w.heap.size 5 i0 (.int .u8 0) 1 1 Tryz.underlying114 hi hz0 hz1 hz2 rfl (by decide) _ _ _ rfl (hown.alloc _) ⟨wr.heap.size, 0, none⟩ 1 1 [.int .u8 (q % 256)] rfl rfl (cell_one_new _ _ _) (ints_oneCell .u8 [(q % 256)]) (by unfold maxLen; omega) (by omega) (by simp; omega) ?_; intro v2 w2 hown2 hgrow2 _)
   have pR : Hid (aR .u8 5 w2 w.heap.size v2 ((qY n).take (k + 1))) := aa (by
    rw [yx.out]
    exact aR.app ry.out.symm rfl hown2)
   have qI : Hid (Below w.heap.size w w2) := aa (HO.out.below aF.out hbs hgrow2)
   clear hown hown2 hgrow2 HO
   go_roundw
   case rel => exact ⟨k + 1, by omega, by go_num, pR, qI⟩
   case measure => simp [intOf]; omega
  ·
   have pR : Hid (aR .u8 5 wr w.heap.size u3 (qY n)) := aa (by
    have h := HO.out
    rwa [show k = (qY n).length by rw [fV]; omega, List.take_length] at h)
   have d1 : 7 - (k : Int) < 0 := by omega
   clear HO
   go_wp2
   go_ret
   exact ⟨_, rfl, pR.out, aF.out⟩
theorem DZ (b o c : Nat) (l : List Int) (n : Nat) (hn : Hid (l.length = n)) (hn0 : 0 < n) (hbig : n ≤ 1000000) (w : World) (hs : Hid (Sk .u8 w (some ⟨b, o, none⟩) l)) :
  Calls Tryz.prog 212 #[.slice (some ⟨b, o, none⟩) n c] w (zV .u8 5 (nS l) w) := by
 obtain ⟨i0, hi, hz0, hz1, hz2⟩ := info_parts dS
 go_in
 have nW := aa (nG (K := .u8) (T := 5) w)
 have HBE := aa (af w (.cells #[] 5))
 have RV := aa (hs.out.below HBE.out)
 clear hs
 have hown : (w.alloc (.cells #[] 5)).ownsRow w.heap.size 5 1 (.slice (some ⟨w.heap.size, 0, none⟩) 0 0) 0 [] := nW.out
 have lu : Hid (w.heap.size < (w.alloc (.cells #[] 5)).heap.size) := aa (by simp)
 go_wp2_with (first
  | ((at_builtin; refine wpList_append_own _ rfl _ _ 114 rfl w.heap.size 5 i0 (.int .u8 0) 1 1 Tryz.underlying114 hi hz0 hz1 hz2 rfl (by decide) _ _ _ rfl hown ⟨b, o, none⟩ n c (l.map (.int .u8)) rfl (by simp [hn.out, fV]) (RV.out.news) (ints_oneCell .u8 _) (by unfold maxLen; omega) (by omega) (by simp) ?_; intro v1 w1 hown1 hgrow1 _); have Fu : Hid (aR .u8 5 w1 w.heap.size v1 l) := aa (aR.app (xs := []) (ys := l) (m := n) rfl hn.out.symm hown1); have Kt : Hid (Below w.heap.size w w1) := aa (nW.out.below0 HBE.out (by simp) hgrow1); clear hown hown1 hgrow1 nW RV; have hbs := Kt.out.size; have hown := Fu.out.row hn.out)
  | (at_builtin; refine wpList_append_own _ rfl _ _ 114 rfl w.heap.size 5 i0 (.int .u8 0) 1 1 Tryz.underlying114 hi hz0 hz1 hz2 rfl (by decide) _ _ _ rfl (hown.alloc _) ⟨w1.heap.size, 0, none⟩ 1 1 [.int .u8 128] rfl rfl (cell_one_new _ _ _) (ints_oneCell .u8 [128]) (by unfold maxLen; omega) (by omega) (by simp; omega) ?_; intro v2 w2 hown2 hgrow2 _))
 have uj : Hid (aR .u8 5 w2 w.heap.size v2 (l ++ [128])) := aa (aR.app hn.out.symm rfl hown2)
 have VE : Hid (Below w.heap.size w w2) := aa (Fu.out.below Kt.out hbs hgrow2)
 clear hown hown2 hgrow2 Fu hbs Kt
 obtain ⟨A2, c2, e2, _⟩ := uj.out.sk
 rw [List.length_append, hn.out, List.length_singleton] at e2
 subst e2
 go_loopw [3] (fun p u => ∃ (N : Nat) (A : Option Addr) (cap : Nat), n + 1 ≤ N ∧ N ≤ n + 1 + l9 n ∧ p = .slice A N cap ∧ Hid (aR .u8 5 u w.heap.size p (l ++ [128] ++ List.replicate (N - n - 1) 0)) ∧ Hid (Below w.heap.size w u)) (fun p _ => n + 65 - lenOf p)
 case atStart => exact ⟨n + 1, A2, c2, Nat.le_refl _, by omega, rfl, aa (by rw [show n + 1 - n - 1 = 0 by omega]; simpa using uj.out), VE⟩
 case round =>
  obtain ⟨N, A, cap, hN0, hN1, rfl, HO, aF⟩ := hrel
  have hpz : l9 n < 64 := by unfold l9; omega
  have hll : (l ++ [128] ++ List.replicate (N - n - 1) 0).length = N := by simp [hn.out]; omega
  by_cases hend : N % 64 = 56
  ·
   have HN : Hid (N = n + 1 + l9 n) := aa (by unfold l9 at hN1 hpz ⊢; omega)
   have t1 : ((N : Int) % 64 == 56) = true := by simp; omega
   have t2 : ((N : Int) % 64 != 56) = false := by simp; omega
   clear hend
   go_wp2_with fail
   refine (FY _ _).mono ?_
   rintro e w3 ⟨vb, rfl, mW, hb3⟩
   obtain ⟨gb, abq, rfl, hgb, hcb, ae9, Xc⟩ := aR.cells mW (show 0 < 8 by decide)
   have pR := aa (HO.out.keep hb3)
   have qI := aa (aF.out.trans (hb3.mono aF.out.size))
   have Kw := aa Xc
   have hbs := qI.out.size
   have hown := pR.out.row hll
   have QY := aa hll
   clear Xc mW hb3 HO aF hll
   go_wp2_with (at_builtin; refine wpList_append_own _ rfl _ _ 114 rfl w.heap.size 5 i0 (.int .u8 0) 1 1 Tryz.underlying114 hi hz0 hz1 hz2 rfl (by decide) _ _ _ rfl hown ⟨gb, 0, none⟩ 8 abq ((qY (8 * (n : Int))).map (.int .u8)) rfl (by simp [hn.out, fV]) (Kw.out.news) (ints_oneCell .u8 _) (by unfold maxLen l9 at *; omega) (by unfold l9 at *; omega) (by omega) ?_; intro v4 w4 hown2 hgrow2 _)
   have yO : Hid (aR .u8 5 w4 w.heap.size v4 (nS l)) := aa (by
    have h := aR.app (ys := qY (8 * (n : Int))) QY.out.symm rfl hown2
    have e : l ++ [128] ++ List.replicate (N - n - 1) 0 ++ qY (8 * (n : Int)) = nS l := by
     rw [nS, hn.out, show N - n - 1 = l9 n by have := HN.out; omega]
    rwa [e] at h)
   have H6 : Hid (Below w.heap.size w w4) := aa (pR.out.below0 qI.out hbs hgrow2)
   clear hown hown2 hgrow2 pR Kw qI hbs QY HN t1 t2
   go_wp2
   go_ret
   exact ⟨_, rfl, yO.out, H6.out⟩
  ·
   have hN : N < n + 1 + l9 n := by unfold l9 at hN1 hpz ⊢; omega
   have t1 : ((N : Int) % 64 == 56) = false := by simp; omega
   have t2 : ((N : Int) % 64 != 56) = true := by simp; omega
   have hown := HO.out.row hll
   have hbs := aF.out.size
   have QY := aa hll
   clear hend hll
   go_wp2_with (at_builtin; refine wpList_append_own _ rfl _ _ 114 rfl w.heap.size 5 i0 (.int .u8 0) 1 1 Tryz.underlying114 hi hz0 hz1 hz2 rfl (by decide) _ _ _ rfl (hown.alloc _) ⟨wr.heap.size, 0, none⟩ 1 1 [.int .u8 0] rfl rfl (cell_one_new _ _ _) (ints_oneCell .u8 [0]) (by unfold maxLen; omega) (by omega) (by simp; omega) ?_; intro v2 w2 hown2 hgrow2 _)
   have pR : Hid (aR .u8 5 w2 w.heap.size v2 (l ++ [128] ++ List.replicate (N + 1 - n - 1) 0)) := aa (by
    rw [show N + 1 - n - 1 = (N - n - 1) + 1 by omega, D6, ← List.append_assoc]
    exact aR.app QY.out.symm rfl hown2)
   have qI : Hid (Below w.heap.size w w2) := aa (HO.out.below aF.out hbs hgrow2)
   clear hown hown2 hgrow2 HO
   obtain ⟨A3, c3, e3, _⟩ := pR.out.sk
   have e4 : (l ++ [128] ++ List.replicate (N + 1 - n - 1) 0).length = N + 1 := by simp [hn.out]; omega
   rw [e4] at e3
   subst e3
   clear e4
   go_wp2
   go_roundw
   case rel => exact ⟨N + 1, A3, c3, by omega, by omega, rfl, pR, qI⟩
   case measure => simp [lenOf]; omega
theorem FW (w : World) :
  Calls Tryz.prog 211 #[] w fun e w' => e = .returned (.slice (some ⟨w.heap.size, 0, none⟩) 64 64) ∧ w.alloc (.cells (arr .u32 KL) 209) = w' := by
 go_in
 go_wp2
 go_ret
 exact ⟨rfl, rfl⟩
inductive It where
 | int (n : Int)
 | byt (b : List Int)
 | lst (l : List It)
def fits : Nat → It → Prop
 | _, .int n => -9223372036854775808 ≤ n ∧ n < 9223372036854775808
 | _, .byt b => (0 < b.length ∧ b.length < 1000000) ∧ aC b = true
 | 0, .lst _ => False
 | d + 1, .lst l => l.length ≤ 1000 ∧ ∀ x ∈ l, fits d x
def uP (n : Int) : List Int := [n / 16777216 % 256, n / 65536 % 256, n / 256 % 256, n % 256]
theorem dY (n : Int) : (uP n).length = 4 := rfl
mutual
def enc : It → List Int
 | .int n => 1 :: qY (n % 18446744073709551616)
 | .byt b => 2 :: (uP b.length ++ b)
 | .lst l => 3 :: (uP l.length ++ fG l)
def fG : List It → List Int
 | [] => []
 | i :: l => enc i ++ fG l
end
theorem vN (a b : List It) : fG (a ++ b) = fG a ++ fG b := by
 induction a with
 | nil => simp [fG]
 | cons x a ih => simp [fG, ih]
theorem EF (x : It) : fG [x] = enc x := by simp [fG]
theorem mK (n : Int) : enc (.int n) = 1 :: qY (n % 18446744073709551616) := by simp [enc]
theorem iC (b : List Int) : enc (.byt b) = 2 :: (uP b.length ++ b) := by simp [enc]
theorem fA (l : List It) : enc (.lst l) = 3 :: (uP l.length ++ fG l) := by simp [enc]
theorem oD (i : It) : 0 < (enc i).length := by cases i <;> simp [enc]
instance ac5 : Inhabited It := ⟨.int 0⟩
theorem pK {l : List It} {k : Nat} (hk : k < l.length) : fG (l.take (k + 1)) = fG (l.take k) ++ enc (l.getD k default) := by
 rw [List.take_add_one, List.getElem?_eq_getElem hk, List.getD_eq_getElem?_getD, List.getElem?_eq_getElem hk, vN]
 simp [fG]
theorem qw {l : List It} {k : Nat} : (fG (l.take k)).length ≤ (fG l).length := by
 conv => rhs; rw [← List.take_append_drop k l]
 rw [vN, List.length_append]
 omega
theorem pI {i : It} {d : Nat} (h : fits d i) : ∀ {e : Nat}, d ≤ e → fits e i := by
 induction d generalizing i with
 | zero =>
  intro e he
  cases i with
  | int n => cases e <;> exact h
  | byt b => cases e <;> exact h
  | lst l => exact absurd h (by simp [fits])
 | succ d ih =>
  intro e he
  cases i with
  | int n => cases e <;> exact h
  | byt b => cases e <;> exact h
  | lst l =>
   cases e with
   | zero => omega
   | succ e => exact ⟨h.1, fun x hx => ih (h.2 x hx) (by omega)⟩
theorem xz (n : Int) : aC (uP n) = true := by simp [aC, uP, zy]
theorem kz {d : Nat} {i : It} (h : fits d i) : aC (enc i) = true := by
 induction d generalizing i with
 | zero =>
  cases i with
  | int n => rw [mK, show (1 :: qY (n % 18446744073709551616) : List Int) = [1] ++ qY (n % 18446744073709551616) from rfl, dG, xy]; rfl
  | byt b => rw [iC, show (2 :: (uP b.length ++ b) : List Int) = [2] ++ (uP b.length ++ b) from rfl, dG, dG, xz, h.2]; rfl
  | lst l => exact absurd h (by simp [fits])
 | succ d ih =>
  cases i with
  | int n => rw [mK, show (1 :: qY (n % 18446744073709551616) : List Int) = [1] ++ qY (n % 18446744073709551616) from rfl, dG, xy]; rfl
  | byt b => rw [iC, show (2 :: (uP b.length ++ b) : List Int) = [2] ++ (uP b.length ++ b) from rfl, dG, dG, xz, h.2]; rfl
  | lst l =>
   rw [fA, show (3 :: (uP l.length ++ fG l) : List Int) = [3] ++ (uP l.length ++ fG l) from rfl, dG, dG, xz]
   have hl : ∀ (m : List It), (∀ x ∈ m, fits d x) → aC (fG m) = true := by
    intro m hm
    induction m with
    | nil => rfl
    | cons x m ihm => rw [fG, dG, ih (hm x (by simp)), ihm (fun y hy => hm y (by simp [hy]))]; rfl
   rw [hl l h.2]; rfl
structure Ic where
 (kind n : Int)
 (B : Option Addr)
 (nb cb : Nat)
 (L : Option Addr)
 (nl cl : Nat)
def Ic.cs (c : Ic) : Array Value := #[.int .i64 c.kind, .int .i64 c.n, .slice c.B c.nb c.cb, .slice c.L c.nl c.cl]
def Ic.val (c : Ic) : Value := .agg c.cs
def Four (w : World) (b o : Nat) (c : Ic) : Prop := w.cell? ⟨b, o, none⟩ = some (.int .i64 c.kind) ∧ w.cell? ⟨b, o + 1, none⟩ = some (.int .i64 c.n) ∧ w.cell? ⟨b, o + 2, none⟩ = some (.slice c.B c.nb c.cb) ∧ w.cell? ⟨b, o + 3, none⟩ = some (.slice c.L c.nl c.cl)
theorem Four.below {w w' : World} {b o : Nat} {c : Ic} (h : Four w b o c) (hb : Below w.heap.size w w') : Four w' b o c :=
 ⟨cell_below h.1 hb, cell_below h.2.1 hb, cell_below h.2.2.1 hb, cell_below h.2.2.2 hb⟩
inductive nV (w : World) : It → Ic → Prop
 | int (n : Int) (c : Ic) (h1 : c.kind = 1) (h2 : c.n = n) (h3 : c.nb = 0) (h4 : c.nl = 0) : nV w (.int n) c
 | byt (b : List Int) (c : Ic) (h1 : c.kind = 2) (h2 : c.n = 0) (h3 : c.nb = b.length) (h4 : c.nl = 0) (h5 : Sk .u8 w c.B b) : nV w (.byt b) c
 | lst (l : List It) (c : Ic) (h1 : c.kind = 3) (h2 : c.n = 0) (h3 : c.nb = 0) (h4 : c.nl = l.length) (f : Nat → Ic)
   (h5 : ∀ k, k < l.length → ∃ b o, c.L = some ⟨b, o, none⟩ ∧ Four w b (o + k * 4) (f k)) (h6 : ∀ k, k < l.length → nV w (l.getD k default) (f k)) : nV w (.lst l) c
theorem nV.kept {w w' : World} {i : It} {c : Ic} (h : nV w i c) (hb : Below w.heap.size w w') : nV w' i c := by
 induction h with
 | int n c h1 h2 h3 h4 => exact .int n c h1 h2 h3 h4
 | byt b c h1 h2 h3 h4 h5 => exact .byt b c h1 h2 h3 h4 (h5.below hb)
 | lst l c h1 h2 h3 h4 f h5 h6 ih =>
  refine .lst l c h1 h2 h3 h4 f (fun k hk => ?_) ih
  obtain ⟨b, o, e, h⟩ := h5 k hk
  exact ⟨b, o, e, h.below hb⟩
theorem EA {w w1 w2 : World} {r r1 : Option Nat} (h : w.grownBy w1 r) (h2 : w1.grownBy w2 r1) (hr : r1 = r ∨ ∀ g, r1 = some g → w.heap.size ≤ g) : w.grownBy w2 r := by
 refine ⟨h2.os.trans h.os, h2.tape.trans h.tape, h2.output.trans h.output, Nat.le_trans h.size h2.size, fun k hk hne => ?_⟩
 refine (h2.block k (Nat.lt_of_lt_of_le hk h.size) ?_).trans (h.block k hk hne)
 intro e
 rcases hr with hr | hr
 · exact hne (by rw [e, hr])
 · have := hr k e.symm; omega
def App (base : Nat) (w : World) (v : Value) (xs ys : List Int) (w' : World) (v' : Value) : Prop :=
 aR .u8 5 w' base v' (xs ++ ys) ∧ w.grownBy w' v.ownBlock ∧ (v'.ownBlock = v.ownBlock ∨ ∀ g, v'.ownBlock = some g → w.heap.size ≤ g)
theorem App.refl {base : Nat} {w : World} {v : Value} {xs : List Int} (h : aR .u8 5 w base v xs) : App base w v xs [] w v :=
 ⟨by rw [List.append_nil]; exact h, World.grownBy.refl _ _, Or.inl rfl⟩
theorem App.trans {base : Nat} {w w1 w2 : World} {v v1 v2 : Value} {xs ys zs : List Int} (h : App base w v xs ys w1 v1) (h2 : App base w1 v1 (xs ++ ys) zs w2 v2) : App base w v xs (ys ++ zs) w2 v2 := by
 refine ⟨by rw [← List.append_assoc]; exact h2.1, EA h.2.1 h2.2.1 h.2.2, ?_⟩
 rcases h2.2.2 with e | e
 ·
  rcases h.2.2 with e1 | e1
  · exact Or.inl (e.trans e1)
  · exact Or.inr fun g hg => e1 g (e ▸ hg)
 · exact Or.inr fun g hg => Nat.le_trans h.2.1.size (e g hg)
theorem App.alloc {base : Nat} {w : World} {v : Value} {xs : List Int} (h : aR .u8 5 w base v xs) (o : Obj) : App base w v xs [] (w.alloc o) v :=
 ⟨by rw [List.append_nil]; exact h.keep (af _ _), World.grownBy_alloc _ _ _, Or.inl rfl⟩
theorem App.pre {base : Nat} {w w1 w2 : World} {v v1 v2 : Value} {xs ys : List Int} (h : App base w v xs [] w1 v1) (h2 : App base w1 v1 xs ys w2 v2) : App base w v xs ys w2 v2 := by
 have h3 : App base w v xs ([] ++ ys) w2 v2 := h.trans (by rw [List.append_nil]; exact h2)
 exact h3
theorem App.calm {base : Nat} {w w1 : World} {v : Value} {xs : List Int} (h : aR .u8 5 w base v xs) (hb : Below w.heap.size w w1) : App base w v xs [] w1 v :=
 ⟨by rw [List.append_nil]; exact h.keep hb, ⟨hb.os, hb.tape, hb.output, hb.size, fun k hk _ => hb.block k hk⟩, Or.inl rfl⟩
theorem App.below {B base : Nat} {w0 w w' : World} {v v' : Value} {xs ys : List Int} (h : App base w v xs ys w' v') (ho : aR .u8 5 w base v xs) (hb : Below B w0 w) (hB : B ≤ base) (hBw : B ≤ w.heap.size) : Below B w0 w' :=
 hb.grown h.2.1 hBw (fun j hj => Nat.le_trans hB (aR.lt ho j hj).1)
theorem App.cell {base : Nat} {w w' : World} {v v' : Value} {xs ys : List Int} (h : App base w v xs ys w' v') {p : Addr} {u : Value} (hc : w.cell? p = some u) (hne : v.ownBlock ≠ some p.block) : w'.cell? p = some u :=
 h.2.1.cell hc (Ne.symm hne)
theorem App.of_lies {base n m : Nat} {w w1 : World} {v : Value} {xs ys : List Int} {g cap H : Nat} (hn : xs.length = n) (hm : ys.length = m) (hH : w.heap.size = H)
  (h1 : w1.ownsRow base 5 1 (.slice (some ⟨g, 0, none⟩) (n + m) cap) (n + m) (xs.map (Value.int .u8) ++ ys.map (Value.int .u8))) (h2 : w.grownBy w1 v.ownBlock) (h3 : v.ownBlock = some g ∨ g = H) : App base w v xs ys w1 (.slice (some ⟨g, 0, none⟩) (n + m) cap) :=
 ⟨aR.app hn.symm hm.symm h1, h2, h3.elim (fun e => Or.inl e.symm) (fun e => Or.inr fun k hk => by cases hk; show w.heap.size ≤ g; omega)⟩
section
variable {P : Program}
theorem wpList_append_lies {ops : Array Oper} {rest : List Oper} {o : Oper} {a : Act} {w : World} {Q : Exit → Act → World → Prop} (hgd : o.guard = none) (s x : Operand) (t : TypeId)
  (ho : o.op = .call { callee := .builtin .append, args := #[s, x], argTypes := #[t, t] })
  (base : Nat) (e : TypeId) (i : TypeInfo) (z : Value) (size bytes : Nat) (ht : P.underlying t = some (.slice e)) (hi : P.info? e = some i) (hz : i.zero = some z)
  (hsize : i.size = size) (hby : i.bytes = bytes) (hzs : z.cells.size = size) (hsz : 0 < size)
  (v : Value) (n : Nat) (xs : List Value) (hs : a.eval s = v) (hown : w.ownsRow base e size v n xs)
  (ad : Addr) (m c : Nat) (news : List Value) (hx : a.eval x = .slice (some ad) m c) (hl : news.length = m * size) (hnews : ∀ j u, news[j]? = some u → w.cell? (ad.add j) = some u) (h1 : ∀ u ∈ news, u.oneCell' = true)
  (hm : 0 < m) (h63 : n + m ≤ maxLen) (hbytes : (n + m) * bytes ≤ 140737488355328) (hbase : base ≤ w.heap.size) (H : Nat) (hH : w.heap.size = H)
  (h : ∀ g cap w', w'.ownsRow base e size (.slice (some ⟨g, 0, none⟩) (n + m) cap) (n + m) (xs ++ news) → w.grownBy w' v.ownBlock → (v.ownBlock = some g ∨ g = H) → g < w'.heap.size → wpList P ops Q rest (a.put o.dst (.slice (some ⟨g, 0, none⟩) (n + m) cap)) w') :
  wpList P ops Q (o :: rest) a w :=
 wpList_plain hgd fun _ hK => wp_append_lies w s x t ho base e i z size bytes ht hi hz hsize hby hzs hsz v n xs hs hown ad m c news hx hl hnews h1 hm h63 hbytes hbase H hH fun g cap w' a1 a2 a3 a4 => hK _ _ (h g cap w' a1 a2 a3 a4)
end
def qB (s : Nat) (n : Int) : List Int := if s = 8 then qY n else uP n
theorem jb {s : Nat} (h : s = 4 ∨ s = 8) (n : Int) : (qB s n).length = s := by rcases h with rfl | rfl <;> rfl
theorem CV {s : Nat} (h : s = 4 ∨ s = 8) (n : Int) (j : Nat) (hj : j < s) : (qB s n).getD j 0 = n / 2 ^ (8 * (s - 1 - j)) % 256 := by
 rcases h with rfl | rfl
 · rcases (show j = 0 ∨ j = 1 ∨ j = 2 ∨ j = 3 by omega) with rfl | rfl | rfl | rfl <;> simp [qB, uP]
 · rcases (show j = 0 ∨ j = 1 ∨ j = 2 ∨ j = 3 ∨ j = 4 ∨ j = 5 ∨ j = 6 ∨ j = 7 by omega) with rfl | rfl | rfl | rfl | rfl | rfl | rfl | rfl <;> simp [qB, qY]
def sD (base : Nat) (v : Value) (xs ys : List Int) (w : World) (e : Ending) (w' : World) : Prop := ∃ v', e = .returned v' ∧ App base w v xs ys w' v'
theorem rV (base : Nat) (v : Value) (xs : List Int) (N : Nat) (n : Int) (s : Nat) (hs : s = 4 ∨ s = 8) (hN : Hid (xs.length = N)) (hbig : N ≤ 20000) (w : World) (ho : Hid (aR .u8 5 w base v xs)) (hbase : base ≤ w.heap.size) :
  Calls Tryz.prog 233 #[v, .int .u64 n, .int .i64 s] w (sD base v xs (qB s n) w) := by
 obtain ⟨i0, hi, hz0, hz1, hz2⟩ := info_parts dS
 have s1 : 4 ≤ s := by omega
 have s2 : s ≤ 8 := by omega
 have Du := aa hs
 clear hs
 go_in
 go_wp2
 go_loopw [0, 7] (fun p i u => ∃ k : Nat, k ≤ s ∧ i = .int .i64 ((s : Int) - 1 - (k : Int)) ∧ Hid (App base w v xs ((qB s n).take k) u p)) (fun _ i _ => (intOf i + 1).toNat)
 case atStart => exact ⟨0, by omega, by simp, aa (App.refl ho.out)⟩
 case round =>
  obtain ⟨k, hk, rfl, HA⟩ := hrel
  by_cases hlt : k < s
  ·
   obtain ⟨q, hq⟩ : ∃ q, n / 2 ^ (8 * (s - 1 - k)) = q := ⟨_, rfl⟩
   have yx : Hid ((qB s n).take (k + 1) = (qB s n).take k ++ [q % 256]) := aa (by rw [take_one (by rw [jb Du.out]; exact hlt), CV Du.out n k hlt, hq])
   have ry : Hid ((xs ++ (qB s n).take k).length = N + k) := aa (by rw [List.length_append, List.length_take, jb Du.out, hN.out]; omega)
   have j0 : (0 : Int) ≤ 8 * ((s : Int) - 1 - (k : Int)) := by omega
   have j1 : (8 * ((s : Int) - 1 - (k : Int))).toNat = 8 * (s - 1 - k) := by omega
   have hown := (HA.out.1.row ry.out)
   have hbs : base ≤ wr.heap.size := Nat.le_trans hbase HA.out.2.1.size
   have d1 : (0 : Int) ≤ (s : Int) - 1 - (k : Int) := by omega
   go_wp2_with (at_builtin; refine wpList_append_lies rfl _ _ 114 rfl base 5 i0 (.int .u8 0) 1 1 Tryz.underlying114 hi hz0 hz1 hz2 rfl (by decide) _ _ _ rfl (hown.alloc _) ⟨wr.heap.size, 0, none⟩ 1 1 [.int .u8 (q % 256)] rfl rfl (cell_one_new _ _ _) (ints_oneCell .u8 [q % 256]) (by decide) (by unfold maxLen; omega) (by omega) (by simp; omega) _ rfl ?_; intro g cap w2 hown2 hgrow2 xw hlt2)
   have HA2 := App.of_lies (v := u0) (xs := xs ++ (qB s n).take k) (ys := [q % 256]) ry.out rfl rfl hown2 hgrow2 xw
   have Je : Hid (App base w v xs ((qB s n).take (k + 1)) w2 (.slice (some ⟨g, 0, none⟩) (N + k + 1) cap)) := aa (by
    rw [yx.out]
    exact HA.out.trans ((App.alloc HA.out.1 _).pre HA2))
   clear hown hown2 hgrow2 xw HA HA2
   go_roundw
   case rel => exact ⟨k + 1, by omega, by go_num, Je⟩
   case measure => simp [intOf]; omega
  ·
   have HF : Hid (App base w v xs (qB s n) wr u0) := aa (by
    have h := HA.out
    rwa [show k = (qB s n).length by rw [jb Du.out]; omega, List.take_length] at h)
   have d1 : (s : Int) - 1 - (k : Int) < 0 := by omega
   clear HA
   go_wp2
   go_ret
   exact ⟨_, rfl, HF.out⟩
def tV (c : Ic) : Obj := .cells #[.int .i64 c.kind, .int .i64 c.n, .slice c.B c.nb c.cb, .slice c.L c.nl c.cl] 117
theorem gW (w : World) (c : Ic) : Four (w.alloc (tV c)) w.heap.size 0 c := by
 have h := heap_alloc_new w (tV c)
 exact ⟨au h 0, au h 1, au h 2, au h 3⟩
theorem Four.get {w : World} {b o : Nat} {c : Ic} (h : Four w b o c) : w.cell? ⟨b, o, none⟩ = some (.int .i64 c.kind) ∧ w.cell? ⟨b, o + 1, none⟩ = some (.int .i64 c.n) ∧ w.cell? ⟨b, o + 2, none⟩ = some (.slice c.B c.nb c.cb) ∧ w.cell? ⟨b, o + 3, none⟩ = some (.slice c.L c.nl c.cl) := h
def N9 (g : FuncId) (caps : Array Value) (l : List It) (f : Nat → Ic) (W : World) : Prop :=
 ∀ k, k < l.length → ∀ (w1 : World), Below W.heap.size W w1 → Calls Tryz.prog g (#[(f k).val] ++ caps) w1 fun e w' => e = .returned (.bool false) ∧ Below w1.heap.size w1 w'
theorem MB (c0 : Value) (A : Option Addr) (l : List It) (f : Nat → Ic) (n c : Nat) (hn : Hid (l.length = n)) (hbig : n ≤ 1000) (w : World)
  (hs : Hid (∀ k, k < l.length → ∃ b o, A = some ⟨b, o, none⟩ ∧ Four w b (o + k * 4) (f k))) (hp : Hid (N9 254 #[c0] l f w)) :
  Calls Tryz.prog 266 #[.slice A n c, .func (.func 254) #[] #[c0]] w (Rt w (.int .i64 (-1))) := by
 go_in
 go_wp2
 go_loopw [8] (fun i wr => ∃ k : Nat, k ≤ n ∧ i = .int .i64 k ∧ Hid (Below w.heap.size w wr)) (fun i _ => n - (intOf i).toNat)
 case atStart => exact ⟨0, by omega, rfl, aa (Below.refl _ _)⟩
 case round =>
  obtain ⟨k, hk, rfl, aF⟩ := hrel
  by_cases hlt : k < n
  ·
   have hkl : k < l.length := by rw [hn.out]; exact hlt
   obtain ⟨b, o, hA, h4⟩ := hs.out k hkl
   subst hA
   have uI := hp.out k hkl wr aF.out
   obtain ⟨ic, hic⟩ : ∃ x, f k = x := ⟨_, rfl⟩
   rw [hic] at h4 uI
   obtain ⟨kd, nn, B, nb, cb, L, nl, cl⟩ := ic
   obtain ⟨i0, i1, i2, i3⟩ := (h4.below aF.out).get
   have HC : Hid (Calls Tryz.prog 254 #[.agg #[.int .i64 kd, .int .i64 nn, .slice B nb cb, .slice L nl cl], c0] wr fun e w' => e = .returned (.bool false) ∧ Below wr.heap.size wr w') := aa uI
   clear h4 hkl hic uI
   go_wp2_with fail
   refine HC.out.mono ?_
   rintro e w2 ⟨rfl, hb0⟩
   have HB2 := aa (ag aF.out hb0)
   clear i0 i1 i2 i3 hb0 HC
   go_wp2
   go_roundw
   case rel => exact ⟨k + 1, by omega, by go_num, HB2⟩
   case measure => simp [intOf]; omega
  ·
   go_wp2
   go_ret
   exact ⟨rfl, aF.out⟩
theorem Qz (c0 : Value) (A : Option Addr) (l : List It) (f : Nat → Ic) (n c : Nat) (hn : Hid (l.length = n)) (hbig : n ≤ 1000) (w : World)
  (hs : Hid (∀ k, k < l.length → ∃ b o, A = some ⟨b, o, none⟩ ∧ Four w b (o + k * 4) (f k))) (hp : Hid (N9 254 #[c0] l f w)) :
  Calls Tryz.prog 253 #[.slice A n c, .func (.func 254) #[] #[c0]] w (Rt w (.bool false)) := by
 go_in
 go_wp2_with fail
 refine (MB c0 A l f n c hn hbig _ hs hp).mono ?_
 rintro e w' ⟨rfl, hb0⟩
 go_wp2
 go_ret
 exact ⟨rfl, hb0⟩
theorem Jp (d D : Nat) (hD0 : 1 ≤ D) (hD : D ≤ 8) (a : Nat) (l : List It) (f : Nat → Ic) (hl : Hid (∀ x ∈ l, fits d x)) (w : World) (hx : Hid (w.cell? ⟨a, 0, none⟩ = some (.int .i64 (D : Int)))) (hr : Hid (∀ k, k < l.length → nV w (l.getD k default) (f k)))
  (ih : ∀ (i : It) (c : Ic) (w : World), fits d i → nV w i c → Calls Tryz.prog 232 #[c.val, .int .i64 ((D - 1 : Nat) : Int)] w (Rt w (.bool true))) :
  N9 254 #[.pointer (some ⟨a, 0, none⟩)] l f w := fun k hk w1 hb => by
 have h1 := hl.out (l.getD k default) (by rw [List.getD_eq_getElem?_getD, List.getElem?_eq_getElem hk]; exact List.getElem_mem hk)
 have h2 := (hr.out k hk).kept hb
 obtain ⟨ic, hic⟩ : ∃ x, f k = x := ⟨_, rfl⟩
 rw [hic] at h2 ⊢
 obtain ⟨it, hit⟩ : ∃ x, l.getD k default = x := ⟨_, rfl⟩
 rw [hit] at h1 h2
 have hc0 := cell_below hx.out hb
 have Hy := aa (ih it ic ((w1.alloc (tV ic))) h1 (h2.kept (af _ _)))
 obtain ⟨kd, nn, B, nb, cb, L, nl, cl⟩ := ic
 show Calls Tryz.prog 254 #[.agg #[.int .i64 kd, .int .i64 nn, .slice B nb cb, .slice L nl cl], .pointer (some ⟨a, 0, none⟩)] w1 fun e w' => e = .returned (.bool false) ∧ Below w1.heap.size w1 w'
 have hc : (w1.alloc (.cells #[.int .i64 kd, .int .i64 nn, .slice B nb cb, .slice L nl cl] 117)).cell? ⟨a, 0, none⟩ = some (.int .i64 (D : Int)) := cell_below hc0 (af _ _)
 have e1 : IntKind.i64.wrap ((D : Int) - 1) = (D : Int) - 1 := IntWalk.i64_in _ (by omega)
 have HE : Hid (((D - 1 : Nat) : Int) = (D : Int) - 1) := aa (by omega)
 clear h1 h2 hic hit hb hc0
 go_in
 go_wp2_with fail
 rw [← HE.out]
 refine Hy.out.mono ?_
 rintro e w2 ⟨rfl, hb0⟩
 have hb1 := ag (af _ _) hb0
 clear hb0
 go_wp2
 go_ret
 exact ⟨rfl, hb1⟩
theorem yU (n : Int) (c : Ic) (w : World) (D : Nat) (h1 : c.kind = 1) (h3 : c.nb = 0) (h4 : c.nl = 0) : Calls Tryz.prog 232 #[c.val, .int .i64 (D : Int)] w (Rt w (.bool true)) := by
 obtain ⟨kd, nn, B, nb, cb, L, nl, cl⟩ := c
 dsimp only at h1 h3 h4
 subst h1; subst h3; subst h4
 show Calls Tryz.prog 232 #[.agg #[.int .i64 1, .int .i64 nn, .slice B 0 cb, .slice L 0 cl], .int .i64 (D : Int)] w (Rt w (.bool true))
 go_in
 go_wp2
 go_ret
 exact ⟨rfl, aJ (Below.refl _ _)⟩
theorem yV (c : Ic) (w : World) (D : Nat) (h1 : c.kind = 2) (h2 : c.n = 0) (h4 : c.nl = 0) : Calls Tryz.prog 232 #[c.val, .int .i64 (D : Int)] w (Rt w (.bool true)) := by
 obtain ⟨kd, nn, B, nb, cb, L, nl, cl⟩ := c
 dsimp only at h1 h2 h4
 subst h1; subst h2; subst h4
 show Calls Tryz.prog 232 #[.agg #[.int .i64 2, .int .i64 0, .slice B nb cb, .slice L 0 cl], .int .i64 (D : Int)] w (Rt w (.bool true))
 go_in
 go_wp2
 go_ret
 exact ⟨rfl, aJ (Below.refl _ _)⟩
theorem FH : ∀ (d D : Nat), d ≤ D → D ≤ 8 → ∀ (i : It) (c : Ic) (w : World), fits d i → nV w i c → Calls Tryz.prog 232 #[c.val, .int .i64 (D : Int)] w (Rt w (.bool true)) := by
 intro d
 induction d with
 | zero =>
  intro D hdD hD i c w hf hr
  cases hr with
  | int n c h1 h2 h3 h4 => exact yU n c w D h1 h3 h4
  | byt b c h1 h2 h3 h4 h5 => exact yV c w D h1 h2 h4
  | lst l c h1 h2 h3 h4 f h5 h6 => exact absurd hf (by simp [fits])
 | succ d ih =>
  intro D hdD hD i c w hf hr
  cases hr with
  | int n c h1 h2 h3 h4 => exact yU n c w D h1 h3 h4
  | byt b c h1 h2 h3 h4 h5 => exact yV c w D h1 h2 h4
  | lst l c h1 h2 h3 h4 f h5 h6 =>
   obtain ⟨kd, nn, B, nb, cb, L, nl, cl⟩ := c
   dsimp only at h1 h2 h3 h4 h5
   subst h1; subst h2; subst h3; subst h4
   show Calls Tryz.prog 232 #[.agg #[.int .i64 3, .int .i64 0, .slice B 0 cb, .slice L l.length cl], .int .i64 (D : Int)] w (Rt w (.bool true))
   obtain ⟨W, hW⟩ : ∃ W, (w.alloc (tV ⟨3, 0, B, 0, cb, L, l.length, cl⟩)).alloc (.cells #[.int .i64 (D : Int)] 3) = W := ⟨_, rfl⟩
   have bT : Hid (Below w.heap.size w W) := aa (by rw [← hW]; exact aJ (Below.refl _ _))
   have hF : Four W w.heap.size 0 ⟨3, 0, B, 0, cb, L, l.length, cl⟩ := by rw [← hW]; exact (gW w _).below (af _ _)
   obtain ⟨i0, i1, i2, i3⟩ := hF.get
   have hd : W.cell? ⟨w.heap.size + 1, 0, none⟩ = some (.int .i64 (D : Int)) := by rw [← hW]; exact au (heap_alloc2_new _ _ _) 0
   have hll := hf.1
   have ZZ := aa (Qz (.pointer (some ⟨w.heap.size + 1, 0, none⟩)) L l f l.length cl (aa rfl) hll W (aa fun k hk => by obtain ⟨b, o, e, h⟩ := h5 k hk; exact ⟨b, o, e, h.below bT.out⟩)
    (aa (Jp d D (by omega) hD (w.heap.size + 1) l f (aa hf.2) W (aa hd) (aa fun k hk => (h6 k hk).kept bT.out) (ih (D - 1) (by omega) (by omega)))))
   obtain ⟨nl, hnl⟩ : ∃ x, l.length = x := ⟨_, rfl⟩
   rw [hnl] at i3 hll ZZ ⊢
   rw [hnl] at hW
   have HW : Hid ((w.alloc (.cells #[.int .i64 3, .int .i64 0, .slice B 0 cb, .slice L nl cl] 117)).alloc (.cells #[.int .i64 (D : Int)] 3) = W) := aa hW
   have d1 : decide ((nl : Int) ≤ 1000) = true := by simp; omega
   have d2 : decide ((0 : Int) < (D : Int)) = true := by simp; omega
   have d3 : (0 : Int) < (D : Int) := by omega
   clear hW hF hnl h5 h6 hf ih
   go_in
   go_wp2_with fail
   rw [HW.out]
   refine ZZ.out.mono ?_
   rintro e w2 ⟨rfl, hb0⟩
   have hb1 := ag bT.out hb0
   clear hb0
   go_wp2
   go_ret
   exact ⟨by simp, hb1⟩
theorem GJ (i : It) (c : Ic) (w : World) (hf : fits 8 i) (hr : nV w i c) : Calls Tryz.prog 208 #[c.val] w (Rt w (.bool true)) := by
 have Hy := aa (FH 8 8 (Nat.le_refl _) (Nat.le_refl _) i c (w.alloc (tV c)) hf (hr.kept (af _ _)))
 obtain ⟨kd, nn, B, nb, cb, L, nl, cl⟩ := c
 show Calls Tryz.prog 208 #[.agg #[.int .i64 kd, .int .i64 nn, .slice B nb cb, .slice L nl cl]] w (Rt w (.bool true))
 clear hf hr
 go_in
 go_wp2_with fail
 refine Hy.out.mono ?_
 rintro e w2 ⟨rfl, hb0⟩
 have hb1 := ag (af _ _) hb0
 clear hb0
 go_wp2
 go_ret
 exact ⟨rfl, hb1⟩
theorem AU (n : Int) (hn1 : -9223372036854775808 ≤ n) (hn2 : n < 9223372036854775808) (B : Option Addr) (cb : Nat) (L : Option Addr) (cl : Nat) (w : World) (base : Nat) (v : Value) (xs : List Int) (ho : Hid (aR .u8 5 w base v xs)) (hbase : base ≤ w.heap.size) (hlen : xs.length + 9 ≤ 16384) :
  Calls Tryz.prog 209 #[v, .agg #[.int .i64 1, .int .i64 n, .slice B 0 cb, .slice L 0 cl]] w (sD base v xs (enc (.int n)) w) := by
 obtain ⟨i0, hi, hz0, hz1, hz2⟩ := info_parts dS
 obtain ⟨A, cp, rfl, -, -, -⟩ := ho.out.sk
 obtain ⟨N, hN⟩ : ∃ n, xs.length = n := ⟨_, rfl⟩
 rw [hN] at hlen ho ⊢
 have HN := aa hN
 have hlt : (Value.slice A N cp).ownBlock ≠ some w.heap.size := fun e => by have := (ho.out.lt _ e).2; omega
 obtain ⟨W, hW⟩ : ∃ W, w.alloc (.cells #[.int .i64 1, .int .i64 n, .slice B 0 cb, .slice L 0 cl] 117) = W := ⟨_, rfl⟩
 have hF : Four W w.heap.size 0 ⟨1, n, B, 0, cb, L, 0, cl⟩ := by rw [← hW]; exact gW w ⟨1, n, B, 0, cb, L, 0, cl⟩
 have yR : Hid (App base w (.slice A N cp) xs [] W (.slice A N cp)) := aa (by rw [← hW]; exact App.alloc ho.out _)
 have hbW : base ≤ W.heap.size := by rw [← hW]; simp; omega
 have OC : Hid (W.heap.size = w.heap.size + 1) := aa (by rw [← hW]; simp)
 obtain ⟨c0, c1, c2, c3⟩ := hF.get
 have HC := aa hF
 have hown := yR.out.1.row (n := N) (by rw [List.append_nil, HN.out])
 rw [List.append_nil] at hown
 have HW := aa hW
 clear hN hF hW
 go_in
 go_upto_region 3 with (fail)
 rw [HW.out]
 go_upto_region 4 with (at_builtin; refine wpList_append_lies rfl _ _ 114 rfl base 5 i0 (.int .u8 0) 1 1 Tryz.underlying114 hi hz0 hz1 hz2 rfl (by decide) _ _ _ rfl (hown.alloc _) ⟨W.heap.size, 0, none⟩ 1 1 [.int .u8 1] rfl rfl (cell_one_new _ _ _) (ints_oneCell .u8 [1]) (by decide) (by unfold maxLen; omega) (by omega) (by simp; omega) _ rfl ?_; intro g cap w2 hown2 hgrow2 xw hlt2)
 have HA1 := App.of_lies (v := .slice A N cp) (xs := xs) (ys := [1]) HN.out rfl rfl hown2 hgrow2 xw
 have HA2 : Hid (App base w (.slice A N cp) xs [1] w2 (.slice (some ⟨g, 0, none⟩) (N + 1) cap)) := aa (yR.out.pre (((App.alloc (by have h := yR.out.1; rwa [List.append_nil] at h) _)).pre HA1))
 have hb2 : base ≤ w2.heap.size := Nat.le_trans hbase HA2.out.2.1.size
 have e0 := HA1.cell (cell_below c0 (af _ _)) hlt
 have e1 := HA1.cell (cell_below c1 (af _ _)) hlt
 have e2 := HA1.cell (cell_below c2 (af _ _)) hlt
 have e3 := HA1.cell (cell_below c3 (af _ _)) hlt
 rw [Nat.zero_add] at e1 e2 e3
 have hne2 : (Value.slice (some ⟨g, 0, none⟩) (N + 1) cap).ownBlock ≠ some w.heap.size := fun e => by
  rcases HA1.2.2 with e5 | e5
  · exact hlt (e5 ▸ e)
  · have h5 := e5 _ e; simp at h5; have := OC.out; omega
 clear c0 c1 c2 c3 hown hown2 hgrow2 xw HA1 HC HW
 go_wp2_with fail
 refine (rV base _ (xs ++ [1]) (N + 1) _ 8 (Or.inr rfl) (aa (by rw [List.length_append, HN.out]; rfl)) (by omega) _ (aa HA2.out.1) hb2).mono ?_
 rintro e w3 ⟨v3, rfl, J3⟩
 have HF : Hid (App base w (.slice A N cp) xs (enc (.int n)) w3 v3) := aa (HA2.out.trans J3)
 clear J3 HA2
 go_wp2
 go_ret
 exact ⟨_, rfl, HF.out⟩
theorem AV (l : List Int) (n : Nat) (hn : Hid (l.length = n)) (hn0 : 0 < n) (b o : Nat) (cb : Nat) (L : Option Addr) (cl : Nat) (w0 w : World) (base : Nat) (v : Value) (xs : List Int) (hs : Hid (Sk .u8 w0 (some ⟨b, o, none⟩) l)) (hw0 : Hid (Below w0.heap.size w0 w)) (P9 : w0.heap.size ≤ base) (ho : Hid (aR .u8 5 w base v xs)) (hbase : base ≤ w.heap.size) (hlen : xs.length + (n + 5) ≤ 16384) :
  Calls Tryz.prog 209 #[v, .agg #[.int .i64 2, .int .i64 0, .slice (some ⟨b, o, none⟩) n cb, .slice L 0 cl]] w (sD base v xs (enc (.byt l)) w) := by
 obtain ⟨i0, hi, hz0, hz1, hz2⟩ := info_parts dS
 obtain ⟨A, cp, rfl, -, -, -⟩ := ho.out.sk
 obtain ⟨N, hN⟩ : ∃ n, xs.length = n := ⟨_, rfl⟩
 rw [hN] at hlen ho ⊢
 have HN := aa hN
 have hlt : (Value.slice A N cp).ownBlock ≠ some w.heap.size := fun e => by have := (ho.out.lt _ e).2; omega
 obtain ⟨W, hW⟩ : ∃ W, w.alloc (.cells #[.int .i64 2, .int .i64 0, .slice (some ⟨b, o, none⟩) n cb, .slice L 0 cl] 117) = W := ⟨_, rfl⟩
 have hF : Four W w.heap.size 0 ⟨2, 0, some ⟨b, o, none⟩, n, cb, L, 0, cl⟩ := by rw [← hW]; exact gW w ⟨2, 0, some ⟨b, o, none⟩, n, cb, L, 0, cl⟩
 have yR : Hid (App base w (.slice A N cp) xs [] W (.slice A N cp)) := aa (by rw [← hW]; exact App.alloc ho.out _)
 have hbW : base ≤ W.heap.size := by rw [← hW]; simp; omega
 have OC : Hid (W.heap.size = w.heap.size + 1) := aa (by rw [← hW]; simp)
 obtain ⟨c0, c1, c2, c3⟩ := hF.get
 have HC := aa hF
 have hown := yR.out.1.row (n := N) (by rw [List.append_nil, HN.out])
 rw [List.append_nil] at hown
 have HW := aa hW
 clear hN hF hW
 go_in
 go_upto_region 3 with (fail)
 rw [HW.out]
 go_upto_region 4 with (at_builtin; refine wpList_append_lies rfl _ _ 114 rfl base 5 i0 (.int .u8 0) 1 1 Tryz.underlying114 hi hz0 hz1 hz2 rfl (by decide) _ _ _ rfl (hown.alloc _) ⟨W.heap.size, 0, none⟩ 1 1 [.int .u8 2] rfl rfl (cell_one_new _ _ _) (ints_oneCell .u8 [2]) (by decide) (by unfold maxLen; omega) (by omega) (by simp; omega) _ rfl ?_; intro g cap w2 hown2 hgrow2 xw hlt2)
 have HA1 := App.of_lies (v := .slice A N cp) (xs := xs) (ys := [2]) HN.out rfl rfl hown2 hgrow2 xw
 have HA2 : Hid (App base w (.slice A N cp) xs [2] w2 (.slice (some ⟨g, 0, none⟩) (N + 1) cap)) := aa (yR.out.pre (((App.alloc (by have h := yR.out.1; rwa [List.append_nil] at h) _)).pre HA1))
 have hb2 : base ≤ w2.heap.size := Nat.le_trans hbase HA2.out.2.1.size
 have e0 := HA1.cell (cell_below c0 (af _ _)) hlt
 have e1 := HA1.cell (cell_below c1 (af _ _)) hlt
 have e2 := HA1.cell (cell_below c2 (af _ _)) hlt
 have e3 := HA1.cell (cell_below c3 (af _ _)) hlt
 rw [Nat.zero_add] at e1 e2 e3
 have hne2 : (Value.slice (some ⟨g, 0, none⟩) (N + 1) cap).ownBlock ≠ some w.heap.size := fun e => by
  rcases HA1.2.2 with e5 | e5
  · exact hlt (e5 ▸ e)
  · have h5 := e5 _ e; simp at h5; have := OC.out; omega
 clear c0 c1 c2 c3 hown hown2 hgrow2 xw HA1 HC HW
 have u1 : IntKind.u64.wrap (n : Int) = (n : Int) := by simp [IntKind.wrap, IntKind.bits, IntKind.signed]; omega
 go_wp2_with fail
 have HE2 := aa e2
 clear e0 e1 e2 e3
 refine bJ (S := fun w' => w'.cell? ⟨w.heap.size, 2, none⟩ = some (.slice (some ⟨b, o, none⟩) n cb)) (E := [8, 9]) (by kernel_rfl) (cell_below HE2.out (Below.refl _ _).drew) (fun hHeld => ?_)
 refine bQ 0 ?_
 refine bQ 1 ?_
 refine bQ 2 ?_
 refine bQ 3 ?_
 refine bQ 4 ?_
 refine bQ 6 ?_
 refine bQ 7 ?_
 refine bY 5 fun K hK => ?_
 go_simp
 refine (rV base _ (xs ++ [2]) (N + 1) n 4 (Or.inl rfl) (aa (by rw [List.length_append, HN.out]; rfl)) (by omega) _ (aa (HA2.out.1.keep (Below.refl _ _).drew)) hb2).mono ?_
 rintro e w3 ⟨v3, rfl, J3⟩
 have Je : Hid (App base w (.slice A N cp) xs (2 :: qB 4 n) w3 v3) := aa (HA2.out.trans ((App.calm HA2.out.1 (Below.refl _ _).drew).pre J3))
 have hsb := hs.out.below (Je.out.below ho.out hw0.out P9 hw0.out.size)
 have hb3 : base ≤ w3.heap.size := Nat.le_trans hbase Je.out.2.1.size
 have hl3 : (xs ++ 2 :: qB 4 (n : Int)).length = N + 1 + 4 := by rw [List.length_append, HN.out, List.length_cons, jb (Or.inl rfl)]
 have hrow3 := Je.out.1.row hl3
 refine hK.out _ _ ?_ (fun hHeld => ?_)
 · exact J3.cell (cell_below HE2.out (Below.refl _ _).drew) hne2
 clear hK K
 try simp only [qq]
 refine mR 8 fun K hK => ?_
 refine step_append_lies _ (by rfl) _ _ _ (by rfl) base 5 i0 _ 1 1 Tryz.underlying114 hi hz0 hz1 hz2 rfl (by omega) v3 (N + 1 + 4) ((xs ++ 2 :: qB 4 (n : Int)).map (.int .u8)) (by rfl) hrow3 ⟨b, o, none⟩ n cb (l.map (.int .u8)) (by rfl) (by simp [hn.out]) hsb.news (ints_oneCell .u8 _) hn0 (by unfold maxLen; omega) (by omega) hb3 w3.heap.size rfl ?_
 intro g4 cap4 w4 tY qo Xt aaK
 have Z5 := App.of_lies (v := v3) (xs := xs ++ 2 :: qB 4 (n : Int)) (ys := l) hl3 hn.out rfl tY qo Xt
 refine hK.out _ _ ?_
 clear hK K
 try simp only [qq]
 refine mR 9 fun K hK => ?_
 go_simp
 refine hK.out _ _ ?_
 clear hK K
 try simp only [qq]
 refine gH ?_
 have HF : Hid (App base w (.slice A N cp) xs (enc (.byt l)) w4 (.slice (some ⟨g4, 0, none⟩) (N + 1 + 4 + n) cap4)) := aa (by
  rw [iC, hn.out]
  exact Je.out.trans Z5)
 clear Z5 Je HA2 HE2
 go_wp2
 go_ret
 exact ⟨_, rfl, HF.out⟩
theorem Ji (l : List It) (n : Nat) (hn : Hid (l.length = n)) (hn1 : n ≤ 1000) (f : Nat → Ic) (B : Option Addr) (cb : Nat) (L : Option Addr) (cl : Nat) (w0 w : World) (base : Nat) (v : Value) (xs : List Int)
  (h5 : Hid (∀ k, k < l.length → ∃ b o, L = some ⟨b, o, none⟩ ∧ Four w0 b (o + k * 4) (f k))) (h6 : Hid (∀ k, k < l.length → nV w0 (l.getD k default) (f k))) (hw0 : Hid (Below w0.heap.size w0 w)) (P9 : w0.heap.size ≤ base) (ho : Hid (aR .u8 5 w base v xs)) (hbase : base ≤ w.heap.size)
  (hsm : Hid (xs.length + (enc (.lst l)).length ≤ 16384))
  (ih : ∀ (k : Nat), k < l.length → ∀ (w : World) (v : Value) (ys : List Int), Below w0.heap.size w0 w → aR .u8 5 w base v ys → base ≤ w.heap.size → ys.length + (enc (l.getD k default)).length ≤ 16384 → Calls Tryz.prog 209 #[v, (f k).val] w (sD base v ys (enc (l.getD k default)) w)) :
  Calls Tryz.prog 209 #[v, .agg #[.int .i64 3, .int .i64 0, .slice B 0 cb, .slice L n cl]] w (sD base v xs (enc (.lst l)) w) := by
 have hlen : xs.length + 5 ≤ 16384 := by have h := hsm.out; rw [fA, List.length_cons, List.length_append, dY] at h; omega
 have Hy := aa ih
 clear ih
 obtain ⟨i0, hi, hz0, hz1, hz2⟩ := info_parts dS
 obtain ⟨A, cp, rfl, -, -, -⟩ := ho.out.sk
 obtain ⟨N, hN⟩ : ∃ n, xs.length = n := ⟨_, rfl⟩
 rw [hN] at hlen ho ⊢
 have HN := aa hN
 have hlt : (Value.slice A N cp).ownBlock ≠ some w.heap.size := fun e => by have := (ho.out.lt _ e).2; omega
 obtain ⟨W, hW⟩ : ∃ W, w.alloc (.cells #[.int .i64 3, .int .i64 0, .slice B 0 cb, .slice L n cl] 117) = W := ⟨_, rfl⟩
 have hF : Four W w.heap.size 0 ⟨3, 0, B, 0, cb, L, n, cl⟩ := by rw [← hW]; exact gW w ⟨3, 0, B, 0, cb, L, n, cl⟩
 have yR : Hid (App base w (.slice A N cp) xs [] W (.slice A N cp)) := aa (by rw [← hW]; exact App.alloc ho.out _)
 have hbW : base ≤ W.heap.size := by rw [← hW]; simp; omega
 have OC : Hid (W.heap.size = w.heap.size + 1) := aa (by rw [← hW]; simp)
 obtain ⟨c0, c1, c2, c3⟩ := hF.get
 have HC := aa hF
 have hown := yR.out.1.row (n := N) (by rw [List.append_nil, HN.out])
 rw [List.append_nil] at hown
 have HW := aa hW
 clear hN hF hW
 go_in
 go_upto_region 3 with (fail)
 rw [HW.out]
 go_upto_region 4 with (at_builtin; refine wpList_append_lies rfl _ _ 114 rfl base 5 i0 (.int .u8 0) 1 1 Tryz.underlying114 hi hz0 hz1 hz2 rfl (by decide) _ _ _ rfl (hown.alloc _) ⟨W.heap.size, 0, none⟩ 1 1 [.int .u8 3] rfl rfl (cell_one_new _ _ _) (ints_oneCell .u8 [3]) (by decide) (by unfold maxLen; omega) (by omega) (by simp; omega) _ rfl ?_; intro g cap w2 hown2 hgrow2 xw hlt2)
 have HA1 := App.of_lies (v := .slice A N cp) (xs := xs) (ys := [3]) HN.out rfl rfl hown2 hgrow2 xw
 have HA2 : Hid (App base w (.slice A N cp) xs [3] w2 (.slice (some ⟨g, 0, none⟩) (N + 1) cap)) := aa (yR.out.pre (((App.alloc (by have h := yR.out.1; rwa [List.append_nil] at h) _)).pre HA1))
 have hb2 : base ≤ w2.heap.size := Nat.le_trans hbase HA2.out.2.1.size
 have e0 := HA1.cell (cell_below c0 (af _ _)) hlt
 have e1 := HA1.cell (cell_below c1 (af _ _)) hlt
 have e2 := HA1.cell (cell_below c2 (af _ _)) hlt
 have e3 := HA1.cell (cell_below c3 (af _ _)) hlt
 rw [Nat.zero_add] at e1 e2 e3
 have hne2 : (Value.slice (some ⟨g, 0, none⟩) (N + 1) cap).ownBlock ≠ some w.heap.size := fun e => by
  rcases HA1.2.2 with e5 | e5
  · exact hlt (e5 ▸ e)
  · have h5 := e5 _ e; simp at h5; have := OC.out; omega
 clear c0 c1 c2 c3 hown hown2 hgrow2 xw HA1 HC HW
 have u1 : IntKind.u64.wrap (n : Int) = (n : Int) := by simp [IntKind.wrap, IntKind.bits, IntKind.signed]; omega
 go_wp2_with fail
 refine (rV base _ (xs ++ [3]) (N + 1) n 4 (Or.inl rfl) (aa (by rw [List.length_append, HN.out]; rfl)) (by omega) _ (aa HA2.out.1) hb2).mono ?_
 rintro e w3 ⟨v3, rfl, J3⟩
 have f3 := J3.cell e3 hne2
 have Je : Hid (App base w (.slice A N cp) xs (3 :: qB 4 n) w3 v3) := aa (HA2.out.trans J3)
 clear J3 HA2 e0 e1 e2 e3
 have Z5 : Hid (App base w (.slice A N cp) xs ((3 :: qB 4 n) ++ fG (l.take 0)) w3 v3) := aa (by rw [List.take_zero]; simpa [fG] using Je.out)
 clear Je
 go_wp2_with fail
 clear f3
 go_loopw [0, 46] (fun p i u => ∃ k : Nat, k ≤ n ∧ i = .int .i64 k ∧ Hid (App base w (.slice A N cp) xs ((3 :: qB 4 n) ++ fG (l.take k)) u p)) (fun _ i _ => n - (intOf i).toNat)
 case atStart => exact ⟨0, by omega, rfl, Z5⟩
 case round =>
  obtain ⟨k, hk, rfl, HA⟩ := hrel
  by_cases hlk : k < n
  ·
   have hkl : k < l.length := by rw [hn.out]; exact hlk
   obtain ⟨b, o, hL, h4⟩ := h5.out k hkl
   subst hL
   have hbw := HA.out.below ho.out hw0.out P9 hw0.out.size
   have hle : (xs ++ ((3 :: qB 4 (n : Int)) ++ fG (l.take k))).length + (enc (l.getD k default)).length ≤ 16384 := by
    have h := hsm.out
    have t1 := pK hkl
    have t2 := qw (l := l) (k := k + 1)
    rw [t1, List.length_append] at t2
    rw [fA, List.length_cons, List.length_append, dY] at h
    rw [List.length_append, List.length_append, List.length_cons, jb (Or.inl rfl)]
    omega
   have hbs : base ≤ wr.heap.size := Nat.le_trans hbase HA.out.2.1.size
   have hstep := pK hkl
   obtain ⟨ic, hic⟩ : ∃ x, f k = x := ⟨_, rfl⟩
   obtain ⟨kd, nn, B', nb, cb', L', nl, cl'⟩ := ic
   obtain ⟨WX, Zy⟩ : ∃ u, wr.alloc (.cells #[.int .i64 kd, .int .i64 nn, .slice B' nb cb', .slice L' nl cl'] 117) = u := ⟨_, rfl⟩
   have Z4 : Hid (App base w (.slice A N cp) xs ((3 :: qB 4 n) ++ fG (l.take k)) WX u0) := aa (by
    have h := HA.out.trans (App.alloc HA.out.1 (.cells #[.int .i64 kd, .int .i64 nn, .slice B' nb cb', .slice L' nl cl'] 117))
    rw [List.append_nil] at h
    rwa [← Zy])
   have Xp : Below w0.heap.size w0 WX := Z4.out.below ho.out hw0.out P9 hw0.out.size
   have aaR : base ≤ WX.heap.size := by rw [← Zy]; simp; omega
   have uI := Hy.out k hkl WX u0 _ Xp Z4.out.1 aaR hle
   rw [hic] at h4 uI
   have HC : Hid (Calls Tryz.prog 209 #[u0, .agg #[.int .i64 kd, .int .i64 nn, .slice B' nb cb', .slice L' nl cl']] WX (sD base u0 (xs ++ ((3 :: qB 4 (n : Int)) ++ fG (l.take k))) (enc (l.getD k default)) WX)) := aa uI
   obtain ⟨W_, W9, WZ, WY⟩ := (h4.below hbw).get
   obtain ⟨et, het⟩ : ∃ x, enc (l.getD k default) = x := ⟨_, rfl⟩
   rw [het] at HC hstep
   have HST := aa hstep
   have HWX := aa Zy
   clear hkl h4 hbw hle hstep hic Zy Xp uI het HA
   go_wp2_with fail
   rw [HWX.out]
   refine HC.out.mono ?_
   rintro e w5 ⟨v5, rfl, ha5⟩
   have HA6 : Hid (App base w (.slice A N cp) xs ((3 :: qB 4 n) ++ fG (l.take (k + 1))) w5 v5) := aa (by
    rw [HST.out, ← List.append_assoc]
    exact Z4.out.trans ha5)
   clear ha5 HC Z4 W_ W9 WZ WY HWX
   go_wp2
   go_roundw
   case rel => exact ⟨k + 1, by omega, by go_num, HA6⟩
   case measure => simp [intOf]; omega
  ·
   have HF : Hid (App base w (.slice A N cp) xs (enc (.lst l)) wr u0) := aa (by
    have h := HA.out
    rw [show k = l.length by rw [hn.out]; omega, List.take_length] at h
    rw [fA, hn.out]
    exact h)
   clear HA
   go_wp2
   go_ret
   exact ⟨_, rfl, HF.out⟩
theorem Jj : ∀ (d : Nat) (i : It) (c : Ic) (w0 w : World) (base : Nat) (v : Value) (xs : List Int), fits d i → nV w0 i c → Below w0.heap.size w0 w → w0.heap.size ≤ base → aR .u8 5 w base v xs → base ≤ w.heap.size → xs.length + (enc i).length ≤ 16384 →
  Calls Tryz.prog 209 #[v, c.val] w (sD base v xs (enc i) w) := by
 intro d
 induction d with
 | zero =>
  intro i c w0 w base v xs hf hr hw hwb ho hb hl
  obtain ⟨kd, nn, B, nb, cb, L, nl, cl⟩ := c
  cases hr with
  | int n _ h1 h2 h3 h4 =>
   dsimp only at h1 h2 h3 h4
   subst h1; subst h2; subst h3; subst h4
   exact AU nn hf.1 hf.2 B cb L cl w base v xs (aa ho) hb hl
  | byt b _ h1 h2 h3 h4 h5 =>
   dsimp only at h1 h2 h3 h4 h5
   subst h1; subst h2; subst h4; subst h3
   obtain ⟨b', o', rfl, _⟩ := h5.at0 hf.1.1
   rw [iC, List.length_cons, List.length_append, dY] at hl
   exact AV b b.length (aa rfl) hf.1.1 b' o' cb L cl w0 w base v xs (aa h5) (aa hw) hwb (aa ho) hb (by omega)
  | lst l _ h1 h2 h3 h4 f h5 h6 => exact absurd hf (by simp [fits])
 | succ d ih =>
  intro i c w0 w base v xs hf hr hw hwb ho hb hl
  obtain ⟨kd, nn, B, nb, cb, L, nl, cl⟩ := c
  cases hr with
  | int n _ h1 h2 h3 h4 =>
   dsimp only at h1 h2 h3 h4
   subst h1; subst h2; subst h3; subst h4
   exact AU nn hf.1 hf.2 B cb L cl w base v xs (aa ho) hb hl
  | byt b _ h1 h2 h3 h4 h5 =>
   dsimp only at h1 h2 h3 h4 h5
   subst h1; subst h2; subst h4; subst h3
   obtain ⟨b', o', rfl, _⟩ := h5.at0 hf.1.1
   rw [iC, List.length_cons, List.length_append, dY] at hl
   exact AV b b.length (aa rfl) hf.1.1 b' o' cb L cl w0 w base v xs (aa h5) (aa hw) hwb (aa ho) hb (by omega)
  | lst l _ h1 h2 h3 h4 f h5 h6 =>
   dsimp only at h1 h2 h3 h4 h5
   subst h1; subst h2; subst h3; subst h4
   refine Ji l l.length (aa rfl) hf.1 f B cb L cl w0 w base v xs (aa h5) (aa h6) (aa hw) hwb (aa ho) hb (aa hl) ?_
   intro k hk w' v' ys hw' ho' hb' hl'
   exact ih _ (f k) w0 w' base v' ys (hf.2 _ (by rw [List.getD_eq_getElem?_getD, List.getElem?_eq_getElem hk]; exact List.getElem_mem hk)) (h6 k hk) hw' hwb ho' hb' hl'
def Sa (ys : List Int) (w : World) (e : Ending) (w' : World) : Prop := ∃ v, e = .returned (.tuple #[v, .int .i64 0]) ∧ aR .u8 5 w' w.heap.size v ys ∧ Below w.heap.size w w'
theorem uE (i : It) (c : Ic) (w : World) (hf : fits 8 i) (hr : nV w i c) (hl : (enc i).length ≤ 16384) :
  Calls Tryz.prog 177 #[c.val] w (Sa (enc i) w) := by
 have HV := aa (GJ i c (w.alloc (tV c)) hf (hr.kept (af _ _)))
 have hF := gW w c
 have HE : Hid (∀ u, Below (w.alloc (tV c)).heap.size (w.alloc (tV c)) u → Calls Tryz.prog 209 #[.slice none 0 0, c.val] u (sD u.heap.size (.slice none 0 0) [] (enc i) u)) := aa (fun u hu =>
  Jj 8 i c w u u.heap.size (.slice none 0 0) [] hf hr (ag (af _ _) hu) (by have := hu.size; simp at this; omega) (rJ _ _) (Nat.le_refl _) (by simpa using hl))
 obtain ⟨ys, hys⟩ : ∃ ys, enc i = ys := ⟨_, rfl⟩
 rw [hys] at HE hl ⊢
 obtain ⟨kd, nn, B, nb, cb, L, nl, cl⟩ := c
 obtain ⟨W, hW⟩ : ∃ W, w.alloc (tV ⟨kd, nn, B, nb, cb, L, nl, cl⟩) = W := ⟨_, rfl⟩
 rw [hW] at HV HE hF
 have bT : Hid (Below w.heap.size w W) := aa (by rw [← hW]; exact af _ _)
 have HF := aa hF
 have HW : Hid (w.alloc (.cells #[.int .i64 kd, .int .i64 nn, .slice B nb cb, .slice L nl cl] 117) = W) := aa hW
 show Calls Tryz.prog 177 #[.agg #[.int .i64 kd, .int .i64 nn, .slice B nb cb, .slice L nl cl]] w (Sa ys w)
 obtain ⟨c0, c1, c2, c3⟩ := hF.get
 clear hf hr hys hW hF
 go_in
 go_wp2_with fail
 rw [HW.out]
 refine HV.out.mono ?_
 rintro e w2 ⟨rfl, hb0⟩
 obtain ⟨d0, d1, d2, d3⟩ := (HF.out.below hb0).get
 have HE2 := aa (HE.out w2 hb0)
 have HB2 := aa (ag bT.out hb0)
 clear c0 c1 c2 c3 hb0 HE HV HW
 go_wp2_with fail
 refine HE2.out.mono ?_
 rintro e w3 ⟨v3, rfl, J3⟩
 have pR : Hid (aR .u8 5 w3 w2.heap.size v3 ys) := aa (by have h := J3.1; rwa [List.nil_append] at h)
 have HB3 : Hid (Below w.heap.size w w3) := aa (J3.below (B := w.heap.size) (rJ _ _) HB2.out HB2.out.size HB2.out.size)
 have hz : w.heap.size ≤ w2.heap.size := HB2.out.size
 clear J3 HE2 d0 d1 d2 d3
 obtain ⟨A, cp, rfl, -, -, -⟩ := pR.out.sk
 obtain ⟨N, hN⟩ : ∃ n, ys.length = n := ⟨_, rfl⟩
 rw [hN] at hl pR ⊢
 clear hN
 have t1 : ¬ 16384 < N := by omega
 go_wp2
 go_ret2
 exact ⟨_, rfl, pR.out.mono hz, HB3.out⟩
def aT (c : Ic) : List Value := [.int .i64 c.kind, .int .i64 c.n, .slice c.B c.nb c.cb, .slice c.L c.nl c.cl]
theorem jl : (Tryz.prog.info? 117).map (fun i => (i.zero, i.size, i.bytes)) = some (some (.agg #[.int .i64 0, .int .i64 0, .slice none 0 0, .slice none 0 0]), 4, 64) := by kernel_rfl
theorem iQ (w : World) (a j : Nat) (v : Value) : w.grownBy (w.setCell ⟨a, j, none⟩ v) (some a) :=
 ⟨rfl, rfl, rfl, by simp [World.setCell], fun k hk hne => by
  have : a ≠ k := fun e => hne (by rw [e])
  simp [World.setCell, Array.getElem?_modify, this]⟩
theorem aO {w w1 : World} {row : Option Nat} {p : Addr} {v : Value} (h : Own w p v) (hg : w.grownBy w1 row) (hne : row ≠ some p.block) : Own w1 p v := by
 have hlt := World.block_lt_of_cell? _ _ h.1
 exact ⟨by rw [hg.cell_far _ hlt (Ne.symm hne)]; exact h.1, by rw [hg.frozen_far _ hlt (Ne.symm hne)]; exact h.2⟩
theorem ak {w : World} {p q : Addr} {v u : Value} (h : Own w p v) (hne : q ≠ p) : Own (w.setCell q u) p v :=
 ⟨by rw [World.cell?_setCell_other _ _ _ _ hne]; exact h.1, by rw [World.frozen?_setCell]; exact h.2⟩
theorem bu {w : World} {p : Addr} {v u : Value} (h : Own w p v) : Own (w.setCell p u) p u :=
 ⟨World.cell?_setCell_same _ _ _ h.1, by rw [World.frozen?_setCell]; exact h.2⟩
theorem aD {P : Program} {fn : Func} {p : Tmp} {ty : TypeId} (h : fn.results = #[.cell p ty]) (tmps : Array Value) (w : World) (a : Addr) (v : Value)
  (hp : tmps.getD p undef = .pointer (some a)) (hl : (loadVar ty a).run P w = .ok v w) : (results fn tmps).run P w = .ok v w := by
 have hp' : tmps[p]?.getD undef = .pointer (some a) := by simpa using hp
 simp [results, h, hp', asAddr, hl]
def dO (w : World) (base : Nat) (v : Value) (cs : List Ic) : Prop := w.ownsRow base 117 4 v cs.length (cs.flatMap aT)
instance ac6 : Inhabited Ic := ⟨⟨0, 0, none, 0, 0, none, 0, 0⟩⟩
theorem Nz (cs : List Ic) (k r : Nat) (hr : r < 4) (hk : k < cs.length) : (cs.flatMap aT)[k * 4 + r]? = (aT (cs.getD k default))[r]? := by
 induction cs generalizing k with
 | nil => simp at hk
 | cons c cs ih =>
  cases k with
  | zero =>
   rw [List.flatMap_cons, Nat.zero_mul, Nat.zero_add, List.getElem?_append_left (by simpa [aT] using hr)]
   rfl
  | succ k =>
   rw [List.flatMap_cons, List.getElem?_append_right (by simp [aT]; omega)]
   rw [show (k + 1) * 4 + r - (aT c).length = k * 4 + r by simp [aT]; omega]
   rw [ih k (by simpa using hk)]
   rfl
theorem dO.four {w : World} {base : Nat} {v : Value} {cs : List Ic} (h : dO w base v cs) (h0 : 0 < cs.length) : ∃ g cap, v = .slice (some ⟨g, 0, none⟩) cs.length cap ∧ base ≤ g ∧ cs.length ≤ cap ∧ ∀ k, k < cs.length → Four w g (0 + k * 4) (cs.getD k default) := by
 obtain ⟨h1, h2⟩ := h
 rcases h2 with ⟨_, h3⟩ | ⟨g, cap, cur, rfl, hg, hh, hn, hc, hs, ht⟩
 · omega
 ·
  refine ⟨g, cap, rfl, hg, hn, fun k hk => ?_⟩
  have key : ∀ r, r < 4 → w.cell? ⟨g, k * 4 + r, none⟩ = (aT (cs.getD k default))[r]? := fun r hr => by
   rw [au hh, ← Array.getElem?_toList, ← Nz cs k r hr hk, ← ht, List.getElem?_take_of_lt (by omega)]
  rw [Nat.zero_add]
  exact ⟨key 0 (by omega), key 1 (by omega), key 2 (by omega), key 3 (by omega)⟩
theorem rM (w : World) (base : Nat) : dO w base (.slice none 0 0) [] := World.ownsRow_nil _ _ _ _
theorem dO.len {w : World} {base : Nat} {v : Value} {cs : List Ic} (h : dO w base v cs) : ∃ A cap, v = .slice A cs.length cap := by
 by_cases h0 : 0 < cs.length
 ·
  obtain ⟨g, cap, e, _⟩ := h.four h0
  exact ⟨_, cap, e⟩
 ·
  obtain ⟨_, h2⟩ := h
  rcases h2 with ⟨hv, _⟩ | ⟨g, cap, cur, hv, _⟩
  · exact ⟨none, 0, by rw [hv]; congr 1; omega⟩
  · exact ⟨_, cap, hv⟩
theorem dO.keep {w w' : World} {B : Nat} {v : Value} {xs : List Ic} (h : dO w B v xs) (hb : Below w.heap.size w w') : dO w' B v xs := by
 obtain ⟨h1, h2⟩ := h
 refine ⟨h1, h2.imp id ?_⟩
 rintro ⟨g, cap, cur, rfl, hg, hh, rest⟩
 exact ⟨g, cap, cur, rfl, hg, (hb.block g (Array.getElem?_eq_some_iff.1 hh).1).trans hh, rest⟩
theorem dO.app {w1 : World} {base k : Nat} {v' : Value} {xs : List Ic} {c : Ic} (hk : k = xs.length)
  (h : w1.ownsRow base 117 4 v' (k + 1) (xs.flatMap aT ++ aT c)) : dO w1 base v' (xs ++ [c]) := by
 unfold dO
 rw [List.length_append, List.flatMap_append, List.length_singleton, ← hk]
 simpa using h
theorem dO.no {w : World} {base a : Nat} {v : Value} {cs : List Ic} (h : dO w base v cs) (ha : a < base) : v.ownBlock ≠ some a := fun e => by
 have := (World.ownsRow.lt h _ e).1
 omega
theorem dO.set {w : World} {base a j : Nat} {v u : Value} {cs : List Ic} (h : dO w base v cs) (ha : a < base) : dO (w.setCell ⟨a, j, none⟩ u) base v cs :=
 World.ownsRow.kept h (iQ w a j u) (Or.inr (h.no ha))
def aM (n : Int) : Ic := ⟨1, n, none, 0, 0, none, 0, 0⟩
theorem uD {l : List Int} {k : Nat} (hk : k < l.length) : (l.take (k + 1)).map aM = (l.take k).map aM ++ [aM (l.getD k 0)] := by
 rw [take_one hk, List.map_append]; rfl
def E5 (i : It) (w : World) (e : Ending) (w' : World) : Prop := ∃ c : Ic, e = .returned c.val ∧ nV w' i c ∧ Below w.heap.size w w'
theorem Er {w : World} {base : Nat} {v : Value} {l : List Int} (h : dO w base v (l.map aM)) : ∃ L cl, v = .slice L l.length cl ∧ nV w (.lst (l.map .int)) ⟨3, 0, none, 0, 0, L, l.length, cl⟩ := by
 by_cases h0 : 0 < l.length
 ·
  obtain ⟨g, cap, e, _, _, hf⟩ := h.four (by rw [List.length_map]; exact h0)
  rw [List.length_map] at e hf
  refine ⟨_, cap, e, .lst _ _ rfl rfl rfl (by rw [List.length_map]) (fun k => aM (l.getD k 0)) (fun k hk => ⟨g, 0, rfl, ?_⟩) (fun k hk => ?_)⟩
  ·
   rw [List.length_map] at hk
   have := hf k hk
   have e2 : (l.map aM).getD k default = aM (l.getD k 0) := by
    simp [List.getD_eq_getElem?_getD, List.getElem?_eq_getElem hk]
   rwa [e2] at this
  ·
   rw [List.length_map] at hk
   have e2 : (l.map It.int).getD k default = It.int (l.getD k 0) := by
    simp [List.getD_eq_getElem?_getD, List.getElem?_eq_getElem hk]
   rw [e2]
   exact .int _ _ rfl rfl rfl rfl
 ·
  have e : l = [] := List.eq_nil_of_length_eq_zero (by omega)
  subst e
  obtain ⟨L, cl, hv⟩ := h.len
  exact ⟨L, cl, hv, .lst [] _ rfl rfl rfl rfl (fun _ => default) (fun k hk => absurd hk (by simp)) (fun k hk => absurd hk (by simp))⟩
def qE (lo : Nat) (w : World) (i : It) (c : Ic) : Prop := ∀ w' : World, (∀ b, lo ≤ b → b < w.heap.size → w'.heap[b]? = w.heap[b]?) → nV w' i c
theorem qE.it {lo : Nat} {w : World} {i : It} {c : Ic} (h : qE lo w i c) : nV w i c := h w fun _ _ _ => rfl
theorem zu {w w' : World} {B : Nat} {v : Value} {cs : List Ic} (h : dO w B v cs) (hw : ∀ b, B ≤ b → b < w.heap.size → w'.heap[b]? = w.heap[b]?) : dO w' B v cs := by
 obtain ⟨h1, h2⟩ := h
 refine ⟨h1, h2.imp id ?_⟩
 rintro ⟨g, cap, cur, rfl, hg, hh, rest⟩
 exact ⟨g, cap, cur, rfl, hg, (hw g hg (Array.getElem?_eq_some_iff.1 hh).1).trans hh, rest⟩
def nO (i : It) (w : World) (e : Ending) (w' : World) : Prop := ∃ c : Ic, e = .returned c.val ∧ qE w.heap.size w' i c ∧ Below w.heap.size w w'
theorem nO.it {i : It} {w w' : World} {e : Ending} (h : nO i w e w') : E5 i w e w' := by
 obtain ⟨c, h1, h2, h3⟩ := h
 exact ⟨c, h1, h2.it, h3⟩
theorem Ep {w : World} {base lo : Nat} {L : Option Addr} {n cl : Nat} {l : List Int} (h : dO w base (.slice L n cl) (l.map aM)) (hlo : lo ≤ base) : qE lo w (.lst (l.map .int)) ⟨3, 0, none, 0, 0, L, l.length, cl⟩ := fun w' hw => by
 obtain ⟨L', cl', e, hr⟩ := Er (zu h fun b h1 h2 => hw b (by omega) h2)
 simp only [Value.slice.injEq] at e
 obtain ⟨rfl, _, rfl⟩ := e
 exact hr
theorem ku (A : Option Addr) (l : List Int) (n c : Nat) (hn : Hid (l.length = n)) (hbig : n ≤ 1000000) (w : World) (hs : Hid (Sl w A l)) :
  Calls Tryz.prog 179 #[.slice A n c] w (nO (.lst (l.map .int)) w) := by
 obtain ⟨i0, hi, hz0, hz1, hz2⟩ := info_parts jl
 obtain ⟨W, hW⟩ : ∃ W, (w.alloc (.cells #[.int .i64 0, .int .i64 0, .slice none 0 0, .slice none 0 0] 117)).alloc (.cells #[.int .i64 3, .int .i64 0, .slice none 0 0, .slice none 0 0] 117) = W := ⟨_, rfl⟩
 have bT : Hid (Below w.heap.size w W) := aa (by rw [← hW]; exact aJ (Below.refl _ _))
 have lu : Hid (W.heap.size = w.heap.size + 2) := aa (by rw [← hW]; simp)
 have hF : Four W (w.heap.size + 1) 0 ⟨3, 0, none, 0, 0, none, 0, 0⟩ := by
  rw [← hW]
  have h := heap_alloc2_new w (.cells #[.int .i64 0, .int .i64 0, .slice none 0 0, .slice none 0 0] 117) (.cells #[.int .i64 3, .int .i64 0, .slice none 0 0, .slice none 0 0] 117)
  exact ⟨au h 0, au h 1, au h 2, au h 3⟩
 have hf0 : ∀ j, W.frozen? ⟨w.heap.size + 1, j, none⟩ = false := by
  rw [← hW]
  exact fun j => av (heap_alloc2_new _ _ _) j
 have HG : Hid ((Four W w.heap.size 0 ⟨0, 0, none, 0, 0, none, 0, 0⟩) ∧ ∀ j, W.frozen? ⟨w.heap.size, j, none⟩ = false) := aa (by
  rw [← hW]
  have h := heap_alloc2_old w (.cells #[.int .i64 0, .int .i64 0, .slice none 0 0, .slice none 0 0] 117) (.cells #[.int .i64 3, .int .i64 0, .slice none 0 0, .slice none 0 0] 117)
  exact ⟨⟨au h 0, au h 1, au h 2, au h 3⟩, fun j => av h j⟩)
 have Kq : Hid (W.heap[w.heap.size]? = some (.cells #[.int .i64 0, .int .i64 0, .slice none 0 0, .slice none 0 0] 117 (0, 0))) := aa (by rw [← hW]; exact heap_alloc2_old w _ _)
 have HS := aa hs.out
 have HW := aa hW
 have HX : Hid (Own W ⟨w.heap.size + 1, 0, none⟩ (.int .i64 3) ∧ Own W ⟨w.heap.size + 1, 1, none⟩ (.int .i64 0) ∧ Own W ⟨w.heap.size + 1, 2, none⟩ (.slice none 0 0)) := aa ⟨⟨hF.1, hf0 0⟩, ⟨hF.2.1, hf0 1⟩, ⟨hF.2.2.1, hf0 2⟩⟩
 have HL : Hid (Own W ⟨w.heap.size + 1, 3, none⟩ (.slice none 0 0)) := aa ⟨hF.2.2.2, hf0 3⟩
 clear hW hs hF hf0
 go_in
 go_wp2
 rw [HW.out]
 go_loopw [9] (fun i u => ∃ (k : Nat) (v : Value), k ≤ n ∧ i = .int .i64 k ∧ Hid (Own u ⟨w.heap.size + 1, 3, none⟩ v) ∧ Hid (dO u (w.heap.size + 2) v ((l.take k).map aM)) ∧ Hid (Own u ⟨w.heap.size + 1, 0, none⟩ (.int .i64 3) ∧ Own u ⟨w.heap.size + 1, 1, none⟩ (.int .i64 0) ∧ Own u ⟨w.heap.size + 1, 2, none⟩ (.slice none 0 0)) ∧ Hid (Below (w.heap.size + 1) W u)) (fun i _ => n - (intOf i).toNat)
 case atStart => exact ⟨0, _, by omega, rfl, HL, aa (rM _ _), HX, aa (Below.refl _ _)⟩
 case round =>
  obtain ⟨k, v, hk, rfl, HV, HO, oI, aF⟩ := hrel
  by_cases hlt : k < n
  ·
   have hkl : k < l.length := by rw [hn.out]; exact hlt
   obtain ⟨b, o, hA, hc⟩ := (HS.out.below (bT.out.trans (aF.out.mono (Nat.le_succ _)))) k hkl
   subst hA
   have yx := aa (uD hkl)
   obtain ⟨x, hx⟩ : ∃ x, l.getD k 0 = x := ⟨_, rfl⟩
   rw [hx] at hc yx
   have ry : Hid (((l.take k).map aM).length = k) := aa (by rw [List.length_map, List.length_take]; omega)
   have hown : wr.ownsRow (w.heap.size + 2) 117 4 v k (((l.take k).map aM).flatMap aT) := by have h := HO.out; unfold dO at h; rwa [ry.out] at h
   have hbs : w.heap.size + 2 ≤ wr.heap.size := by have := aF.out.size; have := lu.out; omega
   have hno : v.ownBlock ≠ some (w.heap.size + 1) := HO.out.no (by omega)
   obtain ⟨v3, FJ⟩ := HV.out
   have HVA := aa (HV.out.below (af wr (.cells #[.int .i64 1, .int .i64 x, .slice none 0 0, .slice none 0 0] 117)))
   have b1 : k + 1 ≤ maxLen := by unfold maxLen; omega
   have b2 : (k + 1) * 64 ≤ 140737488355328 := by omega
   have b3 : w.heap.size + 2 ≤ (wr.alloc (.cells #[.int .i64 1, .int .i64 x, .slice none 0 0, .slice none 0 0] 117)).heap.size := by simp; omega
   clear hx hkl
   go_wp2_with (at_builtin; refine wpList_append_lies rfl _ _ 115 rfl (w.heap.size + 2) 117 i0 (.agg #[.int .i64 0, .int .i64 0, .slice none 0 0, .slice none 0 0]) 4 64 Tryz.underlying115 hi hz0 hz1 hz2 rfl (by decide) _ _ _ rfl (hown.alloc _) ⟨wr.heap.size, 0, none⟩ 1 1 [.int .i64 1, .int .i64 x, .slice none 0 0, .slice none 0 0] rfl rfl (World.news_of_block (cs := #[.int .i64 1, .int .i64 x, .slice none 0 0, .slice none 0 0]) (t := 117) (fr := (0, 0)) (heap_alloc_new wr _)) (by simp [Value.oneCell']) (by decide) b1 b2 b3 _ rfl ?_; intro g2 cap2 w2 hown2 hgrow2 xw hlt2; obtain ⟨q1, q2⟩ := aO HVA.out hgrow2 hno)
   obtain ⟨v', hv'⟩ : ∃ v', Value.slice (some ⟨g2, 0, none⟩) (k + 1) cap2 = v' := ⟨_, rfl⟩
   rw [hv'] at hown2
   have HVE := aa hv'
   clear hv' xw hlt2
   rw [HVE.out]
   have HB2 : Hid (Below (w.heap.size + 1) W w2) := aa ((aF.out.alloc (by omega) _).grown hgrow2 (by simp; omega) (fun j hj => by have := (World.ownsRow.lt hown j hj).1; omega))
   have uj : Hid (dO w2 (w.heap.size + 2) v' ((l.take (k + 1)).map aM)) := aa (by
    rw [yx.out]
    exact dO.app ry.out.symm hown2)
   have a0 := aO (oI.out.1.below (af wr (.cells #[.int .i64 1, .int .i64 x, .slice none 0 0, .slice none 0 0] 117))) hgrow2 hno
   have a1 := aO (oI.out.2.1.below (af wr (.cells #[.int .i64 1, .int .i64 x, .slice none 0 0, .slice none 0 0] 117))) hgrow2 hno
   have a2 := aO (oI.out.2.2.below (af wr (.cells #[.int .i64 1, .int .i64 x, .slice none 0 0, .slice none 0 0] 117))) hgrow2 hno
   have uG : Hid (Own (w2.setCell ⟨w.heap.size + 1, 3, none⟩ v') ⟨w.heap.size + 1, 3, none⟩ v') := aa (bu ⟨q1, q2⟩)
   have yO : Hid (dO (w2.setCell ⟨w.heap.size + 1, 3, none⟩ v') (w.heap.size + 2) v' ((l.take (k + 1)).map aM)) := aa (uj.out.set (by omega))
   have QM : Hid (Own (w2.setCell ⟨w.heap.size + 1, 3, none⟩ v') ⟨w.heap.size + 1, 0, none⟩ (.int .i64 3) ∧ Own (w2.setCell ⟨w.heap.size + 1, 3, none⟩ v') ⟨w.heap.size + 1, 1, none⟩ (.int .i64 0) ∧ Own (w2.setCell ⟨w.heap.size + 1, 3, none⟩ v') ⟨w.heap.size + 1, 2, none⟩ (.slice none 0 0)) :=
    aa ⟨ak a0 (by simp), ak a1 (by simp), ak a2 (by simp)⟩
   have kL : Hid (Below (w.heap.size + 1) W (w2.setCell ⟨w.heap.size + 1, 3, none⟩ v')) := aa (HB2.out.setCell (Nat.le_refl _) _)
   clear b1 b2 b3 hown hown2 hgrow2 HO oI HV v3 FJ q1 q2 a0 a1 a2 HB2 uj HVA hc
   go_roundw
   case rel => exact ⟨k + 1, v', by omega, by go_num, uG, yO, QM, kL⟩
   case measure => simp [intOf]; omega
  ·
   have xC : Hid (dO wr (w.heap.size + 2) v (l.map aM)) := aa (by
    have h := HO.out
    rwa [List.take_of_length_le (by have := hn.out; omega)] at h)
   obtain ⟨L, cl, RG⟩ := xC.out.len
   rw [List.length_map, hn.out] at RG
   subst RG
   obtain ⟨p0, p0f⟩ := oI.out.1
   obtain ⟨p1, p1f⟩ := oI.out.2.1
   obtain ⟨p2, p2f⟩ := oI.out.2.2
   obtain ⟨p3, p3f⟩ := HV.out
   have Y5 := HG.out
   have r0 := (aF.out.cell (p := ⟨w.heap.size, 0, none⟩) (Nat.lt_succ_self _)).trans HG.out.1.1
   have r1 := (aF.out.cell (p := ⟨w.heap.size, 1, none⟩) (Nat.lt_succ_self _)).trans HG.out.1.2.1
   have r2 := (aF.out.cell (p := ⟨w.heap.size, 2, none⟩) (Nat.lt_succ_self _)).trans HG.out.1.2.2.1
   have r3 := (aF.out.cell (p := ⟨w.heap.size, 3, none⟩) (Nat.lt_succ_self _)).trans HG.out.1.2.2.2
   have z0 := (aF.out.frozen (p := ⟨w.heap.size, 0, none⟩) (Nat.lt_succ_self _)).trans (HG.out.2 0)
   have z1 := (aF.out.frozen (p := ⟨w.heap.size, 1, none⟩) (Nat.lt_succ_self _)).trans (HG.out.2 1)
   have z2 := (aF.out.frozen (p := ⟨w.heap.size, 2, none⟩) (Nat.lt_succ_self _)).trans (HG.out.2 2)
   have z3 := (aF.out.frozen (p := ⟨w.heap.size, 3, none⟩) (Nat.lt_succ_self _)).trans (HG.out.2 3)
   have vZ := aa (bT.out.trans (aF.out.mono (Nat.le_succ _)))
   clear oI HV HO Y5
   obtain ⟨WF, tC⟩ : ∃ u, (((wr.setCell ⟨w.heap.size, 0, none⟩ (.int .i64 3)).setCell ⟨w.heap.size, 1, none⟩ (.int .i64 0)).setCell ⟨w.heap.size, 2, none⟩ (.slice none 0 0)).setCell ⟨w.heap.size, 3, none⟩ (.slice L n cl) = u := ⟨_, rfl⟩
   have hgB : WF.heap[w.heap.size]? = some (.cells #[.int .i64 3, .int .i64 0, .slice none 0 0, .slice L n cl] 117 (0, 0)) := by
    have h0 := (aF.out.block w.heap.size (Nat.lt_succ_self _)).trans Kq.out
    rw [← tC, heap_setCell_same _ _ _ _ _ _ (heap_setCell_same _ _ _ _ _ _ (heap_setCell_same _ _ _ _ _ _ (heap_setCell_same _ _ _ _ _ _ h0)))]
    rfl
   have Dv : Hid (dO WF (w.heap.size + 2) (.slice L n cl) (l.map aM)) := aa (by
    rw [← tC]
    exact (((xC.out.set (by omega)).set (by omega)).set (by omega)).set (by omega))
   have fM : Hid (Below w.heap.size w WF) := aa (by
    rw [← tC]
    exact (((vZ.out.setCell (Nat.le_refl _) _).setCell (Nat.le_refl _) _).setCell (Nat.le_refl _) _).setCell (Nat.le_refl _) _)
   have zH := Ep (lo := w.heap.size) Dv.out (by omega)
   rw [hn.out] at zH
   have HIT := aa zH
   have Vn : Kp ((loadVar 117 ⟨w.heap.size, 0, none⟩).run Tryz.prog WF = .ok (.agg #[.int .i64 3, .int .i64 0, .slice none 0 0, .slice L n cl]) WF) := ⟨run_loadVar_row _ _ _ _ _ _ _ hgB Tryz.underlying117 rfl (by kernel_rfl)⟩
   have Ym := aa tC
   clear zH xC Dv hgB tC
   go_wp2
   rw [Ym.out]
   exact bodyPost_ret (v := .agg #[.int .i64 3, .int .i64 0, .slice none 0 0, .slice L n cl]) (aD (p := 2) (ty := 117) rfl _ _ ⟨w.heap.size, 0, none⟩ _ rfl Vn.out) rfl ⟨⟨3, 0, none, 0, 0, L, n, cl⟩, rfl, HIT.out, fM.out⟩
theorem Mx (A : Option Addr) (l : List Int) (n c : Nat) (hn : Hid (l.length = n)) (hbig : n ≤ 1000000) (w : World) (hs : Hid (Sl w A l)) :
  Calls Tryz.prog 179 #[.slice A n c] w (E5 (.lst (l.map .int)) w) :=
 (ku A l n c hn hbig w hs).mono (fun _ _ h => h.it)
end Go.Proofs.YtchcllcbknfikaaGreatDoor