/- Contracts and lemmas: TmP. -/
import Derived.Test.YtchcllcbknfikaaGreatDoorTa10
set_option linter.unusedVariables false
set_option linter.unusedSimpArgs false
set_option maxRecDepth 100000
set_option maxHeartbeats 25600000
namespace Go.Proofs.YtchcllcbknfikaaGreatDoor
open Go.RowKit si
theorem PU (A : Option Addr) (na ca : Nat) (C : Int) (Z : Option Addr) (nz cz : Nat) (w : World) :
  Calls Tryz.prog 23 #[iO A na ca C Z nz cz] w fun e' w' => ∃ b : Bool, e' = .returned (.bool b) ∧ (b = true → na ≤ 30 ∧ nz ≤ 30) ∧ Below w.heap.size w w' := by
 have HX := af w (fe A na ca C Z nz cz)
 by_cases h0 : na ≤ 30
 ·
  have d0 : decide ((na : Int) ≤ 30) = true := by simp; omega
  by_cases h1 : nz ≤ 30
  ·
   have d1 : decide ((nz : Int) ≤ 30) = true := by simp; omega
   go_in
   go_wp2
   go_ret
   exact ⟨_, rfl, fun _ => ⟨h0, h1⟩, HX⟩
  ·
   have d1 : decide ((nz : Int) ≤ 30) = false := by simp; omega
   go_in
   go_wp2
   go_ret
   exact ⟨false, by first | rfl | simp, fun h => Bool.noConfusion h, HX⟩
 ·
  have d0 : decide ((na : Int) ≤ 30) = false := by simp; omega
  go_in
  go_wp2
  go_ret
  exact ⟨false, by first | rfl | simp, fun h => Bool.noConfusion h, HX⟩
theorem LX {o : az} (h : wV o = true) : jJ o.ps o.np = true := by
 simp only [wV, Bool.and_eq_true] at h
 exact h.2.2.2.2.2.2
theorem JC {P Q G need : Int} {cs ks h : List Int} {o : az} {p : aV} (hr : Ii P Q G need cs ks h o p = true) (hkn : ks.length ≤ 8) : (p.na ≤ 20 ∧ p.nz ≤ 20) ∧ 1 ≤ p.ix ∧ p.ix ≤ 8 := by
 unfold Ii DC at hr
 simp only [Bool.and_eq_true, uO, uB, decide_eq_true_eq] at hr
 exact ⟨hr.1, by omega, by omega⟩
theorem UY {P Q G need : Int} {cs ks h : List Int} {o : az} {p : aV} (hs : fH o) (ho : wV o = true) (hl : o.ps.length = o.np) (hf : qX o.ps p.ix o.np = true) (hr : Ii P Q G need cs ks h o p = true) (hkn : ks.length ≤ 8) (ha : p.al.length = p.na) (hz : p.zs.length = p.nz) : fH (tF o p) := by
 obtain ⟨⟨h1, h2⟩, h3, h4⟩ := JC hr hkn
 have h5 := JI (LX ho) hf h3 h4
 refine ⟨hs.a, hs.z, by show (o.ps ++ [p]).length ≤ 8; rw [List.length_append, hl]; exact h5, fun q hq => ?_, hs.r0, hs.r1⟩
 rcases List.mem_append.1 hq with e | e
 · exact hs.p q e
 ·
  obtain rfl : q = p := by simpa using e
  rw [ha, hz]; exact ⟨h1, h2⟩
theorem UZ {o : az} {p : aV} (hi : dJ o) (hp : ug p) : dJ (tF o p) := by
 obtain ⟨h1, h2, h3, h4, h5, h6, h7, h8⟩ := hi
 refine ⟨h1, h2, h3, h4, h5, h6, h7, fun q hq => ?_⟩
 rcases List.mem_append.1 hq with e | e
 · exact h8 q e
 ·
  obtain rfl : q = p := by simpa using e
  exact hp
theorem O0 (P Q G need : Int) (Cs : Option Addr) (cs : List Int) (cn cc : Nat) (Ks : Option Addr) (ks : List Int) (kn kc : Nat) (hcn : Hid (cs.length = cn)) (hkn : Hid (ks.length = kn)) (hQ : Q < 9223372036854775808) (O : Option Addr) (os : List az) (n c : Nat) (K : Option Addr) (hs : List (List Int)) (m d : Nat) (hn : Hid (os.length = n)) (hm : Hid (hs.length = m)) (hI : Hid (∀ k, k < n → dJ (bL os k))) (p : aV) (eu : Hid (p.al.length = p.na)) (hzn : Hid (p.zs.length = p.nz)) (hPI : ug p) (i : Int) (w : World) (hv : Hid (Vars w)) (hd0 : Hid (bz w)) (hC : Hid (Sl w Cs cs)) (hK : Hid (Sl w Ks ks)) (hO : Hid (Os w O os)) (hH : Hid (Hs w K hs)) (iI : Hid (Sl w p.A p.al)) (iH : Hid (Sl w p.Z p.zs)) :
  Calls Tryz.prog 5 #[gv P Q G, kN need Cs cn cc Ks kn kc, gI O n c K m d, .int .i64 i, Ae p] w (Rt w (.bool true)) := by
 obtain ⟨w0, HW, aj, kC⟩ := KA (bq P Q G) fE (.cells #[.int .i64 need, .slice Cs cn cc, .slice Ks kn kc] 26) fE (jh O n c K m d) rq (oh p) Ai w
 have kO := fq (fun u => Os u O os) aj hO (·.below)
 have kH := fq (fun u => Hs u K hs) aj hH (·.below)
 have kD := o6 aj hd0
 have jX := mkS aj hC
 have jW := mkS aj hK
 have kV := mkV aj hv
 have tQ := mkS aj iI
 have tO := mkS aj iH
 have ah := bP w0
 clear hC hK hd0 hv hH iI iH
 go_in
 go_upto_region 1 with (fail)
 rw [HW.out]
 have zc := kC.out _ ah
 go_wp2_with fail
 clear zc
 refine eH kC ah (vS _ (kD.out _ ah)) fun w1 ax zc => ?_
 go_wp2_with fail
 refine (J5 O os n c K m d hn _ (kO.out _ ax)).mono ?_
 rintro e w2 ⟨bf, rfl, hbf, hb0⟩
 have fM := aa hbf
 clear hbf
 have aK := bF ax hb0
 clear zc hb0
 have zc := kC.out _ aK
 cases bf with
 | false =>
  go_wp2_with fail
  clear zc
  refine eH kC aK (vS _ (kD.out _ aK)) fun w3 aN zc => ?_
  go_wp2
  go_ret
  exact ⟨rfl, gy aj aN⟩
 | true =>
  have hbb := fM.out rfl
  have hb1 : n ≤ 1000000 := by omega
  have hb2 : m ≤ 1000000 := by omega
  clear hbb fM
  go_wp2_with fail
  refine (PU p.A p.na p.ca p.C p.Z p.nz p.cz _).mono ?_
  rintro e w3 ⟨bl, rfl, hbl, hb0⟩
  have Kw := aa hbl
  clear hbl
  have aN := bF aK hb0
  clear zc hb0
  have zc := kC.out _ aN
  cases bl with
  | false =>
   go_wp2_with fail
   clear zc
   refine eH kC aN (vS _ (kD.out _ aN)) fun w4 dQ zc => ?_
   go_wp2
   go_ret
   exact ⟨rfl, gy aj dQ⟩
  | true =>
   have hbl := Kw.out rfl
   have hna : p.na < 1000000 := by omega
   have hnz : p.nz < 1000000 := by omega
   have hpn : p.na ≤ 100000 ∧ p.nz ≤ 100000 := by omega
   clear hbl Kw
   by_cases h1 : 20 < kn
   ·
    have d1 : decide ((20 : Int) < (kn : Int)) = true := by simp; omega
    go_wp2_with fail
    clear zc
    refine eH kC aN (vS _ (kD.out _ aN)) fun w4 dQ zc => ?_
    go_wp2
    go_ret
    exact ⟨rfl, gy aj dQ⟩
   ·
    have d1 : decide ((20 : Int) < (kn : Int)) = false := by simp; omega
    by_cases h2 : 20 < cn
    ·
     have d2 : decide ((20 : Int) < (cn : Int)) = true := by simp; omega
     go_wp2_with fail
     clear zc
     refine eH kC aN (vS _ (kD.out _ aN)) fun w4 dQ zc => ?_
     go_wp2
     go_ret
     exact ⟨rfl, gy aj dQ⟩
    ·
     have d2 : decide ((20 : Int) < (cn : Int)) = false := by simp; omega
     obtain ⟨er, her⟩ : ∃ x, IM P Q G need cs ks os hs n i = x := ⟨_, rfl⟩
     have yP := aa her
     by_cases hne : er = 0
     ·
      subst hne
      have hg := her
      unfold IM at hg
      have hT : fP os hs = true := by
       cases e : fP os hs with
       | true => rfl
       | false => rw [e] at hg; simp at hg
      have hTr : tL P Q G need cs ks = true := by
       cases e : tL P Q G need cs ks with
       | true => rfl
       | false => rw [hT, e] at hg; simp at hg
      have hi0 : ¬ i < 0 := fun e => by rw [hT, hTr] at hg; simp [e] at hg
      have hin : ¬ (n : Int) ≤ i := fun e => by rw [hT, hTr] at hg; simp [hi0, e] at hg
      clear hg her
      obtain ⟨ii, rfl⟩ : ∃ k : Nat, i = (k : Int) := ⟨i.toNat, by omega⟩
      have hi : ii < n := by omega
      have HT : Kp (fP os hs = true) := ⟨hT⟩
      have hk8 : ks.length ≤ 8 := by have h9 := wL hTr hcn.out hkn.out; rw [hkn.out]; exact h9.2.2.1
      obtain ⟨_, _, -, -, hok⟩ := hO.out ii (by rw [hn.out]; exact hi)
      have Xf := (eP (gP (fC hT).1 ii (by rw [hn.out]; exact hi))).1
      have hSo : fH (bL os ii) := jm Xf hok
      have Bn : ∀ k, k < n → fH (bL os k) := fun k hk => by
       obtain ⟨_, _, -, -, hok⟩ := hO.out k (by rw [hn.out]; exact hk)
       exact jm (eP (gP (fC hT).1 k (by rw [hn.out]; exact hk))).1 hok
      have hpl : (bL os ii).ps.length = (bL os ii).np := hok.2.2.1.1
      clear hok hT
      cases hfr : qX (bL os ii).ps p.ix (bL os ii).np with
      | false =>
       have uk := aa hfr
       clear hfr hTr Xf
       go_wp2_with fail
       refine (Sr P Q G need Cs cs cn cc Ks ks kn kc hcn hkn hQ O os n c K hs m d hn hm hI hb1 hb2 p eu hzn hna hnz ii hi HT yP uk _ (kV.out _ aN) (kD.out _ aN) (jX.out _ aN) (jW.out _ aN) (kO.out _ aN) (kH.out _ aN) (tQ.out _ aN) (tO.out _ aN)).mono ?_
       rintro e w4 ⟨O7, c7, K7, d7, zx, rfl, MV, hs7, Gm, M3, hb0⟩
       have Vp := aa MV
       have OE := aa hs7
       have zZ := aa Gm
       have Q4 := aa M3
       clear MV hs7 Gm M3
       have dQ := bF aN hb0
       clear zc hb0
       have zc := kC.out _ dQ
       have jU := bP w4
       have TP := qO (w := w4) (fun u => Os u O7 zx) zZ.out (·.below)
       have TR := qO (w := w4) (fun u => Hs u K7 []) Q4.out (·.below)
       obtain ⟨w5, hw, wE, Kk, -, kX⟩ := qZ (jh O7 0 c7 K7 0 d7) qA w4
       have dK := jY dQ wE
       have jT := jY jU wE
       have fB := bP w5
       clear wE
       clear zc
       have zc := kC.out _ dK
       have uQ := kX.out _ fB
       go_wp2_with fail
       clear hw
       go_wp2_with fail
       refine (Tq P Q G need Cs cs cn cc Ks ks kn kc hcn hkn hQ O os n c K hs m d hn hm hI hb1 hb2 p eu hzn hna hnz ii hi HT yP uk _ (kV.out _ dK) (kD.out _ dK) (jX.out _ dK) (jW.out _ dK) (kO.out _ dK) (kH.out _ dK) (tQ.out _ dK) (tO.out _ dK)).mono ?_
       rintro e w6 ⟨O8, c8, K8, d8, Cf, rfl, MU, MG, MP, M0, hb0⟩
       have Vo := aa MU
       have ZP := aa MG
       have Kn := aa MP
       have KM := aa M0
       clear MU MG MP M0
       have uM := bF dK hb0
       have qM := bF jT hb0
       have iF := bF fB hb0
       clear zc uQ hb0
       have zc := kC.out _ uM
       have uQ := kX.out _ iF
       have qK := bP w6
       have TN := qO (w := w6) (fun u => Os u O8 Cf) Kn.out (·.below)
       have TQ := qO (w := w6) (fun u => Hs u K8 []) KM.out (·.below)
       obtain ⟨w7, hw, yz, U_, -, kY⟩ := qZ (jh O8 0 c8 K8 0 d8) qA w6
       have vW := jY uM yz
       have g_ := jY qM yz
       have jc := jY iF yz
       have gZ := jY qK yz
       have jS := bP w7
       clear yz
       clear zc uQ
       have zc := kC.out _ vW
       have uQ := kX.out _ jc
       have KO := kY.out _ jS
       go_wp2_with fail
       clear hw
       have zY : Hid (∀ k, k < 0 → fH (bL zx k) ∧ fH (bL Cf k) ∧ dJ (bL zx k) ∧ xk (bL zx k) = xk (bL Cf k)) := aa (fun k hk => absurd hk (by omega))
       go_wp2_with fail
       refine (qd O7 zx c7 K7 d7 O8 Cf c8 K8 d8 0 _ 0 Vp Vo (aa rfl) (by omega) (by omega) zY _ (TP.out _ g_) (TR.out _ g_) (TN.out _ gZ) (TQ.out _ gZ)).mono ?_
       rintro e w8 ⟨rfl, hb0⟩
       have Ac := bF vW hb0
       have Df := bF g_ hb0
       have qL := bF jc hb0
       have De := bF gZ hb0
       have qJ := bF jS hb0
       clear zc uQ KO hb0
       have zc := kC.out _ Ac
       have uQ := kX.out _ qL
       have KO := kY.out _ qJ
       go_wp2
       go_ret
       exact ⟨rfl, gy aj Ac⟩
      | true =>
       cases hrg : Ii P Q G need cs ks (jf hs ii) (bL os ii) p with
       | false =>
        have uk := aa hfr
        have Ho := aa hrg
        clear hfr hrg hTr Xf
        go_wp2_with fail
        refine (Su P Q G need Cs cs cn cc Ks ks kn kc hcn hkn hQ O os n c K hs m d hn hm hI hb1 hb2 p eu hzn hna hnz ii hi HT yP uk Ho _ (kV.out _ aN) (kD.out _ aN) (jX.out _ aN) (jW.out _ aN) (kO.out _ aN) (kH.out _ aN) (tQ.out _ aN) (tO.out _ aN)).mono ?_
        rintro e w4 ⟨O7, c7, K7, d7, zx, rfl, MV, hs7, Gm, M3, hb0⟩
        have Vp := aa MV
        have OE := aa hs7
        have zZ := aa Gm
        have Q4 := aa M3
        clear MV hs7 Gm M3
        have dQ := bF aN hb0
        clear zc hb0
        have zc := kC.out _ dQ
        have jU := bP w4
        have TP := qO (w := w4) (fun u => Os u O7 zx) zZ.out (·.below)
        have TR := qO (w := w4) (fun u => Hs u K7 []) Q4.out (·.below)
        obtain ⟨w5, hw, wE, Kk, -, kX⟩ := qZ (jh O7 0 c7 K7 0 d7) qA w4
        have dK := jY dQ wE
        have jT := jY jU wE
        have fB := bP w5
        clear wE
        clear zc
        have zc := kC.out _ dK
        have uQ := kX.out _ fB
        go_wp2_with fail
        clear hw
        go_wp2_with fail
        refine (Tt P Q G need Cs cs cn cc Ks ks kn kc hcn hkn hQ O os n c K hs m d hn hm hI hb1 hb2 p eu hzn hna hnz ii hi HT yP uk Ho _ (kV.out _ dK) (kD.out _ dK) (jX.out _ dK) (jW.out _ dK) (kO.out _ dK) (kH.out _ dK) (tQ.out _ dK) (tO.out _ dK)).mono ?_
        rintro e w6 ⟨O8, c8, K8, d8, Cf, rfl, MU, MG, MP, M0, hb0⟩
        have Vo := aa MU
        have ZP := aa MG
        have Kn := aa MP
        have KM := aa M0
        clear MU MG MP M0
        have uM := bF dK hb0
        have qM := bF jT hb0
        have iF := bF fB hb0
        clear zc uQ hb0
        have zc := kC.out _ uM
        have uQ := kX.out _ iF
        have qK := bP w6
        have TN := qO (w := w6) (fun u => Os u O8 Cf) Kn.out (·.below)
        have TQ := qO (w := w6) (fun u => Hs u K8 []) KM.out (·.below)
        obtain ⟨w7, hw, yz, U_, -, kY⟩ := qZ (jh O8 0 c8 K8 0 d8) qA w6
        have vW := jY uM yz
        have g_ := jY qM yz
        have jc := jY iF yz
        have gZ := jY qK yz
        have jS := bP w7
        clear yz
        clear zc uQ
        have zc := kC.out _ vW
        have uQ := kX.out _ jc
        have KO := kY.out _ jS
        go_wp2_with fail
        clear hw
        have zY : Hid (∀ k, k < 0 → fH (bL zx k) ∧ fH (bL Cf k) ∧ dJ (bL zx k) ∧ xk (bL zx k) = xk (bL Cf k)) := aa (fun k hk => absurd hk (by omega))
        go_wp2_with fail
        refine (qd O7 zx c7 K7 d7 O8 Cf c8 K8 d8 0 _ 0 Vp Vo (aa rfl) (by omega) (by omega) zY _ (TP.out _ g_) (TR.out _ g_) (TN.out _ gZ) (TQ.out _ gZ)).mono ?_
        rintro e w8 ⟨rfl, hb0⟩
        have Ac := bF vW hb0
        have Df := bF g_ hb0
        have qL := bF jc hb0
        have De := bF gZ hb0
        have qJ := bF jS hb0
        clear zc uQ KO hb0
        have zc := kC.out _ Ac
        have uQ := kX.out _ qL
        have KO := kY.out _ qJ
        go_wp2
        go_ret
        exact ⟨rfl, gy aj Ac⟩
       | true =>
        have hSa : fH (tF (bL os ii) p) := UY hSo Xf hpl hfr hrg hk8 eu.out hzn.out
        have hIa : dJ (tF (bL os ii) p) := UZ (hI.out ii hi) hPI
        have uk := aa hfr
        have Ho := aa hrg
        clear hfr hrg hTr Xf hpl
        go_wp2_with fail
        refine (Sv P Q G need Cs cs cn cc Ks ks kn kc hcn hkn hQ O os n c K hs m d hn hm hI hb1 hb2 p eu hzn hna hnz ii hi HT yP uk hpn Ho _ (kV.out _ aN) (kD.out _ aN) (jX.out _ aN) (jW.out _ aN) (kO.out _ aN) (kH.out _ aN) (tQ.out _ aN) (tO.out _ aN)).mono ?_
        rintro e w4 ⟨O7, c7, K7, d7, zx, rfl, MV, hs7, Gm, M3, hb0⟩
        have Vp := aa MV
        have OE := aa hs7
        have zZ := aa Gm
        have Q4 := aa M3
        clear MV hs7 Gm M3
        have dQ := bF aN hb0
        clear zc hb0
        have zc := kC.out _ dQ
        have jU := bP w4
        have TP := qO (w := w4) (fun u => Os u O7 zx) zZ.out (·.below)
        have TR := qO (w := w4) (fun u => Hs u K7 hs) Q4.out (·.below)
        obtain ⟨w5, hw, wE, Kk, -, kX⟩ := qZ (jh O7 n c7 K7 m d7) qA w4
        have dK := jY dQ wE
        have jT := jY jU wE
        have fB := bP w5
        clear wE
        clear zc
        have zc := kC.out _ dK
        have uQ := kX.out _ fB
        go_wp2_with fail
        clear hw
        go_wp2_with fail
        refine (Tu P Q G need Cs cs cn cc Ks ks kn kc hcn hkn hQ O os n c K hs m d hn hm hI hb1 hb2 p eu hzn hna hnz ii hi HT yP uk hpn Ho _ (kV.out _ dK) (kD.out _ dK) (jX.out _ dK) (jW.out _ dK) (kO.out _ dK) (kH.out _ dK) (tQ.out _ dK) (tO.out _ dK)).mono ?_
        rintro e w6 ⟨O8, c8, K8, d8, Cf, rfl, MU, MG, MP, M0, hb0⟩
        have Vo := aa MU
        have ZP := aa MG
        have Kn := aa MP
        have KM := aa M0
        clear MU MG MP M0
        have uM := bF dK hb0
        have qM := bF jT hb0
        have iF := bF fB hb0
        clear zc uQ hb0
        have zc := kC.out _ uM
        have uQ := kX.out _ iF
        have qK := bP w6
        have TN := qO (w := w6) (fun u => Os u O8 Cf) Kn.out (·.below)
        have TQ := qO (w := w6) (fun u => Hs u K8 hs) KM.out (·.below)
        obtain ⟨w7, hw, yz, U_, -, kY⟩ := qZ (jh O8 n c8 K8 m d8) qA w6
        have vW := jY uM yz
        have g_ := jY qM yz
        have jc := jY iF yz
        have gZ := jY qK yz
        have jS := bP w7
        clear yz
        clear zc uQ
        have zc := kC.out _ vW
        have uQ := kX.out _ jc
        have KO := kY.out _ jS
        go_wp2_with fail
        clear hw
        have zY : Hid (∀ k, k < n → fH (bL zx k) ∧ fH (bL Cf k) ∧ dJ (bL zx k) ∧ xk (bL zx k) = xk (bL Cf k)) := aa (fun k hk => by
         have s7 := OE.out k hk
         have s8 := ZP.out k hk
         have hX : fH (bL (os.set ii (tF (bL os ii) p)) k) ∧ dJ (bL (os.set ii (tF (bL os ii) p)) k) := by
          rw [yD (by rw [hn.out]; exact hi)]
          by_cases e : k = ii
          · rw [if_pos e]; exact ⟨hSa, hIa⟩
          · rw [if_neg e]; exact ⟨Bn k hk, hI.out k hk⟩
         exact ⟨s7.s hX.1, s8.s hX.1, s7.i hX.2, s7.it.trans s8.it.symm⟩)
        go_wp2_with fail
        refine (qd O7 zx c7 K7 d7 O8 Cf c8 K8 d8 n _ m Vp Vo hm (by omega) (by omega) zY _ (TP.out _ g_) (TR.out _ g_) (TN.out _ gZ) (TQ.out _ gZ)).mono ?_
        rintro e w8 ⟨rfl, hb0⟩
        have Ac := bF vW hb0
        have Df := bF g_ hb0
        have qL := bF jc hb0
        have De := bF gZ hb0
        have qJ := bF jS hb0
        clear zc uQ KO hb0
        have zc := kC.out _ Ac
        have uQ := kX.out _ qL
        have KO := kY.out _ qJ
        go_wp2
        go_ret
        exact ⟨rfl, gy aj Ac⟩
     ·
      clear her
      go_wp2_with fail
      refine (Sw P Q G need Cs cs cn cc Ks ks kn kc hcn hkn hQ O os n c K hs m d hn hm hI hb1 hb2 p eu hzn hna hnz i er yP hne _ (kV.out _ aN) (kD.out _ aN) (jX.out _ aN) (jW.out _ aN) (kO.out _ aN) (kH.out _ aN) (tQ.out _ aN) (tO.out _ aN)).mono ?_
      rintro e w4 ⟨O7, c7, K7, d7, zx, rfl, MV, hs7, Gm, M3, hb0⟩
      have Vp := aa MV
      have OE := aa hs7
      have zZ := aa Gm
      have Q4 := aa M3
      clear MV hs7 Gm M3
      have dQ := bF aN hb0
      clear zc hb0
      have zc := kC.out _ dQ
      have jU := bP w4
      have TP := qO (w := w4) (fun u => Os u O7 zx) zZ.out (·.below)
      have TR := qO (w := w4) (fun u => Hs u K7 []) Q4.out (·.below)
      obtain ⟨w5, hw, wE, Kk, -, kX⟩ := qZ (jh O7 0 c7 K7 0 d7) qA w4
      have dK := jY dQ wE
      have jT := jY jU wE
      have fB := bP w5
      clear wE
      clear zc
      have zc := kC.out _ dK
      have uQ := kX.out _ fB
      go_wp2_with fail
      clear hw
      go_wp2_with fail
      refine (Tv P Q G need Cs cs cn cc Ks ks kn kc hcn hkn hQ O os n c K hs m d hn hm hI hb1 hb2 p eu hzn hna hnz i er yP hne _ (kV.out _ dK) (kD.out _ dK) (jX.out _ dK) (jW.out _ dK) (kO.out _ dK) (kH.out _ dK) (tQ.out _ dK) (tO.out _ dK)).mono ?_
      rintro e w6 ⟨O8, c8, K8, d8, Cf, rfl, MU, MG, MP, M0, hb0⟩
      have Vo := aa MU
      have ZP := aa MG
      have Kn := aa MP
      have KM := aa M0
      clear MU MG MP M0
      have uM := bF dK hb0
      have qM := bF jT hb0
      have iF := bF fB hb0
      clear zc uQ hb0
      have zc := kC.out _ uM
      have uQ := kX.out _ iF
      have qK := bP w6
      have TN := qO (w := w6) (fun u => Os u O8 Cf) Kn.out (·.below)
      have TQ := qO (w := w6) (fun u => Hs u K8 []) KM.out (·.below)
      obtain ⟨w7, hw, yz, U_, -, kY⟩ := qZ (jh O8 0 c8 K8 0 d8) qA w6
      have vW := jY uM yz
      have g_ := jY qM yz
      have jc := jY iF yz
      have gZ := jY qK yz
      have jS := bP w7
      clear yz
      clear zc uQ
      have zc := kC.out _ vW
      have uQ := kX.out _ jc
      have KO := kY.out _ jS
      go_wp2_with fail
      clear hw
      have zY : Hid (∀ k, k < 0 → fH (bL zx k) ∧ fH (bL Cf k) ∧ dJ (bL zx k) ∧ xk (bL zx k) = xk (bL Cf k)) := aa (fun k hk => absurd hk (by omega))
      go_wp2_with fail
      refine (qd O7 zx c7 K7 d7 O8 Cf c8 K8 d8 0 _ 0 Vp Vo (aa rfl) (by omega) (by omega) zY _ (TP.out _ g_) (TR.out _ g_) (TN.out _ gZ) (TQ.out _ gZ)).mono ?_
      rintro e w8 ⟨rfl, hb0⟩
      have Ac := bF vW hb0
      have Df := bF g_ hb0
      have qL := bF jc hb0
      have De := bF gZ hb0
      have qJ := bF jS hb0
      clear zc uQ KO hb0
      have zc := kC.out _ Ac
      have uQ := kX.out _ qL
      have KO := kY.out _ qJ
      go_wp2
      go_ret
      exact ⟨rfl, gy aj Ac⟩
end Go.Proofs.YtchcllcbknfikaaGreatDoor