/- Contracts and lemmas: TruF, OpT, OpD, Lat, TlA, TlC, TlD, TlE, TlF. -/
import Derived.Laws.StructEq
import Derived.Deep.MidRow
import Derived.Test.YtchcllcbknfikaaGreatDoorTv6
set_option linter.unusedVariables false
set_option linter.unusedSimpArgs false
set_option maxRecDepth 100000
set_option maxHeartbeats 25600000
namespace Go.Proofs.YtchcllcbknfikaaGreatDoor
open Go.RowKit rQ
structure a_ where
 ix : Int
 v : Int
 A : Option Addr
 na : Nat
 ca : Nat
 al : List Int
 C : Int
 Z : Option Addr
 nz : Nat
 cz : Nat
 zs : List Int
abbrev aF : a_ := ⟨0, 0, none, 0, 0, [], 0, none, 0, 0, []⟩
def EF (w : World) (p : a_) : Prop := p.al.length = p.na ∧ p.zs.length = p.nz ∧ Sl w p.A p.al ∧ Sl w p.Z p.zs
def Pa (w : World) (L : Option Addr) (ps : List a_) : Prop := ∀ k, k < ps.length → ∃ b o, L = some ⟨b, o, none⟩ ∧ w.cell? ⟨b, o + k * 5, none⟩ = some (.int .i64 (ps.getD k aF).ix) ∧ w.cell? ⟨b, o + k * 5 + 1, none⟩ = some (.int .i64 (ps.getD k aF).v) ∧
 w.cell? ⟨b, o + k * 5 + 2, none⟩ = some (.slice (ps.getD k aF).A (ps.getD k aF).na (ps.getD k aF).ca) ∧ w.cell? ⟨b, o + k * 5 + 3, none⟩ = some (.int .i64 (ps.getD k aF).C) ∧ w.cell? ⟨b, o + k * 5 + 4, none⟩ = some (.slice (ps.getD k aF).Z (ps.getD k aF).nz (ps.getD k aF).cz) ∧ EF w (ps.getD k aF)
theorem EF.below {w w' : World} {p : a_} (h : EF w p) (hb : Below w.heap.size w w') : EF w' p := ⟨h.1, h.2.1, h.2.2.1.below hb, h.2.2.2.below hb⟩
theorem Pa.below {w w' : World} {L : Option Addr} {ps : List a_} (h : Pa w L ps) (hb : Below w.heap.size w w') : Pa w' L ps := fun k hk => by
 obtain ⟨b, o, h1, h2, h3, h4, h5, h6, h7⟩ := h k hk
 exact ⟨b, o, h1, cell_below h2 hb, cell_below h3 hb, cell_below h4 hb, cell_below h5 hb, cell_below h6 hb, h7.below hb⟩
def r64 (x : Int) : Prop := -9223372036854775808 ≤ x ∧ x < 9223372036854775808
abbrev jR (ps : List a_) : List Int := ps.map (·.ix)
abbrev Cu (ps : List a_) (k : Nat) : Int := (ps.getD k aF).v
theorem OM {ps : List a_} {k : Nat} (h : k < ps.length) : (jR ps).getD k 0 = (ps.getD k aF).ix := by
 rw [List.getD_eq_getElem?_getD, List.getElem?_map, List.getElem?_eq_getElem h, List.getD_eq_getElem?_getD, List.getElem?_eq_getElem h]; rfl
theorem CW {ps : List a_} {k : Nat} (h : k < ps.length) : jR (ps.take (k + 1)) = jR (ps.take k) ++ [(ps.getD k aF).ix] := by
 rw [jR, List.take_add_one, List.map_append, List.getElem?_eq_getElem h, List.getD_eq_getElem?_getD, List.getElem?_eq_getElem h]; rfl
def zD (P Q : Int) (kn : Nat) (p : a_) : Bool := qo kn p.ix && aG P Q p.v
theorem AU {f : a_ → Bool} {l : List a_} {k : Nat} (hk : k < l.length) (h : f (l.getD k aF) = true) : (l.drop k).all f = (l.drop (k + 1)).all f := by
 rw [List.drop_eq_getElem_cons hk, List.all_cons]
 rw [List.getD_eq_getElem?_getD, List.getElem?_eq_getElem hk] at h
 simp at h
 rw [h, Bool.true_and]
theorem uW {f : a_ → Bool} {l : List a_} {k : Nat} (hk : k < l.length) (h : f (l.getD k aF) = false) : (l.drop k).all f = false := by
 rw [List.drop_eq_getElem_cons hk, List.all_cons]
 rw [List.getD_eq_getElem?_getD, List.getElem?_eq_getElem hk] at h
 simp at h
 rw [h, Bool.false_and]
theorem uX {f : a_ → Bool} {l : List a_} (h : l.all f = true) {k : Nat} (hk : k < l.length) : f (l.getD k aF) = true := by
 rw [List.getD_eq_getElem?_getD, List.getElem?_eq_getElem hk]
 exact List.all_eq_true.1 h _ (List.getElem_mem hk)
noncomputable def jg (P Q need : Int) (kn : Nat) (E1 E2 : Int) (ps : List a_) : Int := if (aG P Q E1 && aG P Q E2) = true then (if ps.all (zD P Q kn) = true then (if @decide (jU (jR ps)) (Classical.propDecidable _) = true then (if (ps.length : Int) < need then 7 else 0) else 8) else 2) else 2
noncomputable def nN (P Q need : Int) (kn : Nat) (E1 E2 : Int) (ps : List a_) : Int := if jg P Q need kn E1 E2 ps = 0 then Ct P Q E2 (Cu ps) (vk Q ((jR ps).take need.toNat) 0) need.toNat else 0
theorem Lf {P Q : Int} {ps : List a_} {kn m : Nat} (h : ps.all (zD P Q kn) = true) (hq : (kn : Int) < Q) : ((jR ps).take m).all (gW Q) = true := by
 rw [List.all_eq_true]
 intro x hx
 obtain ⟨p, hp, rfl⟩ := List.mem_map.1 (List.mem_of_mem_take hx)
 have := List.all_eq_true.1 h p hp
 simp only [zD, qo, Bool.and_eq_true, decide_eq_true_eq] at this
 simp [gW]
 omega
theorem WK (P Q G : Int) (m : Nat) (Cs : Option Addr) (cs : List Int) (cn cc : Nat) (Ks : Option Addr) (ks : List Int) (kn kc : Nat) (hcn : Hid (cs.length = cn)) (hkn : Hid (ks.length = kn)) (E1 E2 : Int) (A : Option Addr) (na ca : Nat) (C : Int) (Z : Option Addr) (nz cz : Nat) (L : Option Addr) (ps : List a_) (n c : Nat) (hn : Hid (ps.length = n)) (hnb : n ≤ 100) (hlr : Hid (∀ k, k < n → r64 (ps.getD k aF).ix)) (hr : Hid (tY P Q G (m : Int) cs ks = true)) (m1 : Hid (aG P Q E1 = false)) (hQ : Q < 9223372036854775808) (w : World) (hv : Hid (Vars w)) (hC : Hid (Sl w Cs cs)) (hK : Hid (Sl w Ks ks)) (hL : Hid (Pa w L ps)) :
  Calls Tryz.prog 84 #[gv P Q G, lM (m : Int) Cs cn cc Ks kn kc, zK E1 E2 A na ca C Z nz cz, .slice L n c] w (Rt w (.tuple #[.int .i64 0, .int .i64 2])) := by
 obtain ⟨i0, hi, hz0, hz1, hz2⟩ := info_parts lQ
 obtain ⟨iU, n1, n2, n3, n4, n5, n6⟩ := jk hr.out hcn.out hkn.out
 obtain ⟨w0, HW, ai, kC⟩ := qF (bq P Q G) gq (rR (m : Int) Cs cn cc Ks kn kc) gq (Ed E1 E2 A na ca C Z nz cz) sG w
 have kV := mkV ai hv
 have nL := mkS ai hC
 have rU := mkS ai hK
 have kL := gV (fun u => Pa u L ps) ai hL (·.below)
 have ah := bS w0
 clear hv hC hK hL
 go_in
 go_wp2_with fail
 rw [HW.out]
 have zc := kC.out _ ah
 go_wp2_with fail
 clear zc
 refine eB kC ah (mX P Q G (m : Int) Cs cs cn cc Ks ks kn kc hcn hkn true hr hQ _ (kV.out _ ah) (nL.out _ ah) (rU.out _ ah)) fun w1 aD zc => ?_
 go_wp2_with fail
 clear zc
 refine eB kC aD (dU P Q G E1 false (aa (by rw [uT, iU.out, m1.out]; rfl)) hQ _ (kV.out _ aD)) fun w2 aN zc => ?_
 go_wp2
 go_ret2
 exact ⟨rfl, fe ai aN⟩
theorem WJ (P Q G : Int) (m : Nat) (Cs : Option Addr) (cs : List Int) (cn cc : Nat) (Ks : Option Addr) (ks : List Int) (kn kc : Nat) (hcn : Hid (cs.length = cn)) (hkn : Hid (ks.length = kn)) (E1 E2 : Int) (A : Option Addr) (na ca : Nat) (C : Int) (Z : Option Addr) (nz cz : Nat) (L : Option Addr) (ps : List a_) (n c : Nat) (hn : Hid (ps.length = n)) (hnb : n ≤ 100) (hlr : Hid (∀ k, k < n → r64 (ps.getD k aF).ix)) (hr : Hid (tY P Q G (m : Int) cs ks = true)) (m1 : Hid (aG P Q E1 = true)) (m2 : Hid (aG P Q E2 = false)) (hQ : Q < 9223372036854775808) (w : World) (hv : Hid (Vars w)) (hC : Hid (Sl w Cs cs)) (hK : Hid (Sl w Ks ks)) (hL : Hid (Pa w L ps)) :
  Calls Tryz.prog 84 #[gv P Q G, lM (m : Int) Cs cn cc Ks kn kc, zK E1 E2 A na ca C Z nz cz, .slice L n c] w (Rt w (.tuple #[.int .i64 0, .int .i64 2])) := by
 obtain ⟨i0, hi, hz0, hz1, hz2⟩ := info_parts lQ
 obtain ⟨iU, n1, n2, n3, n4, n5, n6⟩ := jk hr.out hcn.out hkn.out
 obtain ⟨w0, HW, ai, kC⟩ := qF (bq P Q G) gq (rR (m : Int) Cs cn cc Ks kn kc) gq (Ed E1 E2 A na ca C Z nz cz) sG w
 have kV := mkV ai hv
 have nL := mkS ai hC
 have rU := mkS ai hK
 have kL := gV (fun u => Pa u L ps) ai hL (·.below)
 have ah := bS w0
 clear hv hC hK hL
 go_in
 go_wp2_with fail
 rw [HW.out]
 have zc := kC.out _ ah
 go_wp2_with fail
 clear zc
 refine eB kC ah (mX P Q G (m : Int) Cs cs cn cc Ks ks kn kc hcn hkn true hr hQ _ (kV.out _ ah) (nL.out _ ah) (rU.out _ ah)) fun w1 aD zc => ?_
 go_wp2_with fail
 clear zc
 refine eB kC aD (dU P Q G E1 true (aa (by rw [uT, iU.out, m1.out]; rfl)) hQ _ (kV.out _ aD)) fun w2 aN zc => ?_
 go_wp2_with fail
 clear zc
 refine eB kC aN (dU P Q G E2 false (aa (by rw [uT, iU.out, m2.out]; rfl)) hQ _ (kV.out _ aN)) fun w3 bu zc => ?_
 go_wp2
 go_ret2
 exact ⟨rfl, fe ai bu⟩
abbrev NL (ix v : Int) (A : Option Addr) (na ca : Nat) (C : Int) (Z : Option Addr) (nz cz : Nat) : Obj := .cells #[.int .i64 ix, .int .i64 v, .slice A na ca, .int .i64 C, .slice Z nz cz] 56
abbrev OW (ix v : Int) (A : Option Addr) (na ca : Nat) (C : Int) (Z : Option Addr) (nz cz : Nat) : Value := .agg #[.int .i64 ix, .int .i64 v, .slice A na ca, .int .i64 C, .slice Z nz cz]
theorem xA {P Q : Int} {kn : Nat} {p : a_} (h : zD P Q kn p = true) : aG P Q p.v = true := by
 unfold zD at h
 simp only [Bool.and_eq_true] at h
 exact h.2
theorem WI (P Q G : Int) (m : Nat) (Cs : Option Addr) (cs : List Int) (cn cc : Nat) (Ks : Option Addr) (ks : List Int) (kn kc : Nat) (hcn : Hid (cs.length = cn)) (hkn : Hid (ks.length = kn)) (E1 E2 : Int) (A : Option Addr) (na ca : Nat) (C : Int) (Z : Option Addr) (nz cz : Nat) (L : Option Addr) (ps : List a_) (n c : Nat) (hn : Hid (ps.length = n)) (hnb : n ≤ 100) (hlr : Hid (∀ k, k < n → r64 (ps.getD k aF).ix)) (hr : Hid (tY P Q G (m : Int) cs ks = true)) (m1 : Hid (aG P Q E1 = true)) (m2 : Hid (aG P Q E2 = true)) (hQ : Q < 9223372036854775808) (w : World) (hv : Hid (Vars w)) (hC : Hid (Sl w Cs cs)) (hK : Hid (Sl w Ks ks)) (hL : Hid (Pa w L ps)) :
  Calls Tryz.prog 84 #[gv P Q G, lM (m : Int) Cs cn cc Ks kn kc, zK E1 E2 A na ca C Z nz cz, .slice L n c] w (Rt w (.tuple #[.int .i64 (nN P Q (m : Int) kn E1 E2 ps), .int .i64 (jg P Q (m : Int) kn E1 E2 ps)])) := by
 obtain ⟨i0, hi, hz0, hz1, hz2⟩ := info_parts lQ
 obtain ⟨iU, n1, n2, n3, n4, n5, n6⟩ := jk hr.out hcn.out hkn.out
 obtain ⟨w0, HW, ai, kC⟩ := qF (bq P Q G) gq (rR (m : Int) Cs cn cc Ks kn kc) gq (Ed E1 E2 A na ca C Z nz cz) sG w
 have kV := mkV ai hv
 have nL := mkS ai hC
 have rU := mkS ai hK
 have kL := gV (fun u => Pa u L ps) ai hL (·.below)
 have ah := bS w0
 clear hv hC hK hL
 go_in
 go_wp2_with fail
 rw [HW.out]
 have zc := kC.out _ ah
 go_wp2_with fail
 clear zc
 refine eB kC ah (mX P Q G (m : Int) Cs cs cn cc Ks ks kn kc hcn hkn true hr hQ _ (kV.out _ ah) (nL.out _ ah) (rU.out _ ah)) fun w1 aD zc => ?_
 go_wp2_with fail
 clear zc
 refine eB kC aD (dU P Q G E1 true (aa (by rw [uT, iU.out, m1.out]; rfl)) hQ _ (kV.out _ aD)) fun w2 aN zc => ?_
 go_wp2_with fail
 clear zc
 refine eB kC aN (dU P Q G E2 true (aa (by rw [uT, iU.out, m2.out]; rfl)) hQ _ (kV.out _ aN)) fun w3 bu zc => ?_
 go_wp2
 clear zc
 go_loopw [10, 40] (fun vx i wr => ∃ k : Nat, k ≤ n ∧ i = .int .i64 k ∧ Hid (ps.all (zD P Q kn) = (ps.drop k).all (zD P Q kn)) ∧ Hid (wr.ownsRow w0.heap.size 3 1 vx k ((jR (ps.take k)).map (Value.int .i64))) ∧ Hid (Below w0.heap.size w0 wr)) (fun _ i _ => n - (intOf i).toNat)
 case atStart => exact ⟨0, by omega, rfl, aa rfl, aa (World.ownsRow_nil _ _ _ _), bu⟩
 case round =>
  obtain ⟨k, hk, rfl, HR, Uk, au⟩ := hrel
  by_cases hlt : k < n
  ·
   have hkl : k < ps.length := by rw [hn.out]; exact hlt
   obtain ⟨b, o, hA, j0, j1, j2, j3, j4, hok⟩ := (kL.out _ au).out k hkl
   subst hA
   have tx := CW hkl
   obtain ⟨px, hpx⟩ : ∃ x, ps.getD k aF = x := ⟨_, rfl⟩
   obtain ⟨ix, v, pA, jK, qm, oq, pC, pZ, jJ, ql, om⟩ := px
   rw [hpx] at j0 j1 j2 j3 j4 tx
   have TX := aa tx
   have hst : True → Hid True := fun _ => aa trivial
   clear tx hok hst
   dsimp only at j0 j1 j2 j3 j4
   cases hm : qo kn ix with
   | true =>
    cases hg : aG P Q v with
    | true =>
     have HS : Hid (ps.all (zD P Q kn) = (ps.drop (k + 1)).all (zD P Q kn)) := aa (HR.out.trans (AU hkl (by rw [hpx, zD, hm, hg]; rfl)))
     have HM := aa hm
     have HG := aa hg
     clear hm hg HR hpx
     have bG := bS wr
     have zc := kC.out _ au
     obtain ⟨w4, hw, Nz, Xq, -, kS⟩ := sI (NL ix v pA jK qm pC pZ jJ ql) sG wr
     have dm := pY au Nz
     have dx := pY bG Nz
     have iw := bS w4
     clear Nz
     have oQ := kC.out _ dm
     have jG := kS.out _ iw
     go_wp2_with fail
     clear zc oQ jG hw
     have zc := kC.out _ dm
     have iR := kS.out _ iw
     clear j0 j1 j2 j3 j4
     clear zc iR
     have zc := kC.out _ dm
     have iR := kS.out _ iw
     go_wp2_with fail
     clear zc iR
     refine rW dm dx iw (mH (m : Int) Cs cn cc Ks kn kc ix true HM _) fun w5 jh lV qf => ?_
     have zc := kC.out _ jh
     have iR := kS.out _ qf
     go_wp2_with fail
     clear zc iR
     refine rW jh lV qf (dU P Q G v true (aa (by rw [uT, iU.out, HG.out]; rfl)) hQ _ (kV.out _ jh)) fun w6 uZ xX Cj => ?_
     have zc := kC.out _ uZ
     have iR := kS.out _ Cj
     have JO := aa (Uk.out.kept (uP xX.out none) (uC _))
     have hown := JO.out
     have hbs := uZ.out.size
     go_wp2_with (at_builtin; refine wpList_append_own _ rfl _ _ 24 rfl w0.heap.size 3 i0 (.int .i64 0) 1 8 Tryz.underlying24 hi hz0 hz1 hz2 rfl (by decide) _ _ _ rfl (hown.alloc _) ⟨w6.heap.size, 0, none⟩ 1 1 [.int .i64 ix] rfl rfl (cell_one_new _ _ _) (ints_oneCell .i64 [ix]) (by unfold maxLen; omega) (by omega) (by simp; omega) ?_; intro v' y3 hown1 hgrow1 _)
     have lU : Hid (y3.ownsRow w0.heap.size 3 1 v' (k + 1) ((jR (ps.take (k + 1))).map (Value.int .i64))) := aa (by rw [TX.out]; simpa using hown1)
     have HB3 : Hid (Below w0.heap.size w0 y3) := aa ((uZ.out.alloc hbs _).grown hgrow1 (by simp; omega) (fun j hj => (hown.lt j hj).1))
     clear hown hown1 hgrow1 JO
     go_roundw
     case rel => exact ⟨k + 1, by omega, by go_num, HS, lU, HB3⟩
     case measure => simp [intOf]; omega
    | false =>
     have HF : Hid (jg P Q (m : Int) kn E1 E2 ps = 2) := aa (by rw [jg, m1.out, m2.out, HR.out, uW hkl (by rw [hpx, zD, hm, hg]; rfl)]; rfl)
     have HM := aa hm
     have HG := aa hg
     clear hm hg HR hpx
     have bG := bS wr
     have zc := kC.out _ au
     obtain ⟨w4, hw, Nz, Xq, -, kS⟩ := sI (NL ix v pA jK qm pC pZ jJ ql) sG wr
     have dm := pY au Nz
     have dx := pY bG Nz
     have iw := bS w4
     clear Nz
     have oQ := kC.out _ dm
     have jG := kS.out _ iw
     go_wp2_with fail
     clear zc oQ jG hw
     have zc := kC.out _ dm
     have iR := kS.out _ iw
     clear j0 j1 j2 j3 j4
     clear zc iR
     have zc := kC.out _ dm
     have iR := kS.out _ iw
     go_wp2_with fail
     clear zc iR
     refine rW dm dx iw (mH (m : Int) Cs cn cc Ks kn kc ix true HM _) fun w5 jh lV qf => ?_
     have zc := kC.out _ jh
     have iR := kS.out _ qf
     go_wp2_with fail
     clear zc iR
     refine rW jh lV qf (dU P Q G v false (aa (by rw [uT, iU.out, HG.out]; rfl)) hQ _ (kV.out _ jh)) fun w6 uZ xX Cj => ?_
     have zc := kC.out _ uZ
     have iR := kS.out _ Cj
     have bV := ag ai.out uZ.out
     go_wp2
     go_ret2
     exact ⟨by rw [nN, HF.out]; rfl, bV⟩
   | false =>
    have HF : Hid (jg P Q (m : Int) kn E1 E2 ps = 2) := aa (by rw [jg, m1.out, m2.out, HR.out, uW hkl (by rw [hpx, zD, hm]; rfl)]; rfl)
    have HM := aa hm
    clear hm HR hpx
    have bG := bS wr
    have zc := kC.out _ au
    obtain ⟨w4, hw, Nz, Xq, -, kS⟩ := sI (NL ix v pA jK qm pC pZ jJ ql) sG wr
    have dm := pY au Nz
    have dx := pY bG Nz
    have iw := bS w4
    clear Nz
    have oQ := kC.out _ dm
    have jG := kS.out _ iw
    go_wp2_with fail
    clear zc oQ jG hw
    have zc := kC.out _ dm
    have iR := kS.out _ iw
    clear j0 j1 j2 j3 j4
    clear zc iR
    have zc := kC.out _ dm
    have iR := kS.out _ iw
    go_wp2_with fail
    clear zc iR
    refine rW dm dx iw (mH (m : Int) Cs cn cc Ks kn kc ix false HM _) fun w5 jh lV qf => ?_
    have zc := kC.out _ jh
    have iR := kS.out _ qf
    have bV := ag ai.out jh.out
    go_wp2
    go_ret2
    exact ⟨by rw [nN, HF.out]; rfl, bV⟩
  ·
   obtain rfl : k = n := by omega
   have hall : ps.all (zD P Q kn) = true := by rw [HR.out, ← hn.out, List.drop_length]; rfl
   have hox := Uk.out
   rw [List.take_of_length_le (by rw [hn.out]; exact Nat.le_refl _)] at hox
   have FX : (jR ps).length = k := by rw [List.length_map]; exact hn.out
   obtain ⟨AX, cX, Zl, sX, hcX⟩ := xB hox FX
   subst Zl
   have Xn := aa sX
   have UA := aa FX
   have oM := aa hall
   have XT : Hid (∀ j, j < k → -9223372036854775808 ≤ (jR ps).getD j 0 ∧ (jR ps).getD j 0 < 9223372036854775808) := aa (fun j hj => by rw [OM (by rw [hn.out]; exact hj)]; exact hlr.out j hj)
   clear hall hox FX sX HR Uk
   have bG := bS wr
   have kX := wh (w := wr) (fun u => Sl u AX (jR ps)) Xn.out (·.below)
   have zc := kC.out _ au
   by_cases hnt : jU (jR ps)
   ·
    have xw := aa hnt
    clear hnt
    go_wp2_with fail
    clear zc
    refine MU au bG (Ac AX (jR ps) k cX false (aa ⟨fun _ => xw.out, fun _ => rfl⟩) UA (by omega) XT _ (kX.out _ bG)) fun w4 dm dx => ?_
    have zc := kC.out _ dm
    by_cases hfw : k < m
    ·
     have HF : Hid (jg P Q (m : Int) kn E1 E2 ps = 7) := aa (by rw [jg, m1.out, m2.out, oM.out]; simp [xw.out, hn.out]; omega)
     have df : decide ((k : Int) < (m : Int)) = true := by simp; omega
     have bV := ag ai.out dm.out
     go_wp2
     go_ret2
     exact ⟨by rw [nN, HF.out]; rfl, bV⟩
    ·
     have HF : Hid (jg P Q (m : Int) kn E1 E2 ps = 0) := aa (by rw [jg, m1.out, m2.out, oM.out]; simp [xw.out, hn.out]; omega)
     have HVF : Hid (nN P Q (m : Int) kn E1 E2 ps = Ct P Q E2 (Cu ps) (vk Q ((jR ps).take m) 0) m) := aa (by rw [nN, HF.out]; rfl)
     have df : decide ((k : Int) < (m : Int)) = false := by simp; omega
     have hmc : m ≤ cX := by omega
     have QY : Hid (((jR ps).take m).length = m) := aa (by rw [List.length_take, UA.out]; omega)
     have TV : Hid (((jR ps).take m).all (gW Q) = true) := aa (Lf oM.out n3)
     have HTT : Hid (jU ((jR ps).take m)) := aa (Br xw.out)
     obtain ⟨q1, q2, q3, q4⟩ := bH iU.out
     have HPQ : Hid (nC Q = true) := aa (CR iU.out)
     have Zf := aa (show ∀ u : World, Hid (Below wr.heap.size wr u) → Hid (Sl u AX ((jR ps).take m)) from fun u h => aa ((Be (Xn.out.below h.out) m)))
     go_upto_region 17 with (fail)
     clear zc
     have hO := aa (fun (u : World) (h : Hid (Below w0.heap.size w0 u ∧ Below wr.heap.size wr u)) => kC.out u (aa h.out.1))
     refine t_ (fun u => Below w0.heap.size w0 u ∧ Below wr.heap.size wr u) [] (bb2 (aa ⟨dm.out, dx.out⟩) ((Below.refl _ _).drew)) (fun hHeld => ?_)
     refine aT 0 1 2 3 ?_
     refine aH 4 ?_
     refine aH 5 ?_
     refine bW 6 fun K hK => ?_
     go_simp
     refine (CP Q AX ((jR ps).take m) m cX 0 (by omega) HPQ QY (by omega) TV (by omega) (by omega) hmc HTT _ (kV.out _ (aa hHeld.out.1)) (Zf.out _ (aa hHeld.out.2))).mono ?_
     intro e wA hW
     obtain ⟨vw, rfl, Wh, bM⟩ := hW
     have HOW := aa Wh
     clear Wh
     refine hK.out _ _ (bb2 hHeld bM) (fun hHeld => ?_)
     clear hK K
     refine aT 7 8 9 10 ?_
     refine aH 11 ?_
     refine gz ?_
     clear hO
     have fU := (aa hHeld.out.1)
     have Gy := (aa hHeld.out.2)
     clear hHeld
     have zc := kC.out _ fU
     have Py := HOW.out
     unfold fT at Py
     rw [fJ] at Py
     obtain ⟨AW, cW, hvw, sW, hcW⟩ := xB Py (fJ _ _ _ _)
     subst hvw
     have EI := aa sW
     clear Py sW HOW
     clear zc
     have YS := bS wA
     have kW := wh (w := wA) (fun u => Sl u AW (CK Q ((jR ps).take m) 0 m)) EI.out (·.below)
     have zc := kC.out _ fU
     go_wp2
     clear zc
     go_loopw [15, 86] (fun a i wz => ∃ j : Nat, j ≤ m ∧ i = .int .i64 j ∧ a = .int .i64 (Jj P Q (Cu ps) (vk Q ((jR ps).take m) 0) j) ∧ Hid (Below wA.heap.size wA wz)) (fun _ i _ => m - (intOf i).toNat)
     case atStart => exact ⟨0, by omega, rfl, rfl, aa (Below.refl _ _)⟩
     case round =>
      obtain ⟨j, hj, rfl, rfl, qC⟩ := hrel
      have qi := aa (ag fU.out qC.out)
      have QW := aa (ag Gy.out qC.out)
      have hmm := Ho (ws := vk Q ((jR ps).take m) 0) q1 (by omega) j (fun i hi => xA (uX oM.out (show i < ps.length by have := hn.out; omega)))
      by_cases wY : j < m
      ·
       have hkl : j < ps.length := by have := hn.out; omega
       obtain ⟨b1, o1, hA1, i1⟩ := (kW.out _ qC).out j (by rw [fJ]; exact wY)
       subst hA1
       have hjk : j < k := by omega
       obtain ⟨b2, o2, hA2, j0, j1, j2, j3, j4, hok⟩ := (kL.out _ qi).out j hkl
       subst hA2
       rw [GN _ _ _ _ _ wY] at i1
       have ss : Jj P Q (Cu ps) (vk Q ((jR ps).take m) 0) (j + 1) = Jj P Q (Cu ps) (vk Q ((jR ps).take m) 0) j * pw (Cu ps j) (vk Q ((jR ps).take m) 0 j % Q) P % P := rfl
       obtain ⟨x0, x1⟩ := x_ (q := Q) (by omega) ((jR ps).take m) 0 j
       have hyb := xA (uX oM.out hkl)
       have j1' := j1
       obtain ⟨x, hx⟩ : ∃ x, vk Q ((jR ps).take m) 0 j = x := ⟨_, rfl⟩
       obtain ⟨y, hy⟩ : ∃ x, Cu ps j = x := ⟨_, rfl⟩
       obtain ⟨s9, FQ⟩ : ∃ x, Jj P Q (Cu ps) (vk Q ((jR ps).take m) 0) j = x := ⟨_, rfl⟩
       rw [hx] at i1 x0 x1 ss
       rw [show (ps.getD j aF).v = y from hy] at j1
       rw [show (ps.getD j aF).v = y from hy] at hyb
       rw [hy, FQ] at ss
       rw [FQ] at hmm ⊢
       obtain ⟨p, hp⟩ : ∃ z, pw y (x % Q) P = z := ⟨_, rfl⟩
       obtain ⟨t9, SF⟩ : ∃ z, s9 * p % P = z := ⟨_, rfl⟩
       rw [hp, SF] at ss
       have mp : aG P Q p = true := by rw [← hp]; exact vM q1 (by omega) (Int.emod_nonneg _ (by omega)) hyb
       have ck1 : Hid (jE P Q G [y] = 0) := aa (rH iU.out (by simp [hyb]))
       have ck2 : Hid (jE P Q G [s9, p] = 0) := aa (rH iU.out (by simp [hmm, mp]))
       have SS := aa ss
       have HP := aa hp
       have HT9 := aa SF
       have kI := Yj (p := ⟨b2, o2 + j * 5 + 1, none⟩) (v := .int .i64 y) j1
       clear ss hx hy FQ hp SF hkl hyb mp hmm j0 j1 j1' j2 j3 j4 hok
       have lV := bS wr
       have zc := kC.out _ qi
       have rZ := kI.out _ lV
       go_wp2_with fail
       clear zc rZ
       have hO := aa (fun (u : World) (h : Hid (Below w0.heap.size w0 u ∧ Below wA.heap.size wA u ∧ Below wr.heap.size wr u)) => And.intro (kC.out u (aa h.out.1)) (kI.out u (aa h.out.2.2)))
       refine t_ (fun u => Below w0.heap.size w0 u ∧ Below wA.heap.size wA u ∧ Below wr.heap.size wr u) [] (bb3 (aa ⟨qi.out, qC.out, lV.out⟩) ((Below.refl _ _).drew)) (fun hHeld => ?_)
       refine aT 0 1 2 3 ?_
       refine aH 4 ?_
       refine aH 5 ?_
       refine aH 6 ?_
       refine bW 7 fun K hK => ?_
       go_simp
       refine (Hz P Q G y x p ck1 HP (by omega) (by omega) _ (kV.out _ (aa hHeld.out.1))).mono ?_
       rintro e wA ⟨rfl, bM⟩
       refine hK.out _ _ (bb3 hHeld bM) (fun hHeld => ?_)
       clear hK K
       refine aT 8 9 10 11 ?_
       refine aH 12 ?_
       refine gz ?_
       clear hO
       have Gx := (aa hHeld.out.1)
       have Uu := (aa hHeld.out.2.1)
       have NC := (aa hHeld.out.2.2)
       clear hHeld
       have zc := kC.out _ Gx
       have rZ := kI.out _ NC
       go_wp2_with fail
       clear zc rZ
       refine rW Gx Uu NC (BM P Q G s9 p t9 ck2 HT9 hQ _ (kV.out _ Gx)) fun w7 GI Iu Ir => ?_
       have zc := kC.out _ GI
       have rZ := kI.out _ Ir
       go_wp2
       go_roundw
       case rel => exact ⟨j + 1, by omega, by go_num, by rw [SS.out], Iu⟩
       case measure => simp [intOf]; omega
      ·
       obtain rfl : j = m := by omega
       obtain ⟨s9, FQ⟩ : ∃ x, Jj P Q (Cu ps) (vk Q ((jR ps).take j) 0) j = x := ⟨_, rfl⟩
       rw [FQ] at hmm ⊢
       have HS9 := aa FQ
       have ck1 : Hid (jE P Q G [s9] = 0) := aa (rH iU.out (by simp [hmm]))
       have HMM := aa hmm
       clear hmm FQ
       have zc := kC.out _ qi
       go_wp2_with fail
       refine (PD P Q G s9 ck1 hQ _ (kV.out _ qi)).mono ?_
       intro e w6 hI
       obtain ⟨xi, rfl, x0, x1, hxi, hb0⟩ := hI
       have HXI := aa hxi
       clear hxi
       have uZ := bY qi hb0
       have xX := bY QW hb0
       have Qm := bY qC hb0
       clear zc hb0
       have zc := kC.out _ uZ
       have mxi := O7 q1 (by omega) HMM.out x0 x1 HXI.out
       have aaW : Hid (E2 * xi % P = Ct P Q E2 (Cu ps) (vk Q ((jR ps).take j) 0) j) := aa (Em q1 (by omega) (by have := fE m2.out; omega) (fF m2.out) (fun i hi => pI (xA (uX oM.out (show i < ps.length by have := hn.out; omega)))) (by rw [HS9.out]; exact HXI.out))
       have ck2 : Hid (jE P Q G [E2, xi] = 0) := aa (rH iU.out (by simp [m2.out, mxi]))
       clear mxi
       go_wp2_with fail
       clear zc
       refine rW uZ xX Qm (BM P Q G E2 xi _ ck2 aaW hQ _ (kV.out _ uZ)) fun w7 GI Ir Iu => ?_
       have zc := kC.out _ GI
       have bV := ag ai.out GI.out
       go_wp2
       go_ret2
       exact ⟨by rw [HVF.out, HF.out]; rfl, bV⟩
   ·
    have HF : Hid (jg P Q (m : Int) kn E1 E2 ps = 8) := aa (by rw [jg, m1.out, m2.out, oM.out]; simp [hnt])
    have xw := aa hnt
    clear hnt
    go_wp2_with fail
    clear zc
    refine MU au bG (Ac AX (jR ps) k cX true (aa ⟨fun h => (by cases h), fun h => absurd h xw.out⟩) UA (by omega) XT _ (kX.out _ bG)) fun w4 dm dx => ?_
    have zc := kC.out _ dm
    have bV := ag ai.out dm.out
    go_wp2
    go_ret2
    exact ⟨by rw [nN, HF.out]; rfl, bV⟩
end Go.Proofs.YtchcllcbknfikaaGreatDoor
namespace Go.Proofs.YtchcllcbknfikaaGreatDoor
open Go.ChangeShapes Go.WideShapes Go.ChangeAt Go.RowKit rQ
theorem MX : Tryz.prog.cellsOf 26 = 3 := by kernel_rfl
theorem AQ : Tryz.prog.cellsOf 56 = 5 := by kernel_rfl
section
variable {H : Type} {enc : TypeId × Value → H} {w : World} {base : Nat} {held : Bool}
theorem Ll {r : Reach} {b0 : Nat} {v : Value} {d : DataW H} {ps : List MemPlace} (hval : Value.okWide Tryz.prog w r b0 26 v) (hd : DataW.Trod enc Tryz.prog w base (fun _ => true) held 26 v d ps) :
  ∃ (need : Int) (Cs : Option Addr) (cn cc : Nat) (cs : List Int) (Ks : Option Addr) (kn kc : Nat) (ks : List Int), v = .agg #[.int .i64 need, .slice Cs cn cc, .slice Ks kn kc] ∧ -9223372036854775808 ≤ need ∧ need ≤ 9223372036854775807 ∧ cs.length = cn ∧ ks.length = kn ∧ Sl w Cs cs ∧ Sl w Ks ks := by
 obtain ⟨cs, rfl, hsz⟩ := okWide_struct Tryz.underlying26 hval
 obtain ⟨n, h⟩ := hd
 obtain ⟨xs, m, rfl, _, hl, hxl, hf⟩ := DataW.trod_struct Tryz.underlying26 h
 rw [MX] at hl
 obtain ⟨cl⟩ := cs
 simp only [Value.cells] at hl hf
 match cl, hl with
 | [c0, c1, c2], _ =>
  have f0 : DataW.trod enc Tryz.prog w base (fun _ => true) held m 3 (([c0, c1, c2].drop 0).take (Tryz.prog.cellsOf 3)) = xs[0]? := hf 0 _ rfl
  have f1 : DataW.trod enc Tryz.prog w base (fun _ => true) held m 24 (([c0, c1, c2].drop 1).take (Tryz.prog.cellsOf 24)) = xs[1]? := hf 1 _ rfl
  have f2 : DataW.trod enc Tryz.prog w base (fun _ => true) held m 24 (([c0, c1, c2].drop 2).take (Tryz.prog.cellsOf 24)) = xs[2]? := hf 2 _ rfl
  rw [Es] at f1 f2
  rw [kG] at f0
  have hl3 : xs.length = 3 := hxl
  match xs, hl3 with
  | [x0, x1, x2], _ =>
   obtain ⟨N, hN, _, wN⟩ := DataW.trod_int Tryz.underlying3 f0
   obtain ⟨RA, hA, oA⟩ := open_row f1
   obtain ⟨RZ, hZ, oZ⟩ := open_row f2
   simp at hA hN hZ
   subst hA; subst hN; subst hZ
   have hb : -9223372036854775808 ≤ N ∧ N ≤ 9223372036854775807 := by
    simp [Lit.wf, IntKind.min, IntKind.max, IntKind.signed, IntKind.bits] at wN
    omega
   exact ⟨N, RA.p, RA.n, RA.c, RA.xs, RZ.p, RZ.n, RZ.c, RZ.xs, rfl, hb.1, hb.2, oA.1, oZ.1, oA.2, oZ.2⟩
def paC (p : a_) : List Value := [.int .i64 p.ix, .int .i64 p.v, .slice p.A p.na p.ca, .int .i64 p.C, .slice p.Z p.nz p.cz]
theorem rM (b o k : Nat) (spot : Option Nat) (h : spot = none) : (⟨b, o, spot⟩ : Addr).add k = ⟨b, o + k, none⟩ := by
 subst h
 unfold Addr.add
 split
 · rename_i h0; subst h0; rfl
 · rfl
end
theorem Ep {cl : List Value} : ∀ (k : Nat), (∀ i, i < k → ∃ z : Int, (cl.drop i).take 1 = [.int .u8 z] ∧ 0 ≤ z ∧ z < 256) → ∃ h : List Int, h.length = k ∧ cl.take k = h.map (.int .u8) ∧ az h = true
 | 0, _ => ⟨[], rfl, by simp, rfl⟩
 | k + 1, hf => by
  obtain ⟨h, h1, h2, h3⟩ := Ep k (fun i hi => hf i (by omega))
  obtain ⟨z, hz, z0, z1⟩ := hf k (by omega)
  refine ⟨h ++ [z], by simp [h1], by rw [List.take_add, h2, hz, List.map_append]; rfl, ?_⟩
  rw [dG, h3]
  simp [az, z0, z1]
section
variable {H : Type} {enc : TypeId × Value → H} {w : World} {base : Nat} {held : Bool}
theorem AR : Tryz.prog.cellsOf 41 = 32 := by kernel_rfl
end
end Go.Proofs.YtchcllcbknfikaaGreatDoor
namespace Go.Proofs.YtchcllcbknfikaaGreatDoor
open Go.RowKit rQ
def Nj : Nat → (List Bool → Bool) → Bool
 | 0, p => p []
 | n + 1, p => Nj n (fun l => p (true :: l)) && Nj n (fun l => p (false :: l))
theorem rJ : ∀ {n : Nat} {p : List Bool → Bool}, Nj n p = true → ∀ l, l.length = n → p l = true
 | 0, p, h, l, hl => by
  obtain rfl : l = [] := List.eq_nil_of_length_eq_zero hl
  exact h
 | n + 1, p, h, l, hl => by
  cases l with
  | nil => simp at hl
  | cons b l =>
   simp only [Nj, Bool.and_eq_true] at h
   cases b
   · exact rJ h.2 l (by simpa using hl)
   · exact rJ h.1 l (by simpa using hl)
def cntF (l : Array Bool) : Nat := l.toList.count false
theorem count_set {l : List Bool} : ∀ {i : Nat}, l[i]? = some false → (l.set i true).count false + 1 = l.count false := by
 induction l with
 | nil => intro i h; simp at h
 | cons b l ih =>
  intro i h
  cases i with
  | zero => simp only [List.getElem?_cons_zero, Option.some.injEq] at h; subst h; simp
  | succ i =>
   have := ih (i := i) (by simpa using h)
   rw [List.set_cons_succ, List.count_cons, List.count_cons]
   omega
theorem En {l : Array Bool} {i : Nat} (h : l.getD i true = false) : cntF (l.setIfInBounds i true) + 1 = cntF l := by
 have h2 : l.toList[i]? = some false := by
  rcases Nat.lt_or_ge i l.size with h' | h'
  · simp [h'] at h; simp [h', h]
  · simp [Array.getD, Nat.not_lt.2 h'] at h
 rw [cntF, cntF, Array.toList_setIfInBounds]
 exact count_set h2
def NP (l0 : Array Bool) (OP : List Nat) (bs : List Bool) : Array Bool := (OP.zip bs).foldl (fun a p => a.setIfInBounds p.1 p.2) l0
def jb (D N : List (List Nat)) (bs : List Bool) (j : Nat) : Bool := !(bs.getD j true) && ((D.getD j []).all (fun d => bs.getD d false) && (N.getD j []).all (fun d => !(bs.getD d true)))
def O1 (D : List (List Nat)) (bs : List Bool) : Bool := (List.range bs.length).all fun j => !(bs.getD j false) || (D.getD j []).all (fun d => bs.getD d false)
def VL (md : Region.Mode) (ops : Array Oper) (OP : List Nat) (D N : List (List Nat)) (rest fuel : Nat) (l0 full : Array Bool) : Bool :=
 NP l0 OP (List.replicate OP.length false) == l0 && (NP l0 OP (List.replicate OP.length true) == full && (cntF full == rest && (cntF l0 == fuel && (O1 D (List.replicate OP.length false) &&
 Nj OP.length fun bs => !(O1 D bs) || (bs == List.replicate OP.length true || (!(Region.ready md ops (NP l0 OP bs)).isEmpty && (Region.ready md ops (NP l0 OP bs)).all fun i => (List.range OP.length).any fun j =>
  OP[j]? == some i && (jb D N bs j && (O1 D (bs.set j true) && (NP l0 OP (bs.set j true) == (NP l0 OP bs).setIfInBounds i true)))))))))
section
variable {P : Program} {ops : Array Oper} {Q : Exit → Act → World → Prop} {md : Region.Mode} {S : World → Prop} {E : List Nat}
def stp (P : Program) (ops : Array Oper) (Q : Exit → Act → World → Prop) (S : World → Prop) (D N : List (List Nat)) (I : List Bool → Act → World → Prop) (j i : Nat) : Prop :=
 ∀ bs a w, I bs a w → jb D N bs j = true → ∃ o, ops[i]? = some o ∧ ∀ K' : Act → World → Prop, Shut (∀ a' w', S w' → I (bs.set j true) a' w' → K' a' w') → if Region.wanted o (yielded ops a.tmps) = true then Oper.wp P o a w K' Q else K' (a.put o.dst undef) w
def Rl (P : Program) (ops : Array Oper) (Q : Exit → Act → World → Prop) (S : World → Prop) (D N : List (List Nat)) (I : List Bool → Act → World → Prop) : Nat → List Nat → Prop
 | _, [] => True
 | j, i :: l => stp P ops Q S D N I j i ∧ Rl P ops Q S D N I (j + 1) l
theorem C_ {D N : List (List Nat)} {I : List Bool → Act → World → Prop} : ∀ {l : List Nat} {k j i : Nat}, Rl P ops Q S D N I k l → l[j]? = some i → stp P ops Q S D N I (k + j) i
 | [], _, _, _, _, h => by simp at h
 | x :: l, k, 0, i, h, hj => by
  simp only [List.getElem?_cons_zero, Option.some.injEq] at hj
  subst hj
  exact h.1
 | x :: l, k, j + 1, i, h, hj => by
  have := C_ (j := j) (i := i) h.2 (by simpa using hj)
  rw [show k + (j + 1) = k + 1 + j by omega]
  exact this
theorem Oo {fuel : Nat} {l0 : Array Bool} {a0 : Act} {w0 : World} (OP : List Nat) (D N : List (List Nat)) (rest : Nat) (full : Array Bool) (I : List Bool → Act → World → Prop)
  (h0 : I (List.replicate OP.length false) a0 w0) (hfin : ∀ bs a w, bs.all (fun b => b) = true → I bs a w → kM P md ops Q S E rest full a w) (hgo : Rl P ops Q S D N I 0 OP)
  (hck : VL md ops OP D N rest fuel l0 full = true := by kernel_rfl) : kM P md ops Q S E fuel l0 a0 w0 := by
 simp only [VL, Bool.and_eq_true, beq_iff_eq] at hck
 obtain ⟨c1, c2, c3, c4, c5, c6⟩ := hck
 have main : ∀ (n : Nat) (bs : List Bool) (a : Act) (w : World), bs.length = OP.length → O1 D bs = true → I bs a w → cntF (NP l0 OP bs) = n → kM P md ops Q S E n (NP l0 OP bs) a w := by
  intro n
  induction n with
  | zero =>
   intro bs a w hl hok hI hn
   have h := rJ c6 bs hl
   simp only [hok, Bool.not_true, Bool.false_or, Bool.or_eq_true, beq_iff_eq, Bool.and_eq_true] at h
   rcases h with rfl | ⟨h1, h2⟩
   ·
    rw [c2] at hn ⊢
    have := hfin _ a w (by simp) hI
    rw [← c3, hn] at this
    exact this
   ·
    exfalso
    cases hr : Region.ready md ops (NP l0 OP bs) with
    | nil => rw [hr] at h1; simp at h1
    | cons i l =>
     have hi := (mem_ready.1 (show i ∈ Region.ready md ops (NP l0 OP bs) by rw [hr]; simp)).1
     have := En hi
     omega
  | succ n ih =>
   intro bs a w hl hok hI hn
   have h := rJ c6 bs hl
   simp only [hok, Bool.not_true, Bool.false_or, Bool.or_eq_true, beq_iff_eq, Bool.and_eq_true] at h
   rcases h with rfl | ⟨h1, h2⟩
   ·
    rw [c2] at hn ⊢
    have := hfin _ a w (by simp) hI
    rw [← c3, hn] at this
    exact this
   ·
    refine ⟨fun e => by rw [e] at h1; simp at h1, fun i hi => ?_⟩
    have h3 := List.all_eq_true.1 h2 i hi
    obtain ⟨j, hj, h4⟩ := List.any_eq_true.1 h3
    simp only [Bool.and_eq_true, beq_iff_eq] at h4
    obtain ⟨e1, e2, e3, e4⟩ := h4
    have hs := C_ hgo e1
    rw [Nat.zero_add] at hs
    obtain ⟨o, ho, hstep⟩ := hs bs a w hI e2
    refine wpOp_step ho (fun K' hK => hstep K' (fun a' w' hS hI' => hK a' w' ⟨fun _ => hS, ?_⟩))
    rw [← e4]
    have hc := En (mem_ready.1 hi).1
    exact ih (bs.set j true) a' w' (by rw [List.length_set]; exact hl) e3 hI' (by rw [e4]; omega)
 have := main fuel (List.replicate OP.length false) a0 w0 (by simp) c5 h0 (by rw [c1, c4])
 rw [c1] at this
 exact this
theorem Yf {fuel : Nat} {listed : Array Bool} {a : Act} {w : World} (h : ∀ a0 : Act, a0 = a → kM P md ops Q S E fuel listed a0 w) : kM P md ops Q S E fuel listed a w := h _ rfl
end
structure aJ where
 num : Int
 rs : ByteArray
 E1 : Int
 E2 : Int
 A : Option Addr
 na : Nat
 ca : Nat
 al : List Int
 C : Int
 Z : Option Addr
 nz : Nat
 cz : Nat
 zs : List Int
 L : Option Addr
 np : Nat
 cp : Nat
 ps : List a_
 key : Int
abbrev iF : aJ := ⟨0, ⟨#[]⟩, 0, 0, none, 0, 0, [], 0, none, 0, 0, [], none, 0, 0, [], 0⟩
abbrev wU (o : aJ) : Value := .agg #[.int .i64 o.num, .string o.rs, .int .i64 o.E1, .int .i64 o.E2, .slice o.A o.na o.ca, .int .i64 o.C, .slice o.Z o.nz o.cz, .slice o.L o.np o.cp, .int .i64 o.key]
abbrev vo (o : aJ) : Obj := .cells #[.int .i64 o.num, .string o.rs, .int .i64 o.E1, .int .i64 o.E2, .slice o.A o.na o.ca, .int .i64 o.C, .slice o.Z o.nz o.cz, .slice o.L o.np o.cp, .int .i64 o.key] 104
abbrev G7 (p : a_) : Value := .agg #[.int .i64 p.ix, .int .i64 p.v, .slice p.A p.na p.ca, .int .i64 p.C, .slice p.Z p.nz p.cz]
abbrev uf (p : a_) : Obj := .cells #[.int .i64 p.ix, .int .i64 p.v, .slice p.A p.na p.ca, .int .i64 p.C, .slice p.Z p.nz p.cz] 56
def gy (w : World) (o : aJ) : Prop := o.al.length = o.na ∧ o.zs.length = o.nz ∧ (o.ps.length = o.np ∧ o.np ≤ o.cp) ∧ Sl w o.A o.al ∧ Sl w o.Z o.zs ∧ Pa w o.L o.ps
theorem gy.below {w w' : World} {o : aJ} (h : gy w o) (hb : Below w.heap.size w w') : gy w' o :=
 ⟨h.1, h.2.1, h.2.2.1, h.2.2.2.1.below hb, h.2.2.2.2.1.below hb, h.2.2.2.2.2.below hb⟩
def P5 (w : World) (b k : Nat) (o : aJ) : Prop := w.cell? ⟨b, k, none⟩ = some (.int .i64 o.num) ∧ w.cell? ⟨b, k + 1, none⟩ = some (.string o.rs) ∧ w.cell? ⟨b, k + 2, none⟩ = some (.int .i64 o.E1) ∧ w.cell? ⟨b, k + 3, none⟩ = some (.int .i64 o.E2) ∧ w.cell? ⟨b, k + 4, none⟩ = some (.slice o.A o.na o.ca) ∧ w.cell? ⟨b, k + 5, none⟩ = some (.int .i64 o.C) ∧ w.cell? ⟨b, k + 6, none⟩ = some (.slice o.Z o.nz o.cz) ∧ w.cell? ⟨b, k + 7, none⟩ = some (.slice o.L o.np o.cp) ∧ w.cell? ⟨b, k + 8, none⟩ = some (.int .i64 o.key)
theorem P5.below {w w' : World} {b k : Nat} {o : aJ} (h : P5 w b k o) (hb : Below w.heap.size w w') : P5 w' b k o := by
 obtain ⟨h0, h1, h2, h3, h4, h5, h6, h7, h8⟩ := h
 exact ⟨cell_below h0 hb, cell_below h1 hb, cell_below h2 hb, cell_below h3 hb, cell_below h4 hb, cell_below h5 hb, cell_below h6 hb, cell_below h7 hb, cell_below h8 hb⟩
def Os (w : World) (O : Option Addr) (os : List aJ) : Prop := ∀ k, k < os.length → ∃ b o, O = some ⟨b, o, none⟩ ∧ P5 w b (o + k * 9) (os.getD k iF) ∧ gy w (os.getD k iF)
theorem Os.below {w w' : World} {O : Option Addr} {os : List aJ} (h : Os w O os) (hb : Below w.heap.size w w') : Os w' O os := fun k hk => by
 obtain ⟨b, o, h1, h2, h3⟩ := h k hk
 exact ⟨b, o, h1, h2.below hb, h3.below hb⟩
def tZ (na nz : Nat) : Bool := decide (na ≤ 20) && decide (nz ≤ 20)
def IY (s : ByteArray) : Bool := decide (1 ≤ s.size) && decide (s.size ≤ 200)
def BN (ps : List a_) (x : Int) : Nat → Bool
 | 0 => true
 | k + 1 => BN ps x k && ((ps.getD k aF).ix != x)
def uB (ps : List a_) (k : Nat) : Bool := decide (1 ≤ (ps.getD k aF).ix) && (decide ((ps.getD k aF).ix ≤ 8) && (BN ps (ps.getD k aF).ix k && tZ (ps.getD k aF).na (ps.getD k aF).nz))
def jI (ps : List a_) : Nat → Bool
 | 0 => true
 | k + 1 => jI ps k && uB ps k
def zF (o : aJ) : Bool := decide (0 ≤ o.num) && (decide (o.num < 100) && (IY o.rs && (tZ o.na o.nz && (decide (o.np ≤ 8) && (decide (0 ≤ o.key) && jI o.ps o.np)))))
theorem Aj {ps : List a_} {k : Nat} (h : jI ps k = false) : ∀ m, k ≤ m → jI ps m = false
  | 0, hm => by obtain rfl : k = 0 := by omega
                exact h
  | m + 1, hm => by
    by_cases e : k = m + 1
    · rw [← e]; exact h
    · rw [jI, Aj h m (by omega)]; rfl
theorem ku {ps : List a_} {k m : Nat} (h : uB ps k = false) (hk : k < m) : jI ps m = false := Aj (k := k + 1) (by rw [jI, h, Bool.and_false]) m (by omega)
def EH (ps : List a_) (x r : Int) : Prop := (r = -1 ∧ BN ps x ps.length = true) ∨ ∃ k : Nat, k < ps.length ∧ r = (k : Int) ∧ (ps.getD k aF).ix = x ∧ BN ps x k = true
theorem rG {ps : List a_} {x : Int} : ∀ {k : Nat}, BN ps x k = true → ∀ j, j < k → (ps.getD j aF).ix ≠ x
 | 0, _, j, hj => absurd hj (by omega)
 | k + 1, h, j, hj => by
  simp only [BN, Bool.and_eq_true, bne_iff_ne, ne_eq] at h
  by_cases e : j = k
  · subst e; exact h.2
  · exact rG h.1 j (by omega)
theorem MG {ps : List a_} {x : Int} : ∀ {k : Nat}, BN ps x k = false → ∃ j, j < k ∧ (ps.getD j aF).ix = x
 | 0, h => by cases h
 | k + 1, h => by
  cases h1 : BN ps x k with
  | false => obtain ⟨j, hj, e⟩ := MG h1; exact ⟨j, by omega, e⟩
  | true =>
   rw [BN, h1, Bool.true_and] at h
   exact ⟨k, by omega, by simpa using h⟩
theorem F9 {ps : List a_} {k : Nat} {x r : Int} {b : Bool} (hk : k < ps.length) (hx : (ps.getD k aF).ix = x) (h : EH ps x r) (hb : BN ps x k = b) : (r != (k : Int)) = !b := by
 rcases h with ⟨rfl, h⟩ | ⟨j, hj, rfl, h1, h2⟩
 · exact absurd hx (rG h k hk)
 ·
  cases b with
  | true =>
   have h3 : ¬ j < k := fun hlt => rG hb j hlt h1
   have h4 : ¬ k < j := fun hlt => rG h2 k hlt hx
   have : j = k := by omega
   subst this
   simp
  | false =>
   obtain ⟨i, hi, he⟩ := MG hb
   have h3 : ¬ i < j := fun hlt => rG h2 i hlt he
   simp; omega
theorem fK (A : Option Addr) (na ca : Nat) (C : Int) (Z : Option Addr) (nz cz : Nat) (r : Bool) (hr : Hid (tZ na nz = r)) (w : World) :
  Calls Tryz.prog 119 #[iL A na ca C Z nz cz] w (Rt w (.bool r)) := by
 have HX := af w (eG A na ca C Z nz cz)
 have hr1 := hr.out
 unfold tZ at hr1
 by_cases h0 : na ≤ 20
 ·
  have d0 : decide ((na : Int) ≤ 20) = true := by simp; omega
  by_cases h1 : nz ≤ 20
  ·
   have d1 : decide ((nz : Int) ≤ 20) = true := by simp; omega
   obtain rfl : r = true := by rw [← hr1]; simp; omega
   clear hr1 hr
   go_in
   go_wp2
   go_ret
   exact ⟨rfl, HX⟩
  ·
   have d1 : decide ((nz : Int) ≤ 20) = false := by simp; omega
   obtain rfl : r = false := by rw [← hr1]; simp; omega
   clear hr1 hr
   go_in
   go_wp2
   go_ret
   exact ⟨rfl, HX⟩
 ·
  have d0 : decide ((na : Int) ≤ 20) = false := by simp; omega
  obtain rfl : r = false := by rw [← hr1]; simp; omega
  clear hr1 hr
  go_in
  go_wp2
  go_ret
  exact ⟨rfl, HX⟩
theorem jc (s : ByteArray) (r : Bool) (hr : Hid (IY s = r)) (w : World) :
  Calls Tryz.prog 118 #[.string s] w fun e' w' => e' = .returned (.bool r) ∧ w' = w := by
 have hr1 := hr.out
 unfold IY at hr1
 by_cases h0 : 1 ≤ s.size
 ·
  have d0 : decide ((1 : Int) ≤ (s.size : Int)) = true := by simp; omega
  by_cases h1 : s.size ≤ 200
  ·
   have d1 : decide ((s.size : Int) ≤ 200) = true := by simp; omega
   obtain rfl : r = true := by rw [← hr1]; simp; omega
   clear hr1 hr
   go_in
   go_wp2
   go_ret
   exact ⟨rfl, rfl⟩
  ·
   have d1 : decide ((s.size : Int) ≤ 200) = false := by simp; omega
   obtain rfl : r = false := by rw [← hr1]; simp; omega
   clear hr1 hr
   go_in
   go_wp2
   go_ret
   exact ⟨rfl, rfl⟩
 ·
  have d0 : decide ((1 : Int) ≤ (s.size : Int)) = false := by simp; omega
  obtain rfl : r = false := by rw [← hr1]; simp; omega
  clear hr1 hr
  go_in
  go_wp2
  go_ret
  exact ⟨rfl, rfl⟩
theorem Az (p : a_) (a : Nat) (x : Int) (r : Bool) (hr : Hid ((p.ix == x) = r)) (w : World) (hx : Hid (w.cell? ⟨a, 0, none⟩ = some (.int .i64 x))) :
  Calls Tryz.prog 125 #[G7 p, .pointer (some ⟨a, 0, none⟩)] w (Rt w (.bool r)) := by
 have hb := af w (uf p)
 have c0 := cell_below hx.out hb
 have d0 := hr.out
 clear hx
 go_in
 go_wp2
 go_ret
 exact ⟨by first | rfl | rw [d0], hb⟩
theorem L8 (a : Nat) (x : Int) (L : Option Addr) (ps : List a_) (n c : Nat) (hn : Hid (ps.length = n)) (hbig : n < 1000000) (w : World) (hs : Hid (Pa w L ps)) (hx : Hid (w.cell? ⟨a, 0, none⟩ = some (.int .i64 x))) :
  Calls Tryz.prog 124 #[.slice L n c, .func (.func 125) #[] #[.pointer (some ⟨a, 0, none⟩)]] w fun e w' => ∃ i : Int, e = .returned (.int .i64 i) ∧ EH ps x i ∧ Below w.heap.size w w' := by
 go_in
 go_wp2
 go_loopw [8] (fun i wr => ∃ k : Nat, k ≤ n ∧ i = .int .i64 k ∧ Hid (BN ps x k = true) ∧ Hid (Below w.heap.size w wr)) (fun i _ => n - (intOf i).toNat)
 case atStart => exact ⟨0, by omega, rfl, aa rfl, aa (Below.refl _ _)⟩
 case round =>
  obtain ⟨k, hk, rfl, HR, au⟩ := hrel
  by_cases hlt : k < n
  ·
   have hkl : k < ps.length := by rw [hn.out]; exact hlt
   obtain ⟨b, o, hA, i0, i1, i2, i3, i4, _⟩ := (hs.out.below au.out) k hkl
   subst hA
   have HXr : Hid (wr.cell? ⟨a, 0, none⟩ = some (.int .i64 x)) := aa (cell_below hx.out au.out)
   cases hpx : ((ps.getD k aF).ix == x) with
   | false =>
    have HN : Hid (BN ps x (k + 1) = true) := aa (by rw [BN, HR.out, bne, hpx]; rfl)
    obtain ⟨p, hp⟩ : ∃ p, ps.getD k aF = p := ⟨_, rfl⟩
    rw [hp] at i0 i1 i2 i3 i4 hpx
    have zl := aa hpx
    clear hp hkl hpx HR
    go_wp2_with fail
    refine (Az p a x false zl wr HXr).mono ?_
    rintro e w2 ⟨rfl, hb0⟩
    have HB2 := aa (ag au.out hb0)
    clear hb0 au i0 i1 i2 i3 i4
    go_wp2
    go_roundw
    case rel => exact ⟨k + 1, by omega, by go_num, HN, HB2⟩
    case measure => simp [intOf]; omega
   | true =>
    have HN : Hid (EH ps x (k : Int)) := aa (.inr ⟨k, hkl, rfl, by simpa using hpx, HR.out⟩)
    obtain ⟨p, hp⟩ : ∃ p, ps.getD k aF = p := ⟨_, rfl⟩
    rw [hp] at i0 i1 i2 i3 i4 hpx
    have zl := aa hpx
    clear hp hkl hpx HR
    go_wp2_with fail
    refine (Az p a x true zl wr HXr).mono ?_
    rintro e w2 ⟨rfl, hb0⟩
    have HB2 := aa (ag au.out hb0)
    clear hb0 au i0 i1 i2 i3 i4
    go_wp2
    go_ret
    exact ⟨k, rfl, HN.out, HB2.out⟩
  ·
   obtain rfl : k = n := by omega
   have HN : Hid (EH ps x (-1)) := aa (.inl ⟨rfl, by rw [hn.out]; exact HR.out⟩)
   clear HR
   go_wp2
   go_ret
   exact ⟨-1, rfl, HN.out, au.out⟩
theorem yZ (L : Option Addr) (ps : List a_) (n c : Nat) (x : Int) (hn : Hid (ps.length = n)) (hbig : n < 1000000) (w : World) (hs : Hid (Pa w L ps)) :
  Calls Tryz.prog 73 #[.slice L n c, .int .i64 x] w fun e w' => ∃ i : Int, e = .returned (.int .i64 i) ∧ EH ps x i ∧ Below w.heap.size w w' := by
 have hb := af w (.cells #[.int .i64 x] 3)
 have HXc : Hid ((w.alloc (.cells #[.int .i64 x] 3)).cell? ⟨w.heap.size, 0, none⟩ = some (.int .i64 x)) := aa (ak (heap_alloc_new _ _) 0)
 have HP := aa (hs.out.below hb)
 have HB := aa hb
 clear hb
 go_in
 go_wp2_with fail
 refine (L8 w.heap.size x L ps n c hn hbig _ HP HXc).mono ?_
 rintro e w2 ⟨i, rfl, hi, hb0⟩
 have HI := aa hi
 have HB2 := aa (ag HB.out hb0)
 clear hi hb0
 go_wp2
 go_ret
 exact ⟨i, rfl, HI.out, HB2.out⟩
theorem VF (o : aJ) (h : o.num < 0) (w : World) :
  Calls Tryz.prog 122 #[wU o] w (Rt w (.bool false)) := by
 have H9 : decide (o.num < 0) = true := by simp; omega
 obtain ⟨w0, HW, ai, kC⟩ := st1 (vo o) xM w
 have ah := bS w0
 go_in
 go_upto_region 1 with (fail)
 rw [HW.out]
 have zc := kC.out _ ah
 go_wp2
 go_ret
 exact ⟨rfl, fe ai ah⟩
theorem VE (o : aJ) (h1 : 0 ≤ o.num) (h : 100 ≤ o.num) (w : World) :
  Calls Tryz.prog 122 #[wU o] w (Rt w (.bool false)) := by
 have H9 : decide (o.num < 0) = false := by simp; omega
 have ES : decide ((100 : Int) ≤ o.num) = true := by simp; omega
 obtain ⟨w0, HW, ai, kC⟩ := st1 (vo o) xM w
 have ah := bS w0
 go_in
 go_upto_region 1 with (fail)
 rw [HW.out]
 have zc := kC.out _ ah
 go_wp2
 go_ret
 exact ⟨rfl, fe ai ah⟩
theorem VD (o : aJ) (h1 : 0 ≤ o.num) (h2 : o.num < 100) (hrs : Hid (IY o.rs = false)) (w : World) :
  Calls Tryz.prog 122 #[wU o] w (Rt w (.bool false)) := by
 have H9 : decide (o.num < 0) = false := by simp; omega
 have ES : decide ((100 : Int) ≤ o.num) = false := by simp; omega
 obtain ⟨w0, HW, ai, kC⟩ := st1 (vo o) xM w
 have ah := bS w0
 go_in
 go_upto_region 1 with (fail)
 rw [HW.out]
 have zc := kC.out _ ah
 go_wp2_with fail
 refine (jc o.rs false hrs _).mono ?_
 rintro e9 w9 ⟨rfl, uM⟩
 rw [uM]
 clear uM
 go_wp2
 go_ret
 exact ⟨rfl, fe ai ah⟩
theorem VC (o : aJ) (h1 : 0 ≤ o.num) (h2 : o.num < 100) (hrs : Hid (IY o.rs = true)) (hsh : Hid (tZ o.na o.nz = false)) (w : World) :
  Calls Tryz.prog 122 #[wU o] w (Rt w (.bool false)) := by
 have H9 : decide (o.num < 0) = false := by simp; omega
 have ES : decide ((100 : Int) ≤ o.num) = false := by simp; omega
 obtain ⟨w0, HW, ai, kC⟩ := st1 (vo o) xM w
 have ah := bS w0
 go_in
 go_upto_region 1 with (fail)
 rw [HW.out]
 have zc := kC.out _ ah
 go_wp2_with fail
 refine (jc o.rs true hrs _).mono ?_
 rintro e9 w9 ⟨rfl, uM⟩
 rw [uM]
 clear uM
 go_wp2_with fail
 clear zc
 refine eB kC ah (fK o.A o.na o.ca o.C o.Z o.nz o.cz false hsh _) fun w1 aD zc => ?_
 go_wp2
 go_ret
 exact ⟨rfl, fe ai aD⟩
theorem VB (o : aJ) (h1 : 0 ≤ o.num) (h2 : o.num < 100) (hrs : Hid (IY o.rs = true)) (hsh : Hid (tZ o.na o.nz = true)) (h3 : ¬ o.np ≤ 8) (w : World) :
  Calls Tryz.prog 122 #[wU o] w (Rt w (.bool false)) := by
 have H9 : decide (o.num < 0) = false := by simp; omega
 have ES : decide ((100 : Int) ≤ o.num) = false := by simp; omega
 have WE : decide ((8 : Int) < (o.np : Int)) = true := by simp; omega
 obtain ⟨w0, HW, ai, kC⟩ := st1 (vo o) xM w
 have ah := bS w0
 go_in
 go_upto_region 1 with (fail)
 rw [HW.out]
 have zc := kC.out _ ah
 go_wp2_with fail
 refine (jc o.rs true hrs _).mono ?_
 rintro e9 w9 ⟨rfl, uM⟩
 rw [uM]
 clear uM
 go_wp2_with fail
 clear zc
 refine eB kC ah (fK o.A o.na o.ca o.C o.Z o.nz o.cz true hsh _) fun w1 aD zc => ?_
 go_wp2
 go_ret
 exact ⟨rfl, fe ai aD⟩
theorem VA (o : aJ) (h1 : 0 ≤ o.num) (h2 : o.num < 100) (hrs : Hid (IY o.rs = true)) (hsh : Hid (tZ o.na o.nz = true)) (h3 : o.np ≤ 8) (h4 : ¬ 0 ≤ o.key) (w : World) :
  Calls Tryz.prog 122 #[wU o] w (Rt w (.bool false)) := by
 have H9 : decide (o.num < 0) = false := by simp; omega
 have ES : decide ((100 : Int) ≤ o.num) = false := by simp; omega
 have WE : decide ((8 : Int) < (o.np : Int)) = false := by simp; omega
 have dk0 : decide (o.key < 0) = true := by simp; omega
 obtain ⟨w0, HW, ai, kC⟩ := st1 (vo o) xM w
 have ah := bS w0
 go_in
 go_upto_region 1 with (fail)
 rw [HW.out]
 have zc := kC.out _ ah
 go_wp2_with fail
 refine (jc o.rs true hrs _).mono ?_
 rintro e9 w9 ⟨rfl, uM⟩
 rw [uM]
 clear uM
 go_wp2_with fail
 clear zc
 refine eB kC ah (fK o.A o.na o.ca o.C o.Z o.nz o.cz true hsh _) fun w1 aD zc => ?_
 go_wp2
 go_ret
 exact ⟨rfl, fe ai aD⟩
theorem Vz (o : aJ) (h1 : 0 ≤ o.num) (h2 : o.num < 100) (hrs : Hid (IY o.rs = true)) (hsh : Hid (tZ o.na o.nz = true)) (h3 : o.np ≤ 8) (h4 : 0 ≤ o.key) (w : World) (ho : Hid (gy w o)) :
  Calls Tryz.prog 122 #[wU o] w (Rt w (.bool (jI o.ps o.np))) := by
 have H9 : decide (o.num < 0) = false := by simp; omega
 have ES : decide ((100 : Int) ≤ o.num) = false := by simp; omega
 have WE : decide ((8 : Int) < (o.np : Int)) = false := by simp; omega
 have dk0 : decide (o.key < 0) = false := by simp; omega
 obtain ⟨w0, HW, ai, kC⟩ := st1 (vo o) xM w
 have kO := gV (fun u => gy u o) ai ho (·.below)
 have ah := bS w0
 clear ho
 go_in
 go_upto_region 1 with (fail)
 rw [HW.out]
 have zc := kC.out _ ah
 go_wp2_with fail
 refine (jc o.rs true hrs _).mono ?_
 rintro e9 w9 ⟨rfl, uM⟩
 rw [uM]
 clear uM
 go_wp2_with fail
 clear zc
 refine eB kC ah (fK o.A o.na o.ca o.C o.Z o.nz o.cz true hsh _) fun w1 aD zc => ?_
 go_wp2
 clear zc
 go_loopw [40] (fun i wr => ∃ k : Nat, k ≤ o.np ∧ i = .int .i64 k ∧ Hid (jI o.ps k = true) ∧ Hid (Below w0.heap.size w0 wr)) (fun i _ => o.np - (intOf i).toNat)
 case atStart => exact ⟨0, by omega, rfl, aa rfl, aD⟩
 case round =>
  obtain ⟨k, hk, rfl, HR, au⟩ := hrel
  by_cases hlt : k < o.np
  ·
   obtain ⟨ok1, Ze, ⟨UT, Yi⟩, Zd, Zc, Sc⟩ := (kO.out _ au).out
   have hkl : k < o.ps.length := by rw [UT]; exact hlt
   obtain ⟨b, f, hA, j0, j1, j2, j3, j4, j5⟩ := Sc k hkl
   clear j5
   have zQ := aa hA
   have J9 := aa Sc
   have J8 := aa UT
   clear ok1 Ze Zd Zc Sc Yi
   obtain ⟨p, hp⟩ : ∃ p, o.ps.getD k aF = p := ⟨_, rfl⟩
   have nU := aa hp
   rw [hp] at j0 j1 j2 j3 j4
   clear hp UT hA
   rw [zQ.out]
   by_cases hx0 : p.ix < 1
   ·
    have HF : Hid (jI o.ps o.np = false) := aa (ku (k := k) (by rw [uB, nU.out]; simp; omega) hlt)
    have UY : decide (p.ix < 1) = true := by simp; omega
    have hq := af wr (uf p)
    obtain ⟨q0, q1, q2, q3, q4⟩ : (wr.alloc (uf p)).cell? ⟨wr.heap.size, 0, none⟩ = some (.int .i64 p.ix) ∧ (wr.alloc (uf p)).cell? ⟨wr.heap.size, 1, none⟩ = some (.int .i64 p.v) ∧ (wr.alloc (uf p)).cell? ⟨wr.heap.size, 2, none⟩ = some (.slice p.A p.na p.ca) ∧ (wr.alloc (uf p)).cell? ⟨wr.heap.size, 3, none⟩ = some (.int .i64 p.C) ∧ (wr.alloc (uf p)).cell? ⟨wr.heap.size, 4, none⟩ = some (.slice p.Z p.nz p.cz) := ⟨dz rfl (by rfl), dz rfl (by rfl), dz rfl (by rfl), dz rfl (by rfl), dz rfl (by rfl)⟩
    have bV := ag ai.out (ag au.out hq)
    obtain ⟨zW, zV, Cq, Co, Cn, Cm, Ck, xZ, E5⟩ := kC.out _ au
    rw [zQ.out] at xZ
    clear zW zV Cq Co Cn Cm Ck xZ E5
    go_wp2
    go_ret
    exact ⟨(by rw [HF.out]; try rfl), bV⟩
   ·
    have UY : decide (p.ix < 1) = false := by simp; omega
    by_cases hx1 : 8 < p.ix
    ·
     have HF : Hid (jI o.ps o.np = false) := aa (ku (k := k) (by rw [uB, nU.out]; simp; omega) hlt)
     have WA : decide ((8 : Int) < p.ix) = true := by simp; omega
     have hq := af wr (uf p)
     obtain ⟨q0, q1, q2, q3, q4⟩ : (wr.alloc (uf p)).cell? ⟨wr.heap.size, 0, none⟩ = some (.int .i64 p.ix) ∧ (wr.alloc (uf p)).cell? ⟨wr.heap.size, 1, none⟩ = some (.int .i64 p.v) ∧ (wr.alloc (uf p)).cell? ⟨wr.heap.size, 2, none⟩ = some (.slice p.A p.na p.ca) ∧ (wr.alloc (uf p)).cell? ⟨wr.heap.size, 3, none⟩ = some (.int .i64 p.C) ∧ (wr.alloc (uf p)).cell? ⟨wr.heap.size, 4, none⟩ = some (.slice p.Z p.nz p.cz) := ⟨dz rfl (by rfl), dz rfl (by rfl), dz rfl (by rfl), dz rfl (by rfl), dz rfl (by rfl)⟩
     have bV := ag ai.out (ag au.out hq)
     obtain ⟨zW, zV, Cq, Co, Cn, Cm, Ck, xZ, E5⟩ := kC.out _ au
     rw [zQ.out] at xZ
     clear zW zV Cq Co Cn Cm Ck xZ E5
     go_wp2
     go_ret
     exact ⟨(by rw [HF.out]; try rfl), bV⟩
    ·
     have WA : decide ((8 : Int) < p.ix) = false := by simp; omega
     cases hfr : BN o.ps p.ix k with
     | true =>
      cases hss : tZ p.na p.nz with
      | true =>
       have HS : Hid (jI o.ps (k + 1) = true) := aa (by rw [jI, HR.out, uB, nU.out]; simp [hfr, hss]; omega)
       have NH := aa hfr
       have CB := aa hss
       clear hfr hss HR
       have XK := aa hkl
       clear hkl
       have dX := bS wr
       have kP := wh (w := wr) (fun u => Pa u o.L o.ps) J9.out (·.below)
       have zc := kC.out _ au
       obtain ⟨w2, hw, qb, Cc, -, kS⟩ := sI (uf p) sG wr
       have aN := pY au qb
       have aY := pY dX qb
       have bg := bS w2
       clear qb
       have oQ := kC.out _ aN
       have jG := kS.out _ bg
       go_wp2_with fail
       clear zc oQ jG hw
       have zc := kC.out _ aN
       have iR := kS.out _ bg
       clear j0 j1 j2 j3 j4
       clear zc iR
       have zc := kC.out _ aN
       have iR := kS.out _ bg
       go_wp2_with fail
       refine (yZ o.L o.ps o.np o.cp p.ix J8 (by omega) _ (kP.out _ aY)).mono ?_
       rintro e w3 ⟨ri, rfl, QA, hb0⟩
       have hne : (ri != (k : Int)) = false := F9 XK.out (by rw [nU.out]) QA NH.out
       clear QA
       have bu := bY aN hb0
       have bG := bY aY hb0
       have gu := bY bg hb0
       clear zc iR hb0
       have zc := kC.out _ bu
       have iR := kS.out _ gu
       go_wp2_with fail
       clear zc iR
       refine rW bu bG gu (fK p.A p.na p.ca p.C p.Z p.nz p.cz true CB _) fun w4 dm dx lX => ?_
       have zc := kC.out _ dm
       have iR := kS.out _ lX
       go_wp2
       go_roundw
       case rel => exact ⟨k + 1, by omega, by go_num, HS, dm⟩
       case measure => simp [intOf]; omega
      | false =>
       have HF : Hid (jI o.ps o.np = false) := aa (ku (k := k) (by rw [uB, nU.out]; simp [hss]) hlt)
       have NH := aa hfr
       have CB := aa hss
       clear hfr hss HR
       have XK := aa hkl
       clear hkl
       have dX := bS wr
       have kP := wh (w := wr) (fun u => Pa u o.L o.ps) J9.out (·.below)
       have zc := kC.out _ au
       obtain ⟨w2, hw, qb, Cc, -, kS⟩ := sI (uf p) sG wr
       have aN := pY au qb
       have aY := pY dX qb
       have bg := bS w2
       clear qb
       have oQ := kC.out _ aN
       have jG := kS.out _ bg
       go_wp2_with fail
       clear zc oQ jG hw
       have zc := kC.out _ aN
       have iR := kS.out _ bg
       clear j0 j1 j2 j3 j4
       clear zc iR
       have zc := kC.out _ aN
       have iR := kS.out _ bg
       go_wp2_with fail
       refine (yZ o.L o.ps o.np o.cp p.ix J8 (by omega) _ (kP.out _ aY)).mono ?_
       rintro e w3 ⟨ri, rfl, QA, hb0⟩
       have hne : (ri != (k : Int)) = false := F9 XK.out (by rw [nU.out]) QA NH.out
       clear QA
       have bu := bY aN hb0
       have bG := bY aY hb0
       have gu := bY bg hb0
       clear zc iR hb0
       have zc := kC.out _ bu
       have iR := kS.out _ gu
       go_wp2_with fail
       clear zc iR
       refine rW bu bG gu (fK p.A p.na p.ca p.C p.Z p.nz p.cz false CB _) fun w4 dm dx lX => ?_
       have zc := kC.out _ dm
       have iR := kS.out _ lX
       have bV := ag ai.out dm.out
       go_wp2
       go_ret
       exact ⟨(by rw [HF.out]; try rfl), bV⟩
     | false =>
      have HF : Hid (jI o.ps o.np = false) := aa (ku (k := k) (by rw [uB, nU.out]; simp [hfr]) hlt)
      have NH := aa hfr
      clear hfr HR
      have XK := aa hkl
      clear hkl
      have dX := bS wr
      have kP := wh (w := wr) (fun u => Pa u o.L o.ps) J9.out (·.below)
      have zc := kC.out _ au
      obtain ⟨w2, hw, qb, Cc, -, kS⟩ := sI (uf p) sG wr
      have aN := pY au qb
      have aY := pY dX qb
      have bg := bS w2
      clear qb
      have oQ := kC.out _ aN
      have jG := kS.out _ bg
      go_wp2_with fail
      clear zc oQ jG hw
      have zc := kC.out _ aN
      have iR := kS.out _ bg
      clear j0 j1 j2 j3 j4
      clear zc iR
      have zc := kC.out _ aN
      have iR := kS.out _ bg
      go_wp2_with fail
      refine (yZ o.L o.ps o.np o.cp p.ix J8 (by omega) _ (kP.out _ aY)).mono ?_
      rintro e w3 ⟨ri, rfl, QA, hb0⟩
      have hne : (ri != (k : Int)) = true := F9 XK.out (by rw [nU.out]) QA NH.out
      clear QA
      have bu := bY aN hb0
      have bG := bY aY hb0
      have gu := bY bg hb0
      clear zc iR hb0
      have zc := kC.out _ bu
      have iR := kS.out _ gu
      have bV := ag ai.out bu.out
      go_wp2
      go_ret
      exact ⟨(by rw [HF.out]; try rfl), bV⟩
  ·
   have hke : k = o.np := by omega
   have HF : Hid (jI o.ps o.np = true) := aa (by rw [← hke]; exact HR.out)
   have bV := ag ai.out au.out
   rw [hke]
   go_wp2
   go_ret
   exact ⟨(by rw [HF.out]; try rfl), bV⟩
theorem Jh (o : aJ) (r : Bool) (hr : Hid (zF o = r)) (w : World) (ho : Hid (gy w o)) :
  Calls Tryz.prog 122 #[wU o] w (Rt w (.bool r)) := by
 rw [← hr.out]
 unfold zF
 by_cases h1 : 0 ≤ o.num
 ·
  rw [decide_eq_true h1, Bool.true_and]
  by_cases h2 : o.num < 100
  ·
   rw [decide_eq_true h2, Bool.true_and]
   cases hrs : IY o.rs with
   | false => exact VD o h1 h2 (aa hrs) w
   | true =>
    cases hsh : tZ o.na o.nz with
    | false => exact VC o h1 h2 (aa hrs) (aa hsh) w
    | true =>
     by_cases h3 : o.np ≤ 8
     ·
      rw [decide_eq_true h3]
      by_cases h4 : 0 ≤ o.key
      ·
       rw [decide_eq_true h4]
       exact Vz o h1 h2 (aa hrs) (aa hsh) h3 h4 w ho
      ·
       rw [decide_eq_false h4]
       exact VA o h1 h2 (aa hrs) (aa hsh) h3 h4 w
     ·
      rw [decide_eq_false h3]
      exact VB o h1 h2 (aa hrs) (aa hsh) h3 w
  ·
   rw [decide_eq_false h2]
   exact VE o h1 (by omega) w
 ·
  rw [decide_eq_false h1]
  exact VF o (by omega) w
def EN (p : a_) : It := .lst [.lst ([p.ix, p.v].map .int), .lst (p.al.map .int), .int p.C, .lst (p.zs.map .int)]
def J4 (E1 E2 : Int) (al : List Int) (C : Int) (zs : List Int) : It := .lst [.lst ([E1, E2].map .int), .lst (al.map .int), .int C, .lst (zs.map .int)]
def JZ (o : aJ) : It := .lst [.int o.num, .byt (aU o.rs), J4 o.E1 o.E2 o.al o.C o.zs, .lst (o.ps.map EN), .int o.key]
def i64 (x : Int) : Prop := -9223372036854775808 ≤ x ∧ x < 9223372036854775808
def EE (p : a_) : Prop := i64 p.ix ∧ i64 p.v ∧ i64 p.C ∧ (∀ x ∈ p.al, i64 x) ∧ ∀ x ∈ p.zs, i64 x
def gP (o : aJ) : Prop := i64 o.num ∧ i64 o.E1 ∧ i64 o.E2 ∧ i64 o.C ∧ i64 o.key ∧ (∀ x ∈ o.al, i64 x) ∧ (∀ x ∈ o.zs, i64 x) ∧ ∀ p ∈ o.ps, EE p
theorem BP {l : List Int} (h : ∀ x ∈ l, i64 x) (hl : l.length ≤ 1000) : fits 1 (.lst (l.map .int)) :=
 ⟨by rw [List.length_map]; exact hl, fun x hx => by obtain ⟨n, hn, rfl⟩ := List.mem_map.1 hx; exact h n hn⟩
theorem MJ {E1 E2 C : Int} {al zs : List Int} (h1 : i64 E1) (h2 : i64 E2) (h3 : i64 C) (h4 : ∀ x ∈ al, i64 x) (h5 : ∀ x ∈ zs, i64 x) (la : al.length ≤ 1000) (lz : zs.length ≤ 1000) : fits 2 (J4 E1 E2 al C zs) := by
 refine ⟨by simp, fun x hx => ?_⟩
 simp only [List.mem_cons, List.not_mem_nil, or_false] at hx
 rcases hx with rfl | rfl | rfl | rfl
 · exact BP (by intro x hx; simp at hx; rcases hx with rfl | rfl <;> assumption) (by simp)
 · exact BP h4 la
 · exact h3
 · exact BP h5 lz
theorem PI (l : List Int) : (eZ (l.map .int)).length = 9 * l.length := by
 induction l with
 | nil => rfl
 | cons a t ih =>
  rw [List.map_cons, show It.int a :: t.map .int = [It.int a] ++ t.map .int from rfl, uQ, Ef, List.length_append, ih, lS, List.length_cons]
  simp [fH]
  omega
theorem Ty (l : List Int) : (enc (.lst (l.map .int))).length = 5 + 9 * l.length := by
 rw [eH]; simp [dV, PI]; omega
theorem oI (a : It) (t : List It) : (eZ (a :: t)).length = (enc a).length + (eZ t).length := by
 rw [show a :: t = [a] ++ t from rfl, uQ, Ef, List.length_append]
theorem QL (E1 E2 C : Int) (al zs : List Int) : (enc (J4 E1 E2 al C zs)).length = 47 + 9 * al.length + 9 * zs.length := by
 rw [J4, eH]
 simp only [List.length_cons, List.length_append, dV, oI, Ty, lS, fH, List.length_nil, show (eZ []).length = 0 from rfl]
 omega
theorem PG {ps : List a_} (h : ∀ p ∈ ps, p.al.length ≤ 20 ∧ p.zs.length ≤ 20) : (eZ (ps.map EN)).length ≤ 407 * ps.length := by
 induction ps with
 | nil => exact Nat.le_refl _
 | cons p t ih =>
  rw [List.map_cons, oI, List.length_cons]
  have h1 := ih fun q hq => h q (List.mem_cons_of_mem _ hq)
  have h2 := h p (List.mem_cons_self ..)
  have h3 : (enc (EN p)).length = 47 + 9 * p.al.length + 9 * p.zs.length := QL _ _ _ _ _
  omega
structure lD (o : aJ) : Prop where
 a : o.al.length ≤ 20
 z : o.zs.length ≤ 20
 n : o.ps.length ≤ 8
 p : ∀ p ∈ o.ps, p.al.length ≤ 20 ∧ p.zs.length ≤ 20
 r0 : 1 ≤ o.rs.size
 r1 : o.rs.size ≤ 200
theorem MH {o : aJ} (h : gP o) (hs : lD o) : fits 4 (JZ o) := by
 obtain ⟨h1, h2, h3, h4, h5, h6, h7, h8⟩ := h
 refine ⟨by simp, fun x hx => ?_⟩
 simp only [List.mem_cons, List.not_mem_nil, or_false] at hx
 rcases hx with rfl | rfl | rfl | rfl | rfl
 · exact h1
 · exact ⟨⟨by rw [bz]; exact hs.r0, by rw [bz]; have := hs.r1; omega⟩, iM _⟩
 · exact oF (MJ h2 h3 h4 h6 h7 (by have := hs.a; omega) (by have := hs.z; omega)) (by decide)
 ·
  refine ⟨by rw [List.length_map]; have := hs.n; omega, fun x hx => ?_⟩
  obtain ⟨p, hp, rfl⟩ := List.mem_map.1 hx
  obtain ⟨p1, p2, p3, p4, p5⟩ := h8 p hp
  obtain ⟨s1, s2⟩ := hs.p p hp
  exact MJ p1 p2 p3 p4 p5 (by omega) (by omega)
 · exact h5
theorem QJ {o : aJ} (hs : lD o) : (enc (JZ o)).length ≤ 4000 := by
 have h1 := PG hs.p
 have h2 := hs.n
 have h3 := hs.a
 have h4 := hs.z
 have h5 := hs.r1
 rw [JZ, eH]
 simp only [List.length_cons, List.length_append, dV, oI, QL, lS, h_, eH, fH, List.length_nil, show (eZ []).length = 0 from rfl, bz]
 omega
theorem Pd (L : Option Addr) (c : Nat) {w : World} : nO w (.lst []) ⟨3, 0, none, 0, 0, L, 0, c⟩ :=
 .lst [] _ rfl rfl rfl rfl (fun _ => default) (fun k hk => absurd hk (by simp)) (fun k hk => absurd hk (by simp))
theorem uK {w : World} {g n c : Nat} {cs : Array Value} {l : List It} (f : Nat → Ic) (h : w.heap[g]? = some (.cells cs 117)) (hl : l.length = n)
  (hc : ∀ k, k < n → cs[k * 4]? = some (.int .i64 (f k).kind) ∧ cs[k * 4 + 1]? = some (.int .i64 (f k).n) ∧ cs[k * 4 + 2]? = some (.slice (f k).B (f k).nb (f k).cb) ∧ cs[k * 4 + 3]? = some (.slice (f k).L (f k).nl (f k).cl))
  (hr : ∀ k, k < n → nO w (l.getD k default) (f k)) : nO w (.lst l) ⟨3, 0, none, 0, 0, some ⟨g, 0, none⟩, n, c⟩ :=
 .lst l _ rfl rfl rfl hl.symm f (fun k hk => by
  obtain ⟨h0, h1, h2, h3⟩ := hc k (by omega)
  exact ⟨g, 0, rfl, (ak h _).trans (by rw [Nat.zero_add]; exact h0), (ak h _).trans (by rw [Nat.zero_add]; exact h1), (ak h _).trans (by rw [Nat.zero_add]; exact h2), (ak h _).trans (by rw [Nat.zero_add]; exact h3)⟩) (fun k hk => hr k (by omega))
theorem qa.kept {lo : Nat} {w w' : World} {i : It} {c : Ic} (h : qa lo w i c) (hb : Below w.heap.size w w') : qa lo w' i c :=
 fun w2 hw => h w2 fun b h1 h2 => (hw b h1 (by have := hb.size; omega)).trans (hb.block b h2)
theorem qa.mono {lo lo' : Nat} {w : World} {i : It} {c : Ic} (h : qa lo w i c) (hl : lo' ≤ lo) : qa lo' w i c :=
 fun w2 hw => h w2 fun b h1 h2 => hw b (by omega) h2
theorem qa.setRow {lo g : Nat} {w : World} {i : It} {c : Ic} (h : qa lo w i c) (hg : g < lo) (cs : Array Value) : qa lo (w.setRow g cs) i c :=
 fun w2 hw => h w2 fun b h1 h2 => (hw b h1 (by simpa [World.setRow] using h2)).trans (setRow_other w g b cs (by omega))
theorem qa.setCell {lo g j : Nat} {w : World} {i : It} {c : Ic} {v : Value} (h : qa lo w i c) (hg : g < lo) : qa lo (w.setCell ⟨g, j, none⟩ v) i c :=
 fun w2 hw => h w2 fun b h1 h2 => (hw b h1 (by rw [World.size_setCell]; exact h2)).trans (Go.Deep.blk_setCell_other _ _ _ _ (show b ≠ g by omega))
theorem nA (lo : Nat) (w : World) (n : Int) : qa lo w (.int n) (aM n) := fun _ _ => .int _ _ rfl rfl rfl rfl
theorem mK {w w' : World} {b j : Nat} (h : w'.heap[b]? = w.heap[b]?) : w'.cell? ⟨b, j, none⟩ = w.cell? ⟨b, j, none⟩ := by simp [World.cell?, h]
theorem BC {lo g o n c : Nat} {w : World} {l : List Int} (h : Sk .u8 w (some ⟨g, o, none⟩) l) (hg : lo ≤ g) (hn : l.length = n) : qa lo w (.byt l) (aL (some ⟨g, o, none⟩) n c) :=
 fun w' hw => iY (fun j hj => by
  obtain ⟨b1, o1, e, hc⟩ := h j hj
  cases e
  exact ⟨_, _, rfl, (mK (hw _ hg (World.block_lt_of_cell? _ _ hc))).trans hc⟩) hn
theorem rF {lo g n c : Nat} {w : World} {cs : Array Value} {l : List It} (f : Nat → Ic) (h : w.heap[g]? = some (.cells cs 117)) (hg : lo ≤ g) (hl : l.length = n)
  (hc : ∀ k, k < n → cs[k * 4]? = some (.int .i64 (f k).kind) ∧ cs[k * 4 + 1]? = some (.int .i64 (f k).n) ∧ cs[k * 4 + 2]? = some (.slice (f k).B (f k).nb (f k).cb) ∧ cs[k * 4 + 3]? = some (.slice (f k).L (f k).nl (f k).cl))
  (hr : ∀ k, k < n → qa lo w (l.getD k default) (f k)) : qa lo w (.lst l) ⟨3, 0, none, 0, 0, some ⟨g, 0, none⟩, n, c⟩ :=
 fun w' hw => uK f ((hw g hg (Array.getElem?_eq_some_iff.1 h).1).trans h) hl hc fun k hk => hr k hk w' hw
theorem Pb (lo : Nat) (w : World) (L : Option Addr) (c : Nat) : qa lo w (.lst []) ⟨3, 0, none, 0, 0, L, 0, c⟩ := fun _ _ => Pd L c
theorem rE (n : Int) (w : World) :
  Calls Tryz.prog 169 #[.int .i64 n] w fun e w' => e = .returned (aM n).val ∧ Below w.heap.size w w' := by
 have ek : Hid ((w.alloc (.cells #[.int .i64 0, .int .i64 0, .slice none 0 0, .slice none 0 0] 117)).heap[w.heap.size]? = some (.cells #[.int .i64 0, .int .i64 0, .slice none 0 0, .slice none 0 0] 117 (0, 0))) := aa (heap_alloc_new _ _)
 go_in
 go_wp2_with ((with_reducible show wpList _ _ _ (⟨none, _, _, _, _, _⟩ :: _) _ _); refine wpList_store_row rfl 117 _ _ rfl w.heap.size (Ic.cs (aM n)) rfl rfl _ _ ek.out (b_ _) rfl (je _) ?_)
 have hrw := setRow_heap _ _ _ (Ic.cs (aM n)) _ _ ek.out
 exact bodyPost_ret (v := (aM n).val) (aC (p := 2) (ty := 117) rfl _ _ ⟨w.heap.size, 0, none⟩ _ rfl (run_loadVar_row _ _ _ _ _ _ _ hrw Tryz.underlying117 rfl (b_ _))) rfl ⟨rfl, aj (af _ _) (Nat.le_refl _)⟩
theorem xz (A : Option Addr) (n c : Nat) (w : World) :
  Calls Tryz.prog 142 #[.slice A n c] w fun e w' => e = .returned (aL A n c).val ∧ Below w.heap.size w w' := by
 have ek : Hid ((w.alloc (.cells #[.int .i64 0, .int .i64 0, .slice none 0 0, .slice none 0 0] 117)).heap[w.heap.size]? = some (.cells #[.int .i64 0, .int .i64 0, .slice none 0 0, .slice none 0 0] 117 (0, 0))) := aa (heap_alloc_new _ _)
 go_in
 go_wp2_with ((with_reducible show wpList _ _ _ (⟨none, _, _, _, _, _⟩ :: _) _ _); refine wpList_store_row rfl 117 _ _ rfl w.heap.size (Ic.cs (aL A n c)) rfl rfl _ _ ek.out (b_ _) rfl (je _) ?_)
 have hrw := setRow_heap _ _ _ (Ic.cs (aL A n c)) _ _ ek.out
 exact bodyPost_ret (v := (aL A n c).val) (aC (p := 2) (ty := 117) rfl _ _ ⟨w.heap.size, 0, none⟩ _ rfl (run_loadVar_row _ _ _ _ _ _ _ hrw Tryz.underlying117 rfl (b_ _))) rfl ⟨rfl, aj (af _ _) (Nat.le_refl _)⟩
theorem uJ (L : Option Addr) (n c : Nat) (w : World) :
  Calls Tryz.prog 141 #[.slice L n c] w fun e w' => e = .returned (Ic.mk 3 0 none 0 0 L n c).val ∧ Below w.heap.size w w' := by
 have ek : Hid ((w.alloc (.cells #[.int .i64 0, .int .i64 0, .slice none 0 0, .slice none 0 0] 117)).heap[w.heap.size]? = some (.cells #[.int .i64 0, .int .i64 0, .slice none 0 0, .slice none 0 0] 117 (0, 0))) := aa (heap_alloc_new _ _)
 go_in
 go_wp2_with ((with_reducible show wpList _ _ _ (⟨none, _, _, _, _, _⟩ :: _) _ _); refine wpList_store_row rfl 117 _ _ rfl w.heap.size (Ic.cs (Ic.mk 3 0 none 0 0 L n c)) rfl rfl _ _ ek.out (b_ _) rfl (je _) ?_)
 have hrw := setRow_heap _ _ _ (Ic.cs (Ic.mk 3 0 none 0 0 L n c)) _ _ ek.out
 exact bodyPost_ret (v := (Ic.mk 3 0 none 0 0 L n c).val) (aC (p := 2) (ty := 117) rfl _ _ ⟨w.heap.size, 0, none⟩ _ rfl (run_loadVar_row _ _ _ _ _ _ _ hrw Tryz.underlying117 rfl (b_ _))) rfl ⟨rfl, aj (af _ _) (Nat.le_refl _)⟩
theorem AB (E1 E2 : Int) (A : Option Addr) (na ca : Nat) (al : List Int) (C : Int) (Z : Option Addr) (nz cz : Nat) (zs : List Int) (hna : Hid (al.length = na)) (hnz : Hid (zs.length = nz)) (hb1 : na ≤ 1000) (hb2 : nz ≤ 1000) (w : World) (hA : Hid (Sl w A al)) (hZ : Hid (Sl w Z zs)) :
  Calls Tryz.prog 170 #[zK E1 E2 A na ca C Z nz cz] w (mM (J4 E1 E2 al C zs) w) := by
 obtain ⟨w0, HW, ai, kC⟩ := st2 (Ed E1 E2 A na ca C Z nz cz) J6 (.cells #[.int .i64 0, .int .i64 0, .slice none 0 0, .slice none 0 0] 117) xO w
 have kA := mkS ai hA
 have kZ := mkS ai hZ
 have yV := O4 (w0 := w0) (o := .cells #[.int .i64 0, .int .i64 0, .slice none 0 0, .slice none 0 0] 117) (w.heap.size + 1) (by rw [← HW.out]; exact heap_alloc2_new _ _ _)
 have ah := bS w0
 clear hA hZ
 go_in
 go_wp2_with fail
 rw [HW.out]
 have zc := kC.out _ ah
 have nQ : Hid (w0.heap.size = w.heap.size + 2) := aa (by rw [← HW.out]; simp)
 go_upto_region 1 with (fail)
 clear zc
 have hO := kC
 have mP := bY (aa ah.out) (Below.refl _ _).drew
 refine t_ (fun u => Below w0.heap.size w0 u) [20] mP (fun hHeld => ?_)
 obtain ⟨wD, mI⟩ : ∃ u, w0.drew = u := ⟨_, rfl⟩
 rw [mI] at mP hHeld ⊢
 have zk : Hid (w0.heap.size ≤ wD.heap.size) := aa (by rw [← mI]; exact Nat.le_refl _)
 clear mI
 refine aT 0 1 2 3 ?_
 refine aT 6 7 8 10 ?_
 refine aT 11 12 13 14 ?_
 refine aH 15 ?_
 refine aH 16 ?_
 have FB := mP
 obtain ⟨u1, hw, HQ, -, -, -⟩ := sI (.cells #[.int .i64 (E1), .int .i64 (E2)] 3) xO wD
 have mO := aa hw
 clear hw
 refine bW 4 fun K hK => ?_
 go_simp
 rw [mO.out]
 have aR := bY FB HQ.out
 refine hK.out _ _ aR (fun hHeld => ?_)
 clear hK K hHeld
 have FE : Hid (Cz u1 (wD.heap.size) (E1) (E2)) := by rw [← mO.out]; exact (aa (Cz.new wD (E1) (E2)))
 obtain ⟨gE, hg⟩ : ∃ x, wD.heap.size = x := ⟨_, rfl⟩
 rw [hg] at FE ⊢
 clear hg
 have FB := aR
 clear aR mO HQ
 try simp only [qq, Ic.val, Ic.cs, aM, aL]
 refine bW 5 fun K hK => ?_
 go_simp
 refine (jN (some ⟨gE, 0, none⟩) [E1, E2] 2 2 (aa rfl) (by omega) _ (aa FE.out.sl)).mono ?_
 rintro e u2 ⟨cE, rfl, hit, hq⟩
 have aR := bY FB hq
 refine hK.out _ _ aR (fun hHeld => ?_)
 clear hK K hHeld
 have FE := aa (FE.out.below hq)
 have HE := (aa (hit.mono (by have := FB.out.size; omega)))
 have FB := aR
 clear aR
 try simp only [qq, Ic.val, Ic.cs, aM, aL]
 refine bW 9 fun K hK => ?_
 go_simp
 refine (jN A al na ca hna (by omega) _ (kA.out _ (aa FB.out))).mono ?_
 rintro e u3 ⟨cA, rfl, hit, hq⟩
 have aR := bY FB hq
 refine hK.out _ _ aR (fun hHeld => ?_)
 clear hK K hHeld
 have FE := aa (FE.out.below hq)
 have HE := aa (HE.out.kept hq)
 have HA := (aa (hit.mono (by have := FB.out.size; omega)))
 have FB := aR
 clear aR
 try simp only [qq, Ic.val, Ic.cs, aM, aL]
 refine bW 17 fun K hK => ?_
 go_simp
 refine (jN Z zs nz cz hnz (by omega) _ (kZ.out _ (aa FB.out))).mono ?_
 rintro e u4 ⟨cZ, rfl, hit, hq⟩
 have aR := bY FB hq
 refine hK.out _ _ aR (fun hHeld => ?_)
 clear hK K hHeld
 have FE := aa (FE.out.below hq)
 have HE := aa (HE.out.kept hq)
 have HA := aa (HA.out.kept hq)
 have HZ := (aa (hit.mono (by have := FB.out.size; omega)))
 have FB := aR
 clear aR
 try simp only [qq, Ic.val, Ic.cs, aM, aL]
 obtain ⟨u, hw, HQ, -, -, -⟩ := sI (.cells #[.int .i64 cE.kind, .int .i64 cE.n, .slice cE.B cE.nb cE.cb, .slice cE.L cE.nl cE.cl, .int .i64 cA.kind, .int .i64 cA.n, .slice cA.B cA.nb cA.cb, .slice cA.L cA.nl cA.cl, .int .i64 1, .int .i64 C, .slice none 0 0, .slice none 0 0, .int .i64 cZ.kind, .int .i64 cZ.n, .slice cZ.B cZ.nb cZ.cb, .slice cZ.L cZ.nl cZ.cl] 117) xO u4
 have mO := aa hw
 clear hw
 refine bW 18 fun K hK => ?_
 go_simp
 rw [mO.out]
 have aR := bY FB HQ.out
 refine hK.out _ _ aR (fun hHeld => ?_)
 clear hK K hHeld
 have FE := aa (FE.out.below HQ.out)
 have HE := aa (HE.out.kept HQ.out)
 have HA := aa (HA.out.kept HQ.out)
 have HZ := aa (HZ.out.kept HQ.out)
 have FL : Hid (u.heap[(u4.heap.size)]? = some (.cells #[.int .i64 cE.kind, .int .i64 cE.n, .slice cE.B cE.nb cE.cb, .slice cE.L cE.nl cE.cl, .int .i64 cA.kind, .int .i64 cA.n, .slice cA.B cA.nb cA.cb, .slice cA.L cA.nl cA.cl, .int .i64 1, .int .i64 C, .slice none 0 0, .slice none 0 0, .int .i64 cZ.kind, .int .i64 cZ.n, .slice cZ.B cZ.nb cZ.cb, .slice cZ.L cZ.nl cZ.cl] 117)) := by rw [← mO.out]; exact (aa (heap_alloc_new u4 _))
 have kQ : Hid (w0.heap.size ≤ (u4.heap.size)) := (aa (by have := FB.out.size; omega))
 obtain ⟨gL, hg⟩ : ∃ x, u4.heap.size = x := ⟨_, rfl⟩
 rw [hg] at FL kQ ⊢
 clear hg
 have FB := aR
 clear aR mO HQ
 try simp only [qq, Ic.val, Ic.cs, aM, aL]
 have hHeld := FB
 have hT := trivial
 have ha0 := trivial
 have sK := FB
 refine bN 19 ?_
 have oN := yV.out _ (aa FB.out)
 refine mR 20 fun K hK => ?_
 rw [show (if Region.wanted _ _ = true then _ else _ : Prop) = _ from if_pos rfl]
 refine wp_store_row 117 _ _ rfl (w.heap.size + 1) (Ic.cs ⟨3, 0, none, 0, 0, some ⟨gL, 0, none⟩, 4, 4⟩) rfl rfl 117 _ oN.out (b_ _) rfl (je _) ?_
 refine hK.out _ _ ?_
 clear hK K
 try simp only [qq]
 refine gz ?_
 have hit : qa w0.heap.size u (J4 E1 E2 al C zs) ⟨3, 0, none, 0, 0, some ⟨gL, 0, none⟩, 4, 4⟩ := rF (fun k => match k with | 0 => cE | 1 => cA | 2 => aM C | _ => cZ) FL.out kQ.out rfl (fun k hk => by
   rcases (show k = 0 ∨ k = 1 ∨ k = 2 ∨ k = 3 by omega) with rfl | rfl | rfl | rfl <;> exact ⟨rfl, rfl, rfl, rfl⟩) (fun k hk => by
   rcases (show k = 0 ∨ k = 1 ∨ k = 2 ∨ k = 3 by omega) with rfl | rfl | rfl | rfl
   · exact HE.out
   · exact HA.out
   · exact nA _ _ _
   · exact HZ.out)
 have hit2 := (hit.setRow (g := w.heap.size + 1) (by have := nQ.out; omega) (Ic.cs ⟨3, 0, none, 0, 0, some ⟨gL, 0, none⟩, 4, 4⟩)).mono (lo' := w.heap.size) (by have := nQ.out; omega)
 have bV := aj (ag ai.out FB.out) (cs := Ic.cs ⟨3, 0, none, 0, 0, some ⟨gL, 0, none⟩, 4, 4⟩) (Nat.le_add_right w.heap.size 1)
 have hrw := setRow_heap _ _ _ (Ic.cs ⟨3, 0, none, 0, 0, some ⟨gL, 0, none⟩, 4, 4⟩) _ _ oN.out
 go_wp2
 exact bodyPost_ret (v := (Ic.mk 3 0 none 0 0 (some ⟨gL, 0, none⟩) 4 4).val) (aC (p := 2) (ty := 117) rfl _ _ ⟨w.heap.size + 1, 0, none⟩ _ rfl (run_loadVar_row _ _ _ _ _ _ _ hrw Tryz.underlying117 rfl (b_ _))) rfl ⟨_, rfl, hit2, bV⟩
def ET (g : Option Nat) (lo : Nat) (w : World) (i : It) (c : Ic) : Prop := ∀ w' : World, (∀ b, lo ≤ b → b < w.heap.size → g ≠ some b → w'.heap[b]? = w.heap[b]?) → nO w' i c
theorem qa.g {lo lo' : Nat} {g : Option Nat} {w : World} {i : It} {c : Ic} (h : qa lo' w i c) (hl : lo ≤ lo') (hg : ∀ b, g = some b → b < lo') : ET g lo w i c :=
 fun w' hw => h w' fun b h1 h2 => hw b (by omega) h2 (fun e => by have := hg b e; omega)
theorem ET.s {lo : Nat} {g : Option Nat} {w : World} {i : It} {c : Ic} (h : ET g lo w i c) : qa lo w i c := fun w' hw => h w' fun b h1 h2 _ => hw b h1 h2
theorem ET.kept {lo : Nat} {g : Option Nat} {w w' : World} {i : It} {c : Ic} (h : ET g lo w i c) (hb : Below w.heap.size w w') : ET g lo w' i c :=
 fun w2 hw => h w2 fun b h1 h2 h3 => (hw b h1 (by have := hb.size; omega) h3).trans (hb.block b h2)
theorem ET.grown {lo : Nat} {g g' : Option Nat} {w w1 : World} {i : It} {c : Ic} (h : ET g lo w i c) (hgr : w.grownBy w1 g) (hz : w.heap.size ≤ w1.heap.size) (hg : ∀ b, g' = some b → g = some b ∨ w.heap.size ≤ b) : ET g' lo w1 i c :=
 fun w2 hw => h w2 fun b h1 h2 h3 => (hw b h1 (by omega) (fun e => by rcases hg b e with e2 | e2; exact h3 e2; omega)).trans (hgr.block b h2 (fun e => h3 e.symm))
theorem ET.setCell {lo a j : Nat} {g : Option Nat} {w : World} {i : It} {c : Ic} {v : Value} (h : ET g lo w i c) (ha : a < lo) : ET g lo (w.setCell ⟨a, j, none⟩ v) i c :=
 fun w2 hw => h w2 fun b h1 h2 h3 => (hw b h1 (by rw [World.size_setCell]; exact h2) h3).trans (Go.Deep.blk_setCell_other _ _ _ _ (show b ≠ a by omega))
theorem Hy {w : World} {base lo n : Nat} {v : Value} {cs : List Ic} {l : List It} (h : dM w base v cs) (hc : cs.length = n) (hl : l.length = n) (hlo : lo ≤ base) (hr : ∀ k, k < n → qa lo w (l.getD k default) (cs.getD k default)) :
  ∃ L cl, v = .slice L n cl ∧ qa lo w (.lst l) ⟨3, 0, none, 0, 0, L, n, cl⟩ := by
 by_cases h0 : 0 < n
 ·
  obtain ⟨g, cap, e, _⟩ := h.four (by omega)
  rw [hc] at e
  refine ⟨_, _, e, fun w' hw => ?_⟩
  obtain ⟨g', cap', e', hr'⟩ := qP (yO h fun b h1 h2 => hw b (by omega) h2) hc hl h0 fun k hk => hr k hk w' hw
  rw [e] at e'
  simp only [Value.slice.injEq, Option.some.injEq, Addr.mk.injEq] at e'
  obtain ⟨⟨rfl, -⟩, -, rfl⟩ := e'
  exact hr'
 ·
  obtain rfl : n = 0 := by omega
  obtain rfl : l = [] := List.eq_nil_of_length_eq_zero hl
  obtain ⟨L, cl, hv⟩ := h.len
  rw [hc] at hv
  exact ⟨L, cl, hv, Pb _ _ _ _⟩
theorem oD {ps : List a_} {k : Nat} (h : k < ps.length) : ps.getD k aF ∈ ps := by
 rw [List.getD_eq_getElem?_getD, List.getElem?_eq_getElem h]; exact List.getElem_mem _
theorem LW (o : aJ) (hs : lD o) (w : World) (ho : Hid (gy w o)) :
  Calls Tryz.prog 143 #[wU o] w (mM (JZ o) w) := by
 obtain ⟨w0, HW, ai, kC⟩ := st2 (vo o) Yz (.cells #[.int .i64 0, .int .i64 0, .slice none 0 0, .slice none 0 0] 117) xO w
 have kO := gV (fun u => gy u o) ai ho (·.below)
 have yV := O4 (w0 := w0) (o := .cells #[.int .i64 0, .int .i64 0, .slice none 0 0, .slice none 0 0] 117) (w.heap.size + 1) (by rw [← HW.out]; exact heap_alloc2_new _ _ _)
 have ah := bS w0
 clear ho
 go_in
 go_wp2_with fail
 rw [HW.out]
 have zc := kC.out _ ah
 have nQ : Hid (w0.heap.size = w.heap.size + 2) := aa (by rw [← HW.out]; simp)
 go_wp2_with fail
 refine (uJ none 0 0 _).mono ?_
 rintro e w1 ⟨rfl, hb0⟩
 rw [show (Ic.mk 3 0 none 0 0 none 0 0).val = .agg #[.int .i64 3, .int .i64 0, .slice none 0 0, .slice none 0 0] from rfl]
 have aD := bY ah hb0
 clear zc hb0
 have Ql := aD
 have hq0 := af w1 (.cells #[.int .i64 3, .int .i64 0, .slice none 0 0, .slice none 0 0] 117)
 have aN := bY aD hq0
 clear hq0
 have zc := kC.out _ aN
 go_wp2
 clear zc
 obtain ⟨W, hW⟩ : ∃ x, w1.alloc (.cells #[.int .i64 3, .int .i64 0, .slice none 0 0, .slice none 0 0] 117) = x := ⟨_, rfl⟩
 rw [hW] at aN
 have bQ := aN
 obtain ⟨B, hB⟩ : ∃ x, w1.heap.size = x := ⟨_, rfl⟩
 have Ce : Hid (W.heap.size = B + 1 ∧ w0.heap.size ≤ B) := aa ⟨by rw [← hW, ← hB]; simp, by rw [← hB]; exact Ql.out.size⟩
 have hbk : W.heap[B]? = some (.cells #[.int .i64 3, .int .i64 0, .slice none 0 0, .slice none 0 0] 117) := by rw [← hW, ← hB]; exact heap_alloc_new _ _
 have qy : Hid (Own W ⟨B, 3, none⟩ (.slice none 0 0)) := aa ⟨ak hbk 3, aX hbk 3⟩
 have HX0 : Hid (Own W ⟨B, 0, none⟩ (.int .i64 3) ∧ Own W ⟨B, 1, none⟩ (.int .i64 0) ∧ Own W ⟨B, 2, none⟩ (.slice none 0 0)) := aa ⟨⟨ak hbk 0, aX hbk 0⟩, ⟨ak hbk 1, aX hbk 1⟩, ⟨ak hbk 2, aX hbk 2⟩⟩
 rw [hW, hB]
 clear hW hbk Ql
 obtain ⟨i0, hi, hz0, hz1, hz2⟩ := info_parts iV
 obtain ⟨⟨VG, Yi⟩, ok8⟩ : (o.ps.length = o.np ∧ o.np ≤ o.cp) ∧ o.ps.length ≤ 8 := ⟨((kO.out _ bQ).out).2.2.1, hs.n⟩
 go_loopw [10] (fun i u => ∃ (k : Nat) (v : Value) (cs : List Ic), k ≤ o.np ∧ i = .int .i64 k ∧ Hid (cs.length = k) ∧ Hid (Own u ⟨B, 3, none⟩ v) ∧ Hid (Own u ⟨B, 0, none⟩ (.int .i64 3) ∧ Own u ⟨B, 1, none⟩ (.int .i64 0) ∧ Own u ⟨B, 2, none⟩ (.slice none 0 0)) ∧ Hid (dM u (B + 1) v cs) ∧ Hid (∀ j, j < k → ET v.ownBlock (B + 1) u (EN (o.ps.getD j aF)) (cs.getD j default)) ∧ Hid (Below B W u)) (fun i _ => o.np - (intOf i).toNat)
 case atStart => exact ⟨0, _, [], by omega, rfl, aa rfl, qy, HX0, aa (qN _ _), aa (fun j h => absurd h (by omega)), aa (Below.refl _ _)⟩
 case round =>
  obtain ⟨k, v, cs, hk, rfl, zn, HV, nH, HO, HG, au⟩ := hrel
  have nR : Hid (Below w0.heap.size w0 wr) := aa (bQ.out.trans (au.out.mono Ce.out.2))
  by_cases hlt : k < o.np
  ·
   have hkl : k < o.ps.length := by rw [VG]; exact hlt
   obtain ⟨b, f, hA, j0, j1, j2, j3, j4, j5⟩ := (kO.out _ nR).out.2.2.2.2.2 k hkl
   have zQ := aa hA
   have hps := hs.p _ (oD hkl)
   obtain ⟨p, hp⟩ : ∃ p, o.ps.getD k aF = p := ⟨_, rfl⟩
   have nU := aa hp
   rw [hp] at j0 j1 j2 j3 j4 j5 hps
   obtain ⟨x1, x2, x3, x4⟩ := j5
   have U2 := aa x1
   have U1 := aa x2
   have Xu := aa x3
   have lG := aa x4
   obtain ⟨Mf, Me⟩ := hps
   have QU : p.na ≤ 20 := by rw [← x1]; exact Mf
   have QT : p.nz ≤ 20 := by rw [← x2]; exact Me
   obtain ⟨v3, Oh⟩ := HV.out
   clear hp hA hkl x1 x2 x3 x4 Mf Me
   rw [zQ.out]
   have aY := bS wr
   have Jt := wh (w := wr) (fun u => Sl u p.A p.al) Xu.out (·.below)
   have Js := wh (w := wr) (fun u => Sl u p.Z p.zs) lG.out (·.below)
   have zc := kC.out _ nR
   have kX := aa (show ∀ u : World, Hid (Below wr.heap.size wr u) → u.cell? ⟨B, 3, none⟩ = some v from fun u h => cell_below HV.out.1 h.out)
   obtain ⟨w3, hw, EU, Qb, -, kS⟩ := sI (uf p) sG wr
   have bu := pY nR EU
   have bG := pY aY EU
   have eO := bS w3
   clear EU
   have oQ := kC.out _ bu
   have Y3 := kX.out _ bG
   have jG := kS.out _ eO
   go_upto_region 5 with (fail)
   clear zc oQ Y3 jG hw
   have zc := kC.out _ bu
   have zkX := kX.out _ bG
   have iR := kS.out _ eO
   clear j0 j1 j2 j3 j4 v3 Oh
   clear zc zkX iR
   have hO := aa (fun (u : World) (h : Hid (Below w0.heap.size w0 u ∧ Below wr.heap.size wr u ∧ Below w3.heap.size w3 u)) => And.intro (kC.out u (aa h.out.1)) (And.intro (kX.out u (aa h.out.2.1)) (kS.out u (aa h.out.2.2))))
   have mP := bb3 (aa ⟨bu.out, bG.out, eO.out⟩) (Below.refl _ _).drew
   refine t_ (fun u => Below w0.heap.size w0 u ∧ Below wr.heap.size wr u ∧ Below w3.heap.size w3 u) [23, 24, 25] mP (fun hHeld => ?_)
   obtain ⟨wD, mI⟩ : ∃ u, w3.drew = u := ⟨_, rfl⟩
   rw [mI] at mP hHeld ⊢
   have zk : Hid (w3.heap.size ≤ wD.heap.size) := aa (by rw [← mI]; exact Nat.le_refl _)
   clear mI
   refine aT 0 1 2 3 ?_
   refine aT 4 5 8 9 ?_
   refine aT 10 12 13 14 ?_
   refine aH 16 ?_
   refine aH 17 ?_
   refine aH 18 ?_
   have FB := mP
   obtain ⟨u1, hw, HQ, -, -, -⟩ := sI (.cells #[.int .i64 (p.ix), .int .i64 (p.v)] 3) xO wD
   have mO := aa hw
   clear hw
   refine bW 6 fun K hK => ?_
   go_simp
   rw [mO.out]
   have aR := bb3 FB HQ.out
   refine hK.out _ _ aR (fun hHeld => ?_)
   clear hK K hHeld
   have FE : Hid (Cz u1 (wD.heap.size) (p.ix) (p.v)) := by rw [← mO.out]; exact (aa (Cz.new wD (p.ix) (p.v)))
   obtain ⟨gE, hg⟩ : ∃ x, wD.heap.size = x := ⟨_, rfl⟩
   rw [hg] at FE ⊢
   clear hg
   have FB := aR
   clear aR mO HQ
   try simp only [qq, Ic.val, Ic.cs, aM, aL]
   refine bW 7 fun K hK => ?_
   go_simp
   refine (jN (some ⟨gE, 0, none⟩) [p.ix, p.v] 2 2 (aa rfl) (by omega) _ (aa FE.out.sl)).mono ?_
   rintro e u2 ⟨cE, rfl, hit, hq⟩
   have aR := bb3 FB hq
   refine hK.out _ _ aR (fun hHeld => ?_)
   clear hK K hHeld
   have FE := aa (FE.out.below hq)
   have HE := (aa (hit.mono (by have := FB.out.2.2.size; omega)))
   have FB := aR
   clear aR
   try simp only [qq, Ic.val, Ic.cs, aM, aL]
   refine bW 11 fun K hK => ?_
   go_simp
   refine (jN p.A p.al p.na p.ca U2 (by omega) _ (Jt.out _ (aa FB.out.2.1))).mono ?_
   rintro e u3 ⟨cA, rfl, hit, hq⟩
   have aR := bb3 FB hq
   refine hK.out _ _ aR (fun hHeld => ?_)
   clear hK K hHeld
   have FE := aa (FE.out.below hq)
   have HE := aa (HE.out.kept hq)
   have HA := (aa (hit.mono (by have := FB.out.2.2.size; omega)))
   have FB := aR
   clear aR
   try simp only [qq, Ic.val, Ic.cs, aM, aL]
   refine bW 15 fun K hK => ?_
   go_simp
   refine (rE p.C _).mono ?_
   rintro e u4 ⟨rfl, hq⟩
   have aR := bb3 FB hq
   refine hK.out _ _ aR (fun hHeld => ?_)
   clear hK K hHeld
   have FE := aa (FE.out.below hq)
   have HE := aa (HE.out.kept hq)
   have HA := aa (HA.out.kept hq)
   have FB := aR
   clear aR
   try simp only [qq, Ic.val, Ic.cs, aM, aL]
   refine bW 19 fun K hK => ?_
   go_simp
   refine (jN p.Z p.zs p.nz p.cz U1 (by omega) _ (Js.out _ (aa FB.out.2.1))).mono ?_
   rintro e u5 ⟨cZ, rfl, hit, hq⟩
   have aR := bb3 FB hq
   refine hK.out _ _ aR (fun hHeld => ?_)
   clear hK K hHeld
   have FE := aa (FE.out.below hq)
   have HE := aa (HE.out.kept hq)
   have HA := aa (HA.out.kept hq)
   have HZ := (aa (hit.mono (by have := FB.out.2.2.size; omega)))
   have FB := aR
   clear aR
   try simp only [qq, Ic.val, Ic.cs, aM, aL]
   obtain ⟨u6, hw, HQ, -, -, -⟩ := sI (.cells #[.int .i64 cE.kind, .int .i64 cE.n, .slice cE.B cE.nb cE.cb, .slice cE.L cE.nl cE.cl, .int .i64 cA.kind, .int .i64 cA.n, .slice cA.B cA.nb cA.cb, .slice cA.L cA.nl cA.cl, .int .i64 1, .int .i64 p.C, .slice none 0 0, .slice none 0 0, .int .i64 cZ.kind, .int .i64 cZ.n, .slice cZ.B cZ.nb cZ.cb, .slice cZ.L cZ.nl cZ.cl] 117) xO u5
   have mO := aa hw
   clear hw
   refine bW 20 fun K hK => ?_
   go_simp
   rw [mO.out]
   have aR := bb3 FB HQ.out
   refine hK.out _ _ aR (fun hHeld => ?_)
   clear hK K hHeld
   have FE := aa (FE.out.below HQ.out)
   have HE := aa (HE.out.kept HQ.out)
   have HA := aa (HA.out.kept HQ.out)
   have HZ := aa (HZ.out.kept HQ.out)
   have FL : Hid (u6.heap[(u5.heap.size)]? = some (.cells #[.int .i64 cE.kind, .int .i64 cE.n, .slice cE.B cE.nb cE.cb, .slice cE.L cE.nl cE.cl, .int .i64 cA.kind, .int .i64 cA.n, .slice cA.B cA.nb cA.cb, .slice cA.L cA.nl cA.cl, .int .i64 1, .int .i64 p.C, .slice none 0 0, .slice none 0 0, .int .i64 cZ.kind, .int .i64 cZ.n, .slice cZ.B cZ.nb cZ.cb, .slice cZ.L cZ.nl cZ.cl] 117)) := by rw [← mO.out]; exact (aa (heap_alloc_new u5 _))
   have kQ : Hid (w3.heap.size ≤ (u5.heap.size)) := (aa (by have := FB.out.2.2.size; omega))
   obtain ⟨gL, hg⟩ : ∃ x, u5.heap.size = x := ⟨_, rfl⟩
   rw [hg] at FL kQ ⊢
   clear hg
   have FB := aR
   clear aR mO HQ
   try simp only [qq, Ic.val, Ic.cs, aM, aL]
   refine bW 21 fun K hK => ?_
   go_simp
   refine (uJ (some ⟨gL, 0, none⟩) 4 4 _).mono ?_
   rintro e u7 ⟨rfl, hq⟩
   have aR := bb3 FB hq
   refine hK.out _ _ aR (fun hHeld => ?_)
   clear hK K hHeld
   have FE := aa (FE.out.below hq)
   have HE := aa (HE.out.kept hq)
   have HA := aa (HA.out.kept hq)
   have HZ := aa (HZ.out.kept hq)
   have FL := aa (bE FL.out hq)
   have kQ := kQ
   have FB := aR
   clear aR
   try simp only [qq, Ic.val, Ic.cs, aM, aL]
   obtain ⟨u, hw, HQ, -, -, -⟩ := sI (.cells #[.int .i64 3, .int .i64 0, .slice none 0 0, .slice (some ⟨gL, 0, none⟩) 4 4] 117) xO u7
   have mO := aa hw
   clear hw
   refine bW 22 fun K hK => ?_
   go_simp
   rw [mO.out]
   have aR := bb3 FB HQ.out
   refine hK.out _ _ aR (fun hHeld => ?_)
   clear hK K hHeld
   have FE := aa (FE.out.below HQ.out)
   have HE := aa (HE.out.kept HQ.out)
   have HA := aa (HA.out.kept HQ.out)
   have HZ := aa (HZ.out.kept HQ.out)
   have FL := aa (bE FL.out HQ.out)
   have kQ := kQ
   have FO : Hid (u.heap[(u7.heap.size)]? = some (.cells #[.int .i64 3, .int .i64 0, .slice none 0 0, .slice (some ⟨gL, 0, none⟩) 4 4] 117)) := by rw [← mO.out]; exact (aa (heap_alloc_new u7 _))
   obtain ⟨gO, hg⟩ : ∃ x, u7.heap.size = x := ⟨_, rfl⟩
   rw [hg] at FO ⊢
   clear hg
   have FB := aR
   clear aR mO HQ
   try simp only [qq, Ic.val, Ic.cs, aM, aL]
   have hHeld := FB
   have hT := trivial
   have ha0 := trivial
   have sK := aa FB.out.1
   have Q5 := aa FB.out.2.1
   have X3 := aa FB.out.2.2
   have hit : qa w3.heap.size u (EN p) (Ic.mk 3 0 none 0 0 (some ⟨gL, 0, none⟩) 4 4) := rF (fun k => match k with | 0 => cE | 1 => cA | 2 => aM p.C | _ => cZ) FL.out kQ.out rfl (fun k hk => by
     rcases (show k = 0 ∨ k = 1 ∨ k = 2 ∨ k = 3 by omega) with rfl | rfl | rfl | rfl <;> exact ⟨rfl, rfl, rfl, rfl⟩) (fun k hk => by
     rcases (show k = 0 ∨ k = 1 ∨ k = 2 ∨ k = 3 by omega) with rfl | rfl | rfl | rfl
     · exact HE.out
     · exact HA.out
     · exact nA _ _ _
     · exact HZ.out)
   have hown : u.ownsRow (B + 1) 117 4 v k (cs.flatMap aS) := by
    have h := HO.out.keep FB.out.2.1
    unfold dM at h
    rwa [zn.out] at h
   have hbz := FB.out.1.size
   have hWr := au.out.size
   have hno : v.ownBlock ≠ some B := HO.out.no (by omega)
   have hvq := HV.out.below FB.out.2.1
   have hsb := Ce.out
   have acV := FB.out.2.1.size
   have acY := FB.out.2.2.size
   have acX := Qb.out
   refine mR 23 fun K hK => ?_
   refine step_append_lies _ (by rfl) _ _ _ (by rfl) (B + 1) 117 i0 _ 4 64 Tryz.underlying115 hi hz0 hz1 hz2 rfl (by omega) v k (cs.flatMap aS) (by rfl) hown ⟨gO, 0, none⟩ 1 1 [.int .i64 3, .int .i64 0, .slice none 0 0, .slice (some ⟨gL, 0, none⟩) 4 4] (by rfl) (by rfl) (World.news_of_block (cs := #[.int .i64 3, .int .i64 0, .slice none 0 0, .slice (some ⟨gL, 0, none⟩) 4 4]) (t := 117) (fr := (0, 0)) FO.out) (by simp [Value.oneCell']) (by omega) (by unfold maxLen; omega) (by omega) (by omega) u.heap.size rfl ?_
   intro gg cap wz hown1 hgrow hgg hlt2
   have Gv := bP hvq hgrow hno
   have TU := Gv
   obtain ⟨p2, f2⟩ := TU
   refine hK.out _ _ ?_
   clear hK K
   try simp only [qq]
   refine mR 24 fun K hK => ?_
   go_simp
   refine hK.out _ _ ?_
   clear hK K
   try simp only [qq]
   refine mR 25 fun K hK => ?_
   go_simp
   refine hK.out _ _ ?_
   clear hK K
   try simp only [qq]
   refine gz ?_
   clear hHeld hT ha0
   have hgz : u.heap.size ≤ wz.heap.size := hgrow.size
   have xV : Hid (dM (wz.setCell ⟨B, 3, none⟩ (.slice (some ⟨gg, 0, none⟩) (k + 1) cap)) (B + 1) (.slice (some ⟨gg, 0, none⟩) (k + 1) cap) (cs ++ [(Ic.mk 3 0 none 0 0 (some ⟨gL, 0, none⟩) 4 4)])) := aa ((dM.app zn.out.symm (by simpa [aS] using hown1)).set (by omega))
   have tN : Hid (Own (wz.setCell ⟨B, 3, none⟩ (.slice (some ⟨gg, 0, none⟩) (k + 1) cap)) ⟨B, 3, none⟩ (.slice (some ⟨gg, 0, none⟩) (k + 1) cap)) := aa (dI Gv)
   have P8 : Hid (Own (wz.setCell ⟨B, 3, none⟩ (.slice (some ⟨gg, 0, none⟩) (k + 1) cap)) ⟨B, 0, none⟩ (.int .i64 3) ∧ Own (wz.setCell ⟨B, 3, none⟩ (.slice (some ⟨gg, 0, none⟩) (k + 1) cap)) ⟨B, 1, none⟩ (.int .i64 0) ∧ Own (wz.setCell ⟨B, 3, none⟩ (.slice (some ⟨gg, 0, none⟩) (k + 1) cap)) ⟨B, 2, none⟩ (.slice none 0 0)) := aa ⟨aK (bP (nH.out.1.below FB.out.2.1) hgrow hno) (by simp), aK (bP (nH.out.2.1.below FB.out.2.1) hgrow hno) (by simp), aK (bP (nH.out.2.2.below FB.out.2.1) hgrow hno) (by simp)⟩
   have FZ : ∀ b, ((.slice (some ⟨gg, 0, none⟩) (k + 1) cap) : Value).ownBlock = some b → v.ownBlock = some b ∨ u.heap.size ≤ b := fun b e => by
    cases e
    rcases hgg with e | e
    · exact Or.inl e
    · exact Or.inr (show u.heap.size ≤ gg by omega)
   have uN : ∀ b, v.ownBlock = some b → b < wr.heap.size := fun b e => (World.ownsRow.lt HO.out b e).2
   have Qh : Hid (∀ j, j < k + 1 → ET ((.slice (some ⟨gg, 0, none⟩) (k + 1) cap) : Value).ownBlock (B + 1) (wz.setCell ⟨B, 3, none⟩ (.slice (some ⟨gg, 0, none⟩) (k + 1) cap)) (EN (o.ps.getD j aF)) ((cs ++ [(Ic.mk 3 0 none 0 0 (some ⟨gL, 0, none⟩) 4 4)]).getD j default)) := aa (fun j hj => by
    by_cases e : j = k
    ·
     subst e
     rw [nU.out, show (cs ++ [((Ic.mk 3 0 none 0 0 (some ⟨gL, 0, none⟩) 4 4) : Ic)]).getD j default = (Ic.mk 3 0 none 0 0 (some ⟨gL, 0, none⟩) 4 4) by rw [List.getD_eq_getElem?_getD, List.getElem?_append_right (by rw [zn.out]; exact Nat.le_refl _), zn.out, Nat.sub_self]; rfl]
     exact ((hit.g (lo := B + 1) (by omega) (fun b e => by have := uN b e; omega)).grown hgrow hgz FZ).setCell (by omega)
    ·
     rw [show (cs ++ [((Ic.mk 3 0 none 0 0 (some ⟨gL, 0, none⟩) 4 4) : Ic)]).getD j default = cs.getD j default by rw [List.getD_eq_getElem?_getD, List.getElem?_append_left (by rw [zn.out]; omega), ← List.getD_eq_getElem?_getD]]
     exact (((HG.out j (by omega)).kept FB.out.2.1).grown hgrow hgz FZ).setCell (by omega))
   have jF : Hid (Below B W (wz.setCell ⟨B, 3, none⟩ (.slice (some ⟨gg, 0, none⟩) (k + 1) cap))) := aa (((au.out.trans (FB.out.2.1.mono (by omega))).grown hgrow (by omega) (fun j hj => by have := (World.ownsRow.lt HO.out j hj).1; omega)).setCell (Nat.le_refl _) _)
   have UH : Hid ((cs ++ [((Ic.mk 3 0 none 0 0 (some ⟨gL, 0, none⟩) 4 4) : Ic)]).length = k + 1) := aa (by rw [List.length_append, zn.out]; rfl)
   clear hown hvq hown1 hgrow hgg hlt2 Gv p2 f2 FZ uN hit
   go_wp2
   go_roundw
   case rel => exact ⟨k + 1, _, _, by omega, by go_num, UH, tN, P8, xV, Qh, jF⟩
   case measure => simp [intOf]; omega
  ·
   have hke : k = o.np := by omega
   obtain ⟨L5, J5, hv5, Mm⟩ := Hy (l := o.ps.map EN) (lo := B + 1) HO.out zn.out (by rw [List.length_map, VG, hke]) (Nat.le_refl _) (fun j hj => by
    rw [show (o.ps.map EN).getD j default = EN (o.ps.getD j aF) by rw [List.getD_eq_getElem?_getD, List.getElem?_map, List.getD_eq_getElem?_getD, List.getElem?_eq_getElem (show j < o.ps.length by omega)]; rfl]
    exact (HG.out j hj).s)
   subst hv5
   have Uz := aa Mm
   obtain ⟨⟨a3, _⟩, ⟨a0, _⟩, ⟨a1, _⟩, ⟨a2, _⟩⟩ := (⟨HV.out, nH.out⟩ : _ ∧ _ ∧ _ ∧ _)
   have Qj : Hid (wr.cell? ⟨B, 0, none⟩ = some (.int .i64 3) ∧ wr.cell? ⟨B, 1, none⟩ = some (.int .i64 0) ∧ wr.cell? ⟨B, 2, none⟩ = some (.slice none 0 0) ∧ wr.cell? ⟨B, 3, none⟩ = some (.slice L5 k J5)) := aa ⟨a0, a1, a2, a3⟩
   have U4 := aa hke
   clear Mm a0 a1 a2 a3 HO HG HV nH hke
   have aY := bS wr
   have kX5 := aa (show ∀ u : World, Hid (Below wr.heap.size wr u) → u.cell? ⟨B, 0, none⟩ = some (.int .i64 3) ∧ u.cell? ⟨B, 1, none⟩ = some (.int .i64 0) ∧ u.cell? ⟨B, 2, none⟩ = some (.slice none 0 0) ∧ u.cell? ⟨B, 3, none⟩ = some (.slice L5 k J5) from fun u h => ⟨cell_below Qj.out.1 h.out, cell_below Qj.out.2.1 h.out, cell_below Qj.out.2.2.1 h.out, cell_below Qj.out.2.2.2 h.out⟩)
   have hcv := fun w => run_bytes_of_string (P := Tryz.prog) w 9 114 5 o.rs Tryz.underlying9 Tryz.underlying114 Tryz.underlying5
   have kA := aa (show ∀ u : World, Hid (Below wr.heap.size wr u) → Hid (Sl u o.A o.al) from fun u h => aa ((kO.out _ nR).out.2.2.2.1.below h.out))
   have kZ := aa (show ∀ u : World, Hid (Below wr.heap.size wr u) → Hid (Sl u o.Z o.zs) from fun u h => aa ((kO.out _ nR).out.2.2.2.2.1.below h.out))
   obtain ⟨q1, q2⟩ : Hid (o.al.length = o.na) ∧ Hid (o.zs.length = o.nz) := ⟨aa (kO.out _ nR).out.1, aa (kO.out _ nR).out.2.1⟩
   have QU : o.na ≤ 20 := by rw [← q1.out]; exact hs.a
   have QT : o.nz ≤ 20 := by rw [← q2.out]; exact hs.z
   have zc := kC.out _ nR
   have Y4 := kX5.out _ aY
   go_upto_region 7 with (fail)
   clear zc Y4
   have hO := aa (fun (u : World) (h : Hid (Below w0.heap.size w0 u ∧ Below wr.heap.size wr u)) => And.intro (kC.out u (aa h.out.1)) (kX5.out u (aa h.out.2)))
   have mP := bb2 (aa ⟨nR.out, aY.out⟩) (Below.refl _ _).drew
   refine t_ (fun u => Below w0.heap.size w0 u ∧ Below wr.heap.size wr u) [16] mP (fun hHeld => ?_)
   obtain ⟨wD, mI⟩ : ∃ u, wr.drew = u := ⟨_, rfl⟩
   rw [mI] at mP hHeld ⊢
   have zk : Hid (wr.heap.size ≤ wD.heap.size) := aa (by rw [← mI]; exact Nat.le_refl _)
   clear mI
   refine aT 0 1 3 4 ?_
   refine aT 7 8 10 11 ?_
   refine aH 12 ?_
   refine Yf fun a0 ha0 => ?_
   clear hHeld
   refine Oo [2, 5, 6, 9, 13, 14, 15] [[], [], [0, 1], [0, 1, 2], [0, 1, 2, 3], [0, 1, 2, 3, 4], [0, 1, 2, 3, 4, 5]] [[2, 3, 4, 5, 6], [2, 3, 4, 5, 6], [3, 4, 5, 6], [4, 5, 6], [5, 6], [6], []] 1 #[true, true, true, true, true, true, true, true, true, true, true, true, true, true, true, true, false] (fun bs a u => ∃ (vv wX rD uH fD fC eu : Bool) (gC : Nat) (cC : Nat) (cE : Ic) (gL : Nat), bs = [vv, wX, rD, uH, fD, fC, eu] ∧ a = (((((((a0.put (some 42) (cond vv (.agg #[.int .i64 1, .int .i64 (o.num), .slice none 0 0, .slice none 0 0]) undef)).put (some 45) (cond wX (.slice (some ⟨gC, 0, none⟩) o.rs.size cC) undef)).put (some 46) (cond rD (.agg #[.int .i64 2, .int .i64 (0), .slice (some ⟨gC, 0, none⟩) o.rs.size cC, .slice none 0 0]) undef)).put (some 49) (cond uH (.agg #[.int .i64 cE.kind, .int .i64 cE.n, .slice cE.B cE.nb cE.cb, .slice cE.L cE.nl cE.cl]) undef)).put (some 53) (cond fD (.agg #[.int .i64 1, .int .i64 (o.key), .slice none 0 0, .slice none 0 0]) undef)).put (some 54) (cond fC (.slice (some ⟨gL, 0, none⟩) 5 5) undef)).put (some 55) (cond eu (.agg #[.int .i64 3, .int .i64 (0), .slice none 0 0, .slice (some ⟨gL, 0, none⟩) 5 5]) undef)) ∧ Hid (Below w0.heap.size w0 u ∧ Below wr.heap.size wr u) ∧ (wX = true → Hid (Sk .u8 u (some ⟨gC, 0, none⟩) (aU o.rs))) ∧ (wX = true → Hid (w0.heap.size ≤ gC)) ∧ (uH = true → Hid (qa w0.heap.size u (J4 o.E1 o.E2 o.al o.C o.zs) cE)) ∧ (fC = true → Hid (u.heap[gL]? = some (.cells #[.int .i64 1, .int .i64 o.num, .slice none 0 0, .slice none 0 0, .int .i64 2, .int .i64 0, .slice (some ⟨gC, 0, none⟩) o.rs.size cC, .slice none 0 0, .int .i64 cE.kind, .int .i64 cE.n, .slice cE.B cE.nb cE.cb, .slice cE.L cE.nl cE.cl, .int .i64 3, .int .i64 0, .slice none 0 0, .slice L5 k J5, .int .i64 1, .int .i64 o.key, .slice none 0 0, .slice none 0 0] 117))) ∧ (fC = true → Hid (w0.heap.size ≤ gL))) ⟨false, false, false, false, false, false, false, 0, 0, (Ic.mk 0 0 none 0 0 none 0 0), 0, rfl, by rw [ha0]; simp only [qq], mP, nofun, nofun, nofun, nofun, nofun⟩ ?_ ⟨?_, ?_, ?_, ?_, ?_, ?_, ?_, trivial⟩
   ·
    rintro bs a u hbs ⟨vv, wX, rD, uH, fD, fC, eu, gC, cC, cE, gL, rfl, rfl, FB, qD, iC, mQ, nT, fV⟩
    obtain ⟨rfl, rfl, rfl, rfl, rfl, rfl, rfl⟩ : vv = true ∧ wX = true ∧ rD = true ∧ uH = true ∧ fD = true ∧ fC = true ∧ eu = true := by simpa using hbs
    have FC := qD rfl
    have zA := iC rfl
    have HE := mQ rfl
    have FL := nT rfl
    have kQ := fV rfl
    clear qD iC mQ nT fV
    have hHeld := FB
    have hT := trivial
    rw [ha0]
    simp only [qq]
    have sK := aa FB.out.1
    have Q5 := aa FB.out.2
    have oN := yV.out _ (aa FB.out.1)
    refine mR 16 fun K hK => ?_
    rw [show (if Region.wanted _ _ = true then _ else _ : Prop) = _ from if_pos rfl]
    refine wp_store_row 117 _ _ rfl (w.heap.size + 1) (Ic.cs ⟨3, 0, none, 0, 0, some ⟨gL, 0, none⟩, 5, 5⟩) rfl rfl 117 _ oN.out (b_ _) rfl (je _) ?_
    refine hK.out _ _ ?_
    clear hK K
    try simp only [qq]
    refine gz ?_
    have hit : qa w0.heap.size u (JZ o) ⟨3, 0, none, 0, 0, some ⟨gL, 0, none⟩, 5, 5⟩ := rF (fun k9 => match k9 with | 0 => aM o.num | 1 => aL (some ⟨gC, 0, none⟩) o.rs.size cC | 2 => cE | 3 => ⟨3, 0, none, 0, 0, L5, k, J5⟩ | _ => aM o.key) FL.out kQ.out rfl (fun k9 hk => by
      rcases (show k9 = 0 ∨ k9 = 1 ∨ k9 = 2 ∨ k9 = 3 ∨ k9 = 4 by omega) with rfl | rfl | rfl | rfl | rfl <;> exact ⟨rfl, rfl, rfl, rfl⟩) (fun k9 hk => by
      rcases (show k9 = 0 ∨ k9 = 1 ∨ k9 = 2 ∨ k9 = 3 ∨ k9 = 4 by omega) with rfl | rfl | rfl | rfl | rfl
      · exact nA _ _ _
      · exact BC FC.out zA.out (bz _)
      · exact HE.out
      · exact (Uz.out.kept FB.out.2).mono (by have := Ce.out; omega)
      · exact nA _ _ _)
    have hit2 := (hit.setRow (g := w.heap.size + 1) (by have := nQ.out; omega) (Ic.cs ⟨3, 0, none, 0, 0, some ⟨gL, 0, none⟩, 5, 5⟩)).mono (lo' := w.heap.size) (by have := nQ.out; omega)
    have bV := aj (ag ai.out FB.out.1) (cs := Ic.cs ⟨3, 0, none, 0, 0, some ⟨gL, 0, none⟩, 5, 5⟩) (Nat.le_add_right w.heap.size 1)
    have hrw := setRow_heap _ _ _ (Ic.cs ⟨3, 0, none, 0, 0, some ⟨gL, 0, none⟩, 5, 5⟩) _ _ oN.out
    go_wp2
    exact bodyPost_ret (v := (Ic.mk 3 0 none 0 0 (some ⟨gL, 0, none⟩) 5 5).val) (aC (p := 2) (ty := 117) rfl _ _ ⟨w.heap.size + 1, 0, none⟩ _ rfl (run_loadVar_row _ _ _ _ _ _ _ hrw Tryz.underlying117 rfl (b_ _))) rfl ⟨_, rfl, hit2, bV⟩
   ·
    rintro bs a u ⟨vv, wX, rD, uH, fD, fC, eu, gC, cC, cE, gL, rfl, rfl, FB, qD, iC, mQ, nT, fV⟩ hr
    simp [jb, and_assoc] at hr
    obtain ⟨rfl, rfl, rfl, rfl, rfl, rfl⟩ := hr
    refine ⟨_, rfl, fun K hK => ?_⟩
    rw [ha0]
    simp only [qq]
    go_simp
    refine (rE o.num _).mono ?_
    rintro e wB ⟨rfl, hq⟩
    have aR := bb2 FB hq
    refine hK.out _ _ aR ⟨true, wX, false, false, false, false, false, gC, cC, cE, gL, rfl, ?_, aR, fun e => aa ((qD e).out.below hq), fun e => (iC e), nofun, nofun, nofun⟩
    rw [ha0]
    simp only [qq]
    try rfl
   ·
    rintro bs a u ⟨vv, wX, rD, uH, fD, fC, eu, gC, cC, cE, gL, rfl, rfl, FB, qD, iC, mQ, nT, fV⟩ hr
    simp [jb, and_assoc] at hr
    obtain ⟨rfl, rfl, rfl, rfl, rfl, rfl⟩ := hr
    refine ⟨_, rfl, fun K hK => ?_⟩
    rw [ha0]
    simp only [qq]
    go_simp
    have aR := bb2 FB ((af u (.cells (bytesRow o.rs (grownCap u o.rs.size 0 5)) 5 ((bytesRow o.rs (grownCap u o.rs.size 0 5)).size, (bytesRow o.rs (grownCap u o.rs.size 0 5)).size + 1))).drew)
    refine hK.out _ _ aR ⟨vv, true, false, false, false, false, false, u.heap.size, (grownCap u o.rs.size 0 5), cE, gL, rfl, ?_, aR, fun _ => (aa ((lu (heap_alloc_new u _)).below ((Below.refl _ _).drew))), fun _ => (aa (by have := FB.out.1.size; omega)), nofun, nofun, nofun⟩
    rw [ha0]
    simp only [qq]
    try rfl
   ·
    rintro bs a u ⟨vv, wX, rD, uH, fD, fC, eu, gC, cC, cE, gL, rfl, rfl, FB, qD, iC, mQ, nT, fV⟩ hr
    simp [jb, and_assoc] at hr
    obtain ⟨rfl, rfl, rfl, rfl, rfl, rfl, rfl⟩ := hr
    have FC := qD rfl
    have zA := iC rfl
    refine ⟨_, rfl, fun K hK => ?_⟩
    rw [ha0]
    simp only [qq]
    go_simp
    refine (xz (some ⟨gC, 0, none⟩) o.rs.size cC _).mono ?_
    rintro e wB ⟨rfl, hq⟩
    have aR := bb2 FB hq
    refine hK.out _ _ aR ⟨true, true, true, false, false, false, false, gC, cC, cE, gL, rfl, ?_, aR, fun _ => aa (FC.out.below hq), fun _ => zA, nofun, nofun, nofun⟩
    rw [ha0]
    simp only [qq]
    try rfl
   ·
    rintro bs a u ⟨vv, wX, rD, uH, fD, fC, eu, gC, cC, cE, gL, rfl, rfl, FB, qD, iC, mQ, nT, fV⟩ hr
    simp [jb, and_assoc] at hr
    obtain ⟨rfl, rfl, rfl, rfl, rfl, rfl, rfl⟩ := hr
    have FC := qD rfl
    have zA := iC rfl
    refine ⟨_, rfl, fun K hK => ?_⟩
    rw [ha0]
    simp only [qq]
    go_simp
    refine (AB o.E1 o.E2 o.A o.na o.ca o.al o.C o.Z o.nz o.cz o.zs q1 q2 (by omega) (by omega) _ (kA.out _ (aa FB.out.2)) (kZ.out _ (aa FB.out.2))).mono ?_
    rintro e wB ⟨cB, rfl, hit, hq⟩
    have aR := bb2 FB hq
    refine hK.out _ _ aR ⟨true, true, true, true, false, false, false, gC, cC, cB, gL, rfl, ?_, aR, fun _ => aa (FC.out.below hq), fun _ => zA, fun _ => (aa (hit.mono (by have := FB.out.1.size; omega))), nofun, nofun⟩
    rw [ha0]
    simp only [qq]
    try rfl
   ·
    rintro bs a u ⟨vv, wX, rD, uH, fD, fC, eu, gC, cC, cE, gL, rfl, rfl, FB, qD, iC, mQ, nT, fV⟩ hr
    simp [jb, and_assoc] at hr
    obtain ⟨rfl, rfl, rfl, rfl, rfl, rfl, rfl⟩ := hr
    have FC := qD rfl
    have zA := iC rfl
    have HE := mQ rfl
    refine ⟨_, rfl, fun K hK => ?_⟩
    rw [ha0]
    simp only [qq]
    go_simp
    refine (rE o.key _).mono ?_
    rintro e wB ⟨rfl, hq⟩
    have aR := bb2 FB hq
    refine hK.out _ _ aR ⟨true, true, true, true, true, false, false, gC, cC, cE, gL, rfl, ?_, aR, fun _ => aa (FC.out.below hq), fun _ => zA, fun _ => aa (HE.out.kept hq), nofun, nofun⟩
    rw [ha0]
    simp only [qq]
    try rfl
   ·
    rintro bs a u ⟨vv, wX, rD, uH, fD, fC, eu, gC, cC, cE, gL, rfl, rfl, FB, qD, iC, mQ, nT, fV⟩ hr
    simp [jb, and_assoc] at hr
    obtain ⟨rfl, rfl, rfl, rfl, rfl, rfl, rfl⟩ := hr
    have FC := qD rfl
    have zA := iC rfl
    have HE := mQ rfl
    refine ⟨_, rfl, fun K hK => ?_⟩
    rw [ha0]
    simp only [qq]
    go_simp
    have aR := bb2 FB (af u (.cells #[.int .i64 1, .int .i64 o.num, .slice none 0 0, .slice none 0 0, .int .i64 2, .int .i64 0, .slice (some ⟨gC, 0, none⟩) o.rs.size cC, .slice none 0 0, .int .i64 cE.kind, .int .i64 cE.n, .slice cE.B cE.nb cE.cb, .slice cE.L cE.nl cE.cl, .int .i64 3, .int .i64 0, .slice none 0 0, .slice L5 k J5, .int .i64 1, .int .i64 o.key, .slice none 0 0, .slice none 0 0] 117))
    refine hK.out _ _ aR ⟨true, true, true, true, true, true, false, gC, cC, cE, u.heap.size, rfl, ?_, aR, fun _ => aa (FC.out.below (af u (.cells #[.int .i64 1, .int .i64 o.num, .slice none 0 0, .slice none 0 0, .int .i64 2, .int .i64 0, .slice (some ⟨gC, 0, none⟩) o.rs.size cC, .slice none 0 0, .int .i64 cE.kind, .int .i64 cE.n, .slice cE.B cE.nb cE.cb, .slice cE.L cE.nl cE.cl, .int .i64 3, .int .i64 0, .slice none 0 0, .slice L5 k J5, .int .i64 1, .int .i64 o.key, .slice none 0 0, .slice none 0 0] 117))), fun _ => zA, fun _ => aa (HE.out.kept (af u (.cells #[.int .i64 1, .int .i64 o.num, .slice none 0 0, .slice none 0 0, .int .i64 2, .int .i64 0, .slice (some ⟨gC, 0, none⟩) o.rs.size cC, .slice none 0 0, .int .i64 cE.kind, .int .i64 cE.n, .slice cE.B cE.nb cE.cb, .slice cE.L cE.nl cE.cl, .int .i64 3, .int .i64 0, .slice none 0 0, .slice L5 k J5, .int .i64 1, .int .i64 o.key, .slice none 0 0, .slice none 0 0] 117))), fun _ => (aa (heap_alloc_new u _)), fun _ => (aa (by have := FB.out.1.size; omega))⟩
    rw [ha0]
    simp only [qq]
    try rfl
   ·
    rintro bs a u ⟨vv, wX, rD, uH, fD, fC, eu, gC, cC, cE, gL, rfl, rfl, FB, qD, iC, mQ, nT, fV⟩ hr
    simp [jb, and_assoc] at hr
    obtain ⟨rfl, rfl, rfl, rfl, rfl, rfl, rfl⟩ := hr
    have FC := qD rfl
    have zA := iC rfl
    have HE := mQ rfl
    have FL := nT rfl
    have kQ := fV rfl
    refine ⟨_, rfl, fun K hK => ?_⟩
    rw [ha0]
    simp only [qq]
    go_simp
    refine (uJ (some ⟨gL, 0, none⟩) 5 5 _).mono ?_
    rintro e wB ⟨rfl, hq⟩
    have aR := bb2 FB hq
    refine hK.out _ _ aR ⟨true, true, true, true, true, true, true, gC, cC, cE, gL, rfl, ?_, aR, fun _ => aa (FC.out.below hq), fun _ => zA, fun _ => aa (HE.out.kept hq), fun _ => aa (bE FL.out hq), fun _ => kQ⟩
    rw [ha0]
    simp only [qq]
    try rfl
def um : ByteArray := ⟨#[115, 112, 101, 99, 105, 101, 47, 116, 114, 97, 105, 108]⟩
def Ar (h : List Int) (o : aJ) : It := .lst [.byt h, JZ o]
def Jk (h : List Int) (o : aJ) : List Int := tagged (aU um) (enc (Ar h o))
theorem Bz (h : List Int) (o : aJ) : (Jk h o).length = 32 := dF _ _
theorem VK (h : List Int) (o : aJ) : az (Jk h o) = true := iJ _
theorem MI {h : List Int} {o : aJ} (hl : h.length = 32) (hb : az h = true) (hi : gP o) (hs : lD o) : fits 8 (Ar h o) := by
 refine ⟨by simp, fun x hx => ?_⟩
 simp only [List.mem_cons, List.not_mem_nil, or_false] at hx
 rcases hx with rfl | rfl
 · exact ⟨⟨by omega, by omega⟩, hb⟩
 · exact oF (MH hi hs) (by decide)
theorem QK {h : List Int} {o : aJ} (hl : h.length = 32) (hs : lD o) : (enc (Ar h o)).length ≤ 16384 := by
 have h1 := QJ hs
 rw [Ar, eH]
 simp only [List.length_cons, List.length_append, dV, oI, h_, List.length_nil, show (eZ []).length = 0 from rfl, hl]
 omega
theorem CY (tg : ByteArray) (ht1 : 1 ≤ tg.size) (ht2 : tg.size ≤ 100) (i : It) (c : Ic) (jC : Hid (fits 8 i)) (HLEN : Hid ((enc i).length ≤ 16384)) (w : World) (hv : Hid (bF w)) (hi : Hid (nO w i c)) :
  Calls Tryz.prog 140 #[.string tg, .agg #[.int .i64 c.kind, .int .i64 c.n, .slice c.B c.nb c.cb, .slice c.L c.nl c.cl]] w (Rt w (.agg (arr .u8 (tagged (aU tg) (enc i))))) := by
 obtain ⟨RR, hRR⟩ : ∃ R, tagged (aU tg) (enc i) = R := ⟨_, rfl⟩
 rw [hRR]
 have Nv : Kp (tagged (aU tg) (enc i) = RR) := ⟨hRR⟩
 have fo : Hid (RR.length = 32) := aa (by rw [← hRR]; exact dF _ _)
 clear hRR
 obtain ⟨W, hW⟩ : ∃ W, (w.alloc (.cells #[.int .i64 c.kind, .int .i64 c.n, .slice c.B c.nb c.cb, .slice c.L c.nl c.cl] 117)).alloc (.cells z32 41) = W := ⟨_, rfl⟩
 have bQ : Hid (Below w.heap.size w W) := aa (by rw [← hW]; exact aI (Below.refl _ _))
 have UF : Hid (W.heap[w.heap.size]? = some (.cells #[.int .i64 c.kind, .int .i64 c.n, .slice c.B c.nb c.cb, .slice c.L c.nl c.cl] 117)) := aa (by rw [← hW]; exact heap_alloc2_old _ _ _)
 have ek : Hid (bB .u8 41 W (w.heap.size + 1) (dD 32)) := aa (by rw [← hW, iP]; exact heap_alloc2_new _ _ _)
 have HV := aa (hv.out.below bQ.out)
 have HI := aa (hi.out.kept bQ.out)
 have HW := aa hW
 have c0 := ak UF.out 0
 have c1 := ak UF.out 1
 have c2 := ak UF.out 2
 have c3 := ak UF.out 3
 clear hW hv hi
 go_in
 go_upto_region 1 with (fail)
 rw [HW.out]
 go_wp2_with fail
 refine (tK i c _ jC.out HI.out HLEN.out).mono ?_
 rintro e w4 ⟨v4, rfl, zI, hb4⟩
 obtain ⟨E, hE⟩ : ∃ E, enc i = E := ⟨_, rfl⟩
 have JR : Hid (az E = true) := aa (by rw [← hE]; exact jO jC.out)
 have vC : Hid (0 < E.length ∧ E.length ≤ 16384) := aa (by rw [← hE]; exact ⟨nD _, HLEN.out⟩)
 rw [hE] at zI
 obtain ⟨g4, cap4, e4, hg4, -, -, qR⟩ := zI.cells vC.out.1
 obtain ⟨n4, Mk⟩ : ∃ n, E.length = n := ⟨_, rfl⟩
 rw [Mk] at e4 vC
 subst e4
 have XH := aa Mk
 have xU := aa qR
 have jF := aa hb4
 have GG : Kp (enc i = E) := ⟨hE⟩
 clear hE qR zI hb4 Mk c0 c1 c2 c3
 obtain ⟨he0, he1⟩ := vC.out
 go_wp2_with fail
 refine (o8 tg ht1 ht2 g4 0 cap4 E n4 XH he0 (by omega) JR _ xU (aa (HV.out.below jF.out))).mono ?_
 rintro e w5 ⟨rfl, hb5⟩
 have l8 := aa (ag jF.out hb5)
 rw [← GG.1, Nv.1, show lF RR = .tuple #[.agg (arr .u8 RR), .int .i64 0] from rfl]
 clear hb5 xU jF
 have tO : Hid (bB .u8 41 w5 (w.heap.size + 1) (dD 32)) := aa (ek.out.below l8.out)
 have HA5 : Hid (bB .u8 41 (w5.alloc (.cells z32 41)) w5.heap.size (dD 32)) := aa (by rw [iP]; exact bB.new _ _)
 have HA6 : Hid (bB .u8 41 ((w5.alloc (.cells z32 41)).setRow w5.heap.size (arr .u8 RR)) w5.heap.size RR) := aa HA5.out.setRow
 have Ny : Hid (bB .u8 41 ((w5.alloc (.cells z32 41)).setRow w5.heap.size (arr .u8 RR)) (w.heap.size + 1) (dD 32)) := aa ((tO.out.old _).setRow_ne (by have := tO.out.lt; omega))
 go_wp2_with (first
  | ((with_reducible show wpList _ _ _ (⟨none, Op.store _ (Operand.tmp 7) _, _, _, _, _⟩ :: _) _ _); refine wpList_store_row rfl 41 _ _ rfl w5.heap.size (arr .u8 RR) rfl rfl _ _ HA5.out (ax fo.out) (dY (l := dD 32) rfl fo.out) (cu _) ?_)
  | ((with_reducible show wpList _ _ _ (⟨some 20, _, _, _, _, _⟩ :: _) _ _); refine wpList_load_row rfl 41 _ rfl w5.heap.size rfl _ _ _ _ HA6.out Tryz.underlying41 rfl (ax fo.out) ?_)
  | ((with_reducible show wpList _ _ _ (⟨none, Op.store _ (Operand.tmp 4) _, _, _, _, _⟩ :: _) _ _); refine wpList_store_row rfl 41 _ _ rfl (w.heap.size + 1) (arr .u8 RR) rfl rfl _ _ Ny.out (ax fo.out) (dY (l := dD 32) rfl fo.out) (cu _) ?_))
 have HRR := Ny.out.setRow (l' := RR)
 have fA := aj (aj (ag bQ.out (ag l8.out (af w5 (.cells z32 41)))) (b := w5.heap.size) (by have := (ag bQ.out l8.out).size; omega) (cs := arr .u8 RR)) (b := w.heap.size + 1) (Nat.le_succ _) (cs := arr .u8 RR)
 exact bodyPost_ret (v := .agg (arr .u8 RR)) (aC (p := 4) (ty := 41) rfl _ _ ⟨w.heap.size + 1, 0, none⟩ _ rfl (run_loadVar_row _ _ _ _ _ _ _ HRR Tryz.underlying41 rfl (ax fo.out))) rfl ⟨rfl, fA⟩
theorem LG (h : List Int) (hl : Hid (h.length = 32)) (hb : Hid (az h = true)) (o : aJ) (hi : Hid (gP o)) (hs : lD o) (w : World) (hv : Hid (bF w)) (ho : Hid (gy w o)) :
  Calls Tryz.prog 88 #[.agg (arr .u8 h), wU o] w (Rt w (.agg (arr .u8 (Jk h o)))) := by
 obtain ⟨RR, hRR⟩ : ∃ R, tagged (aU um) (enc (Ar h o)) = R := ⟨_, rfl⟩
 rw [show Jk h o = tagged (aU um) (enc (Ar h o)) from rfl, hRR]
 have HRR : Kp (tagged (aU um) (enc (Ar h o)) = RR) := ⟨hRR⟩
 have fo : Hid (RR.length = 32) := aa (by rw [← hRR]; exact dF _ _)
 have jC : Hid (fits 8 (Ar h o)) := aa (MI hl.out hb.out hi.out hs)
 have HLEN : Hid ((enc (Ar h o)).length ≤ 16384) := aa (QK hl.out hs)
 clear hRR
 obtain ⟨w0, HW, ai, kC⟩ := qF (.cells (arr .u8 h) 41) bp0 (vo o) Yz (.cells z32 41) xO w
 have kO := gV (fun u => gy u o) ai ho (·.below)
 have kD := r_ ai hv
 have VP := aa (show ∀ u : World, Hid (Below w0.heap.size w0 u) → Hid (bB .u8 41 u w.heap.size h) from fun u h9 => aa (bB.below (by rw [← HW.out]; exact ((bB.new w h).old _).old _) h9.out))
 have yV := aa (show ∀ u : World, Hid (Below w0.heap.size w0 u) → Hid (bB .u8 41 u (w.heap.size + 2) (dD 32)) from fun u h9 => aa (bB.below (by rw [← HW.out, iP]; exact gU _ _ _ _) h9.out))
 have ah := bS w0
 clear ho hv
 go_in
 go_upto_region 1 with (fail)
 rw [HW.out]
 have zc := kC.out _ ah
 have nQ : Hid (w0.heap.size = w.heap.size + 3) := aa (by rw [← HW.out]; simp)
 clear zc
 have hO := kC
 have mP := bY (aa ah.out) (Below.refl _ _).drew
 refine t_ (fun u => Below w0.heap.size w0 u) [7] mP (fun hHeld => ?_)
 obtain ⟨wD, mI⟩ : ∃ u, w0.drew = u := ⟨_, rfl⟩
 rw [mI] at mP hHeld ⊢
 have zk : Hid (w0.heap.size ≤ wD.heap.size) := aa (by rw [← mI]; exact Nat.le_refl _)
 clear mI
 refine aH 0 ?_
 refine aH 2 ?_
 have FB := mP
 refine bW 1 fun K hK => ?_
 go_simp
 refine (xz (some ⟨w.heap.size, 0, none⟩) 32 32 _).mono ?_
 rintro e u1 ⟨rfl, hq⟩
 have aR := bY FB hq
 refine hK.out _ _ aR (fun hHeld => ?_)
 clear hK K hHeld
 have FB := aR
 clear aR
 try simp only [qq, Ic.val, Ic.cs, aM, aL]
 refine bW 3 fun K hK => ?_
 go_simp
 refine (LW o hs _ (kO.out _ (aa FB.out))).mono ?_
 rintro e u2 ⟨cO, rfl, hit, hq⟩
 have aR := bY FB hq
 refine hK.out _ _ aR (fun hHeld => ?_)
 clear hK K hHeld
 have HO := (aa (hit.mono (by have := FB.out.size; omega)))
 have FB := aR
 clear aR
 try simp only [qq, Ic.val, Ic.cs, aM, aL]
 obtain ⟨u3, hw, HQ, -, -, -⟩ := sI (.cells #[.int .i64 2, .int .i64 0, .slice (some ⟨w.heap.size, 0, none⟩) 32 32, .slice none 0 0, .int .i64 cO.kind, .int .i64 cO.n, .slice cO.B cO.nb cO.cb, .slice cO.L cO.nl cO.cl] 117) xO u2
 have mO := aa hw
 clear hw
 refine bW 4 fun K hK => ?_
 go_simp
 rw [mO.out]
 have aR := bY FB HQ.out
 refine hK.out _ _ aR (fun hHeld => ?_)
 clear hK K hHeld
 have HO := aa (HO.out.kept HQ.out)
 have FL : Hid (u3.heap[(u2.heap.size)]? = some (.cells #[.int .i64 2, .int .i64 0, .slice (some ⟨w.heap.size, 0, none⟩) 32 32, .slice none 0 0, .int .i64 cO.kind, .int .i64 cO.n, .slice cO.B cO.nb cO.cb, .slice cO.L cO.nl cO.cl] 117)) := by rw [← mO.out]; exact (aa (heap_alloc_new u2 _))
 have kQ : Hid (w0.heap.size ≤ (u2.heap.size)) := (aa (by have := FB.out.size; omega))
 obtain ⟨gL, hg⟩ : ∃ x, u2.heap.size = x := ⟨_, rfl⟩
 rw [hg] at FL kQ ⊢
 clear hg
 have FB := aR
 clear aR mO HQ
 try simp only [qq, Ic.val, Ic.cs, aM, aL]
 refine bW 5 fun K hK => ?_
 go_simp
 refine (uJ (some ⟨gL, 0, none⟩) 2 2 _).mono ?_
 rintro e u4 ⟨rfl, hq⟩
 have aR := bY FB hq
 refine hK.out _ _ aR (fun hHeld => ?_)
 clear hK K hHeld
 have HO := aa (HO.out.kept hq)
 have FL := aa (bE FL.out hq)
 have kQ := kQ
 have FB := aR
 clear aR
 try simp only [qq, Ic.val, Ic.cs, aM, aL]
 refine bW 6 fun K hK => ?_
 go_simp
 have hit : nO u4 (Ar h o) (Ic.mk 3 0 none 0 0 (some ⟨gL, 0, none⟩) 2 2) := uK (fun k => match k with | 0 => aL (some ⟨w.heap.size, 0, none⟩) 32 32 | _ => cO) FL.out rfl (fun k hk => by
   rcases (show k = 0 ∨ k = 1 by omega) with rfl | rfl <;> exact ⟨rfl, rfl, rfl, rfl⟩) (fun k hk => by
   rcases (show k = 0 ∨ k = 1 by omega) with rfl | rfl
   · exact iY (VP.out _ (aa FB.out)).out.sk hl.out
   · exact HO.out.it)
 refine (CY um (by decide) (by decide) (Ar h o) (Ic.mk 3 0 none 0 0 (some ⟨gL, 0, none⟩) 2 2) jC HLEN _ (kD.out _ (aa FB.out)) (aa hit)).mono ?_
 rintro e u ⟨rfl, hq⟩
 clear hit
 rw [HRR.1]
 have aR := bY FB hq
 refine hK.out _ _ aR (fun hHeld => ?_)
 clear hK K hHeld
 have HO := aa (HO.out.kept hq)
 have FL := aa (bE FL.out hq)
 have kQ := kQ
 have FB := aR
 clear aR
 try simp only [qq, Ic.val, Ic.cs, aM, aL]
 have hHeld := FB
 have hT := trivial
 have ha0 := trivial
 have sK := FB
 have oN := yV.out _ (aa FB.out)
 refine mR 7 fun K hK => ?_
 rw [show (if Region.wanted _ _ = true then _ else _ : Prop) = _ from if_pos rfl]
 refine wp_store_row 41 _ _ rfl (w.heap.size + 2) (arr .u8 RR) rfl rfl 41 _ oN.out (ax fo.out) (dY (l := dD 32) rfl fo.out) (cu _) ?_
 refine hK.out _ _ ?_
 clear hK K
 try simp only [qq]
 refine gz ?_
 have bV := aj (ag ai.out FB.out) (cs := arr .u8 RR) (Nat.le_add_right w.heap.size 2)
 have hrw := oN.out.setRow (l' := RR)
 go_wp2
 exact bodyPost_ret (v := .agg (arr .u8 RR)) (aC (p := 4) (ty := 41) rfl _ _ ⟨w.heap.size + 2, 0, none⟩ _ rfl (run_loadVar_row _ _ _ _ _ _ _ hrw Tryz.underlying41 rfl (ax fo.out))) rfl ⟨rfl, bV⟩
def hsL (hs : List (List Int)) (k : Nat) : List Int := hs.getD k []
def Hs (w : World) (K : Option Addr) (hs : List (List Int)) : Prop := ∀ k, k < hs.length → ∃ b o, K = some ⟨b, o, none⟩ ∧ (hsL hs k).length = 32 ∧ w.rangeAt b (o + k * 32) ((hsL hs k).map (Value.int .u8))
theorem fQ {w w' : World} {b o : Nat} {cs : List Value} (h : w.rangeAt b o cs) (hb : Below w.heap.size w w') : w'.rangeAt b o cs := fun j v hj => cell_below (h j v hj) hb
theorem Hs.below {w w' : World} {K : Option Addr} {hs : List (List Int)} (h : Hs w K hs) (hb : Below w.heap.size w w') : Hs w' K hs := fun k hk => by
 obtain ⟨b, o, h1, h2, h3⟩ := h k hk
 exact ⟨b, o, h1, h2, fQ h3 hb⟩
abbrev kN (O : Option Addr) (n c : Nat) (K : Option Addr) (m d : Nat) : Value := .agg #[.slice O n c, .slice K m d]
abbrev qj (O : Option Addr) (n c : Nat) (K : Option Addr) (m d : Nat) : Obj := .cells #[.slice O n c, .slice K m d] 52
def iT (os : List aJ) (k : Nat) : aJ := os.getD k iF
def hbL (os : List aJ) : Nat → List Int
 | 0 => dD 32
 | k + 1 => if (iT os k).key = 0 then hbL os k else Jk (hbL os k) (iT os k)
def wF (os : List aJ) : Nat → Nat
 | 0 => 0
 | k + 1 => wF os k + (if (iT os k).key = 0 then 0 else 1)
def Ba (os : List aJ) (hs : List (List Int)) (n k : Nat) : Bool := zF (iT os k) && ((iT os k).num == (k : Int)) && ((iT os k).key != 0 || decide (k + 1 = n)) && ((iT os k).key == 0 || (decide (k < hs.length) && (hsL hs k == hbL os (k + 1))))
def xy (os : List aJ) (hs : List (List Int)) (n : Nat) : Nat → Bool
 | 0 => true
 | k + 1 => xy os hs n k && Ba os hs n k
def jH (os : List aJ) (hs : List (List Int)) : Bool := decide (os.length ≤ 100) && (xy os hs os.length os.length && (wF os os.length == hs.length))
theorem uO (os : List aJ) : ∀ k, (hbL os k).length = 32
 | 0 => by simp [hbL, dD]
 | k + 1 => by
  rw [hbL]; split
  · exact uO os k
  · exact Bz _ _
theorem Vb (n : Nat) : az (dD n) = true := by
 simp [az, dD]
theorem D7 (os : List aJ) : ∀ k, az (hbL os k) = true
 | 0 => Vb 32
 | k + 1 => by
  rw [hbL]; split
  · exact D7 os k
  · exact VK _ _
theorem yu {os : List aJ} {hs : List (List Int)} {n k : Nat} (h : xy os hs n k = false) : ∀ j, k ≤ j → xy os hs n j = false
  | 0, hm => by obtain rfl : k = 0 := by omega
                exact h
  | j + 1, hm => by
    by_cases e : k = j + 1
    · rw [← e]; exact h
    · rw [xy, yu h j (by omega)]; rfl
theorem jQ {os : List aJ} {hs : List (List Int)} {n k : Nat} (hn : os.length = n) (hk : k < n) (h : Ba os hs n k = false) : jH os hs = false := by
 have h1 : xy os hs n n = false := yu (k := k + 1) (by rw [xy, h, Bool.and_false]) n (by omega)
 rw [jH, hn, h1, Bool.false_and, Bool.and_false]
theorem o6 {os : List aJ} {hs : List (List Int)} {n : Nat} : ∀ {k : Nat}, xy os hs n k = true → ∀ j, j < k → Ba os hs n j = true
 | 0, _, j, hj => absurd hj (by omega)
 | k + 1, h, j, hj => by
  simp only [xy, Bool.and_eq_true] at h
  by_cases e : j = k
  · subst e; exact h.2
  · exact o6 h.1 j (by omega)
theorem lY {os : List aJ} {hs : List (List Int)} {n k : Nat} (h : Ba os hs n k = true) : zF (iT os k) = true ∧ (iT os k).num = (k : Int) ∧ ((iT os k).key = 0 → k + 1 = n) ∧ ((iT os k).key ≠ 0 → k < hs.length ∧ hsL hs k = hbL os (k + 1)) := by
 simp only [Ba, Bool.and_eq_true, Bool.or_eq_true, beq_iff_eq, bne_iff_ne, decide_eq_true_eq] at h
 obtain ⟨⟨⟨h1, h2⟩, h3⟩, h4⟩ := h
 exact ⟨h1, h2, fun e => h3.resolve_left (fun h => h e), fun e => h4.resolve_left e⟩
theorem H_ {os : List aJ} {hs : List (List Int)} {n : Nat} : ∀ {k : Nat}, xy os hs n k = true → k < n → wF os k = k
 | 0, _, _ => rfl
 | k + 1, h, hk => by
  have h1 := lY (o6 h k (by omega))
  have h2 : (iT os k).key ≠ 0 := fun e => by have := h1.2.2.1 e; omega
  simp only [xy, Bool.and_eq_true] at h
  rw [wF, if_neg h2, H_ h.1 (by omega)]
theorem Dq {ps : List a_} : ∀ {n : Nat}, jI ps n = true → ∀ k, k < n → uB ps k = true
 | 0, _, k, hk => absurd hk (by omega)
 | n + 1, h, k, hk => by
  simp only [jI, Bool.and_eq_true] at h
  by_cases e : k = n
  · subst e; exact h.2
  · exact Dq h.1 k (by omega)
theorem xC {w : World} {o : aJ} (h : zF o = true) (hk : gy w o) : lD o := by
 simp only [zF, IY, tZ, Bool.and_eq_true, decide_eq_true_eq] at h
 obtain ⟨-, -, ⟨r0, r1⟩, ⟨a, z⟩, np, -, hp⟩ := h
 obtain ⟨k1, k2, ⟨k3, -⟩, -, -, k6⟩ := hk
 refine ⟨by omega, by omega, by omega, fun p hpm => ?_, r0, r1⟩
 obtain ⟨j, hj, rfl⟩ := List.getElem_of_mem hpm
 have h1 := Dq hp j (by omega)
 obtain ⟨b, f, -, -, -, -, -, -, l1, l2, -, -⟩ := k6 j hj
 have e : o.ps.getD j aF = o.ps[j] := by rw [List.getD_eq_getElem?_getD, List.getElem?_eq_getElem hj]; rfl
 rw [e] at l1 l2
 simp only [uB, tZ, Bool.and_eq_true, decide_eq_true_eq, e] at h1
 omega
section
variable {P : Program} (w : World)
theorem sJ : ∀ (xs ys : List Int), xs.length = ys.length → ((List.range xs.length).all fun i => xs.getD i 0 == ys.getD i 0) = (xs == ys)
 | [], [], _ => rfl
 | x :: xs, y :: ys, h => by
  have ih := sJ xs ys (by simpa using h)
  rw [List.length_cons, List.range_succ_eq_map, List.all_cons, List.all_map]
  simp only [List.getD_cons_zero, Function.comp_def, List.getD_cons_succ, ih]
  simp [List.cons_beq_cons]
 | [], _ :: _, h => by simp at h
 | _ :: _, [], h => by simp at h
theorem Ey {K : IntKind} {l : List Int} {i : Nat} (h : i < l.length) : (arr K l)[i]? = some (.int K (l.getD i 0)) := by
 simp [arr, List.getD, List.getElem?_eq_getElem h]
theorem og (d : Nat) (t e : TypeId) (n : Nat) (ht : P.underlying t = some (.array n e)) (he : P.underlying e = some (.int .u8)) (hsz : ∀ w, (sizeOf e).run P w = .ok 1 w)
  (xs ys : List Int) (hx : xs.length = n) (hy : ys.length = n) :
  (Op.equalIn (d + 2) t (.agg (arr .u8 xs)) (.agg (arr .u8 ys))).run P w = .ok (xs == ys) w := by
 rw [← sJ xs ys (hx.trans hy.symm), hx, List.range_eq_range', Op.equalIn]
 simp only [Sem.run_bind, run_underlying ht, Result.andThen_ok, hsz, Std.Legacy.Range.forIn_eq_forIn_range', Std.Legacy.Range.size, Nat.sub_zero, Nat.add_sub_cancel, Nat.div_one]
 have hl : ∀ i ∈ List.range' 0 n 1, i < n := fun i hi => by simpa using (List.mem_range'_1.1 hi).2
 generalize List.range' 0 n 1 = l at hl ⊢
 induction l with
 | nil => simp
 | cons i l ih =>
  have hi : i < n := hl i (by simp)
  have px : (Go.part e (arr .u8 xs) (i * 1)).run P w = .ok (.int .u8 (xs.getD i 0)) w := by
   have h1 := Ey (K := .u8) (l := xs) (i := i) (by omega)
   simp [Go.part, isAgg, run_underlying he, h1]
  have py : (Go.part e (arr .u8 ys) (i * 1)).run P w = .ok (.int .u8 (ys.getD i 0)) w := by
   have h1 := Ey (K := .u8) (l := ys) (i := i) (by omega)
   simp [Go.part, isAgg, run_underlying he, h1]
  have pe : (Op.equalIn (d + 1) e (.int .u8 (xs.getD i 0)) (.int .u8 (ys.getD i 0))).run P w = .ok (xs.getD i 0 == ys.getD i 0) w := run_equalIn_int w d e .u8 .u8 _ _ he
  simp only [List.forIn_cons, Sem.run_bind, px, py, pe, Result.andThen_ok, List.all_cons]
  cases hb : (xs.getD i 0 == ys.getD i 0)
  · simp
  ·
   simp only [Bool.not_true, Bool.false_eq_true, if_false, Sem.run_pure, Result.andThen_ok, Bool.true_and]
   exact ih fun j hj => hl j (by simp [hj])
theorem oU {S : World → Prop} {o : Oper} {a : Act} (ty : TypeId) (x : Operand) (ho : o.op = .load ty x)
  (b f : Nat) (hx : a.eval x = .pointer (some ⟨b, f, none⟩)) (cs : List Value) (d : TypeDesc) (hS : ∀ w, S w → w.rangeAt b f cs)
  (hu : P.underlying ty = some d) (hd : d.isRow = true) (hi : (P.info? ty).map (·.size) = some cs.length) :
  ∀ w, S w → (execOp a.eval o).run P w = .ok (.value (.agg cs.toArray)) w := fun w hw => by
 unfold execOp
 simp only [ho, hx, Instr.loadAt, Instr.sureAddr, Sem.run_bind, Sem.run_pure, Result.andThen_ok, run_loadVar_mid w b f ty cs d (hS w hw) hu hd hi]
end
theorem Qt (w : World) : (sizeOf 5).run Tryz.prog w = .ok 1 w := by kernel_rfl
theorem Dx : Tryz.prog.eqGuardType Tryz.prog.depth 41 = false := by kernel_rfl
theorem iX {S : World → Prop} {o : Oper} {a : Act} (x y : Operand) (t : TypeId) (ho : o.op = .binOp .neq 41 x y t)
  (h h' : List Int) (hl : h.length = 32) (hl' : h'.length = 32) (hx : a.eval x = .agg (arr .u8 h)) (hy : a.eval y = .agg (arr .u8 h')) (r : Bool) (hr : (!(h == h')) = r) :
  ∀ w, S w → (execOp a.eval o).run Tryz.prog w = .ok (.value (.bool r)) w := fun w _ => by
 unfold execOp
 simp only [ho, hx, hy, Sem.run_bind, run_eqGuard_agg (P := Tryz.prog) w .neq 41 x y _ _ Dx, run_neq_struct, og (P := Tryz.prog) w 9998 41 5 32 (by kernel_rfl) (by kernel_rfl) Qt h h' hl hl', hr, Result.andThen_ok]
 rfl
theorem ou {l : List Int} (h : l.length = 32) : (Tryz.prog.info? 41).map (·.size) = some (l.map (Value.int .u8)).length := Qy.trans (congrArg some (by rw [List.length_map, h]))
theorem Rk (O : Option Addr) (n c : Nat) (K : Option Addr) (m d : Nat) (h : ¬ n ≤ 100) (hb1 : n ≤ 1000000) (w : World) :
  Calls Tryz.prog 66 #[kN O n c K m d] w (Rt w (.bool false)) := by
 have dn : decide ((100 : Int) < (n : Int)) = true := by simp; omega
 obtain ⟨w0, HW, ai, kC⟩ := st1 (qj O n c K m d) xN w
 have ah := bS w0
 go_in
 go_upto_region 1 with (fail)
 rw [HW.out]
 have zc := kC.out _ ah
 go_wp2
 go_ret
 exact ⟨rfl, fe ai ah⟩
theorem Rj (O : Option Addr) (os : List aJ) (n c : Nat) (K : Option Addr) (hs : List (List Int)) (m d : Nat) (hn : Hid (os.length = n)) (hm : Hid (hs.length = m)) (hI : ∀ k, k < n → gP (iT os k)) (hb1 : n ≤ 1000000) (hb2 : m ≤ 1000000) (Tn : n ≤ 100) (r : Bool) (hr : Kp (jH os hs = r)) (w : World) (hv : Hid (bF w)) (hO : Hid (Os w O os)) (hK : Hid (Hs w K hs)) :
  Calls Tryz.prog 66 #[kN O n c K m d] w (Rt w (.bool r)) := by
 have dn : decide ((100 : Int) < (n : Int)) = false := by simp; omega
 obtain ⟨w0, HW, ai, kC⟩ := st1 (qj O n c K m d) xN w
 have kD := r_ ai hv
 have Hw := gV (fun u => Os u O os) ai hO (·.below)
 have O_ := gV (fun u => Hs u K hs) ai hK (·.below)
 have ah := bS w0
 clear hv hO hK
 go_in
 go_upto_region 1 with (fail)
 rw [HW.out]
 have zc := kC.out _ ah
 have Ql := ah
 have hq0 := af w0 (.cells z32 41)
 have aD := bY ah hq0
 clear hq0
 have oQ := kC.out _ aD
 go_wp2
 clear zc oQ
 obtain ⟨W, hW⟩ : ∃ x, w0.alloc (.cells z32 41) = x := ⟨_, rfl⟩
 rw [hW] at aD
 have bQ := aD
 obtain ⟨B, hB⟩ : ∃ x, w0.heap.size = x := ⟨_, rfl⟩
 have Ce : Hid (W.heap.size = B + 1 ∧ w0.heap.size ≤ B) := aa ⟨by rw [← hW, ← hB]; simp, by rw [← hB]; exact Nat.le_refl _⟩
 have HK0 : Hid (bB .u8 41 W B (dD 32)) := aa (by rw [← hW, ← hB, iP]; exact bB.new _ _)
 rw [hW, hB]
 have EI := aa hW
 have aaD := aa hB
 clear hW hB Ql
 go_loopw [4, 14] (fun ce i u => ∃ (k : Nat) (h : List Int), k ≤ n ∧ i = .int .i64 k ∧ ce = .int .i64 (wF os k) ∧ Hid (xy os hs n k = true) ∧ Kp (hbL os k = h) ∧ Hid (bB .u8 41 u B h) ∧ Hid (Below B W u)) (fun _ i _ => n - (intOf i).toNat)
 case atStart => exact ⟨0, dD 32, by omega, rfl, rfl, aa rfl, ⟨rfl⟩, HK0, aa (Below.refl _ _)⟩
 case round =>
  obtain ⟨k, h, hk, rfl, rfl, HST, GD, HBK, au⟩ := hrel
  have nR : Hid (Below w0.heap.size w0 wr) := aa (bQ.out.trans (au.out.mono Ce.out.2))
  have HL : Hid (h.length = 32) := aa (by rw [← GD.1]; exact uO _ _)
  have HBY : Hid (az h = true) := aa (by rw [← GD.1]; exact D7 _ _)
  by_cases hlt : k < n
  ·
   have hkl : k < os.length := by rw [hn.out]; exact hlt
   obtain ⟨b, f, hA, h9, hok⟩ := (Hw.out _ nR).out k hkl
   subst hA
   have hoi := hI k hlt
   have hcl : wF os k = k := H_ HST.out hlt
   rw [hcl]
   obtain ⟨o, ho⟩ : ∃ o, os.getD k iF = o := ⟨_, rfl⟩
   have nU : Hid (iT os k = o) := aa ho
   rw [ho] at h9 hok
   have Mj : gP o := by rw [← ho]; exact hoi
   have NA := aa Mj
   have nV := aa hok
   obtain ⟨j0, j1, j2, j3, j4, j5, j6, j7, j8⟩ := h9
   have dw : IntKind.i64.wrap ((n : Int) - 1) = (n : Int) - 1 := IntWalk.i64_in _ (by omega)
   have WB : wrap64 ((n : Int) - 1) = (n : Int) - 1 := IntWalk.wrap64_in _ (by omega)
   have zn := aa hcl
   clear ho hoi Mj hok hkl hcl
   have dX := bS wr
   have VO := wh (w := wr) (fun u => gy u o) nV.out (·.below)
   have Sv := wh (w := wr) (fun u => bB .u8 41 u B h) HBK.out (·.below)
   have zc := kC.out _ nR
   obtain ⟨w2, hw, qb, Cc, -, kS⟩ := sI (vo o) xM wr
   have aN := pY nR qb
   have aY := pY dX qb
   have bg := bS w2
   clear qb
   have oQ := kC.out _ aN
   have jG := kS.out _ bg
   go_wp2_with fail
   clear zc oQ jG hw
   have zc := kC.out _ aN
   have iR := kS.out _ bg
   clear j0 j1 j2 j3 j4 j5 j6 j7 j8
   obtain ⟨ob, l5⟩ : ∃ x, zF o = x := ⟨_, rfl⟩
   have Gw := aa l5
   clear l5
   go_wp2_with fail
   clear zc iR
   refine rW aN aY bg (Jh o ob Gw _ (VO.out _ aY)) fun w3 bu bG gu => ?_
   have zc := kC.out _ bu
   have iR := kS.out _ gu
   cases ob with
   | true =>
    have l5 := Gw.out
    by_cases gX : o.num = (k : Int)
    ·
     have ES : (o.num != (k : Int)) = false := by simpa using gX
     by_cases hkey : o.key = 0
     ·
      have dk1 : (o.key == 0) = true := by simpa using hkey
      by_cases hlast : k + 1 = n
      ·
       have Z9 : decide ((k : Int) < (n : Int) - 1) = false := by simp; omega
       have HS2 : Hid (xy os hs n (k + 1) = true) := aa (by rw [xy, HST.out, Ba, nU.out]; simp [l5, hkey, gX, hlast])
       have NG : Kp (hbL os (k + 1) = h) := ⟨by rw [hbL, nU.out, if_pos hkey]; exact GD.1⟩
       have UG : Hid (wF os (k + 1) = k) := aa (by simp [wF, nU.out, hkey, zn.out])
       clear l5 hkey gX hlast
       have X_ : Hid (Below B W w3) := aa (au.out.trans (bG.out.mono (by have := au.out.size; have := Ce.out.1; omega)))
       have HKn : Hid (bB .u8 41 w3 B h) := (Sv.out _ bG)
       go_wp2
       go_roundw
       case rel => exact ⟨k + 1, h, by omega, by go_num, by rw [UG.out], HS2, NG, HKn, X_⟩
       case measure => simp [intOf]; omega
      ·
       have Z9 : decide ((k : Int) < (n : Int) - 1) = true := by simp; omega
       have SX : k + 1 ≠ n := hlast
       obtain rfl : r = false := hr.1.symm.trans (jQ hn.out hlt (by rw [Ba, nU.out]; simp [l5, hkey, SX]))
       clear l5 hkey gX hlast SX
       go_wp2
       go_ret
       exact ⟨rfl, fe ai bu⟩
     ·
      have dk1 : (o.key == 0) = false := by simpa using hkey
      obtain ⟨RR, hRR⟩ : ∃ x, Jk h o = x := ⟨_, rfl⟩
      have HRR : Kp (Jk h o = RR) := ⟨hRR⟩
      have fo : Hid (RR.length = 32) := aa (by rw [← hRR]; exact Bz _ _)
      have NG : Kp (hbL os (k + 1) = RR) := ⟨by rw [hbL, nU.out, if_neg hkey, GD.1]; exact hRR⟩
      have Uy := aa hkey
      have Uq := aa gX
      clear l5 hkey gX hRR
      have zR := (Sv.out _ bG)
      go_wp2_with ((with_reducible show wpList _ _ _ (⟨some 44, _, _, _, _, _⟩ :: _) _ _); refine wpList_load_row rfl 41 _ rfl B rfl _ _ _ _ zR.out Tryz.underlying41 rfl (ax HL.out) ?_)
      refine (LG h HL HBY o NA (xC Gw.out nV.out) _ (kD.out _ bu) (VO.out _ bG)).mono ?_
      rintro e w4 ⟨rfl, hb0⟩
      rw [HRR.1]
      have dm := bY bu hb0
      have dx := bY bG hb0
      have lX := bY gu hb0
      clear zc iR hb0
      have zc := kC.out _ dm
      have iR := kS.out _ lX
      have zu := (Sv.out _ dx)
      obtain ⟨wz, hwz⟩ : ∃ x, w4.setRow B (arr .u8 RR) = x := ⟨_, rfl⟩
      have tT : Hid (Below B W wz) := aa (by rw [← hwz]; exact aj (au.out.trans (dx.out.mono (by have := au.out.size; have := Ce.out.1; omega))) (Nat.le_refl _))
      have zo : Hid (Below w0.heap.size w0 wz) := aa (bQ.out.trans (tT.out.mono Ce.out.2))
      have GJ : Hid (bB .u8 41 wz B RR) := aa (by rw [← hwz]; exact zu.out.setRow)
      go_upto_region 12 with ((with_reducible show wpList _ _ _ (⟨none, _, _, _, _, _⟩ :: _) _ _); refine wpList_store_row rfl 41 _ _ rfl B (arr .u8 RR) rfl rfl _ _ zu.out (ax fo.out) (dY HL.out fo.out) (cu _) ?_)
      clear zc iR
      rw [hwz]
      clear hwz zR zu
      by_cases hkm : m ≤ k
      ·
       have l5 := Gw.out
       have hkey := Uy.out
       have gX := Uq.out
       have WG : decide ((m : Int) ≤ (k : Int)) = true := by simp; omega
       obtain rfl : r = false := hr.1.symm.trans (jQ hn.out hlt (by rw [Ba, nU.out]; simp [l5, hkey, gX, hm.out]; omega))
       clear l5 hkey gX
       have jD := bS wz
       have hO := aa (fun (u : World) (h : Hid (Below w0.heap.size w0 u ∧ Below wz.heap.size wz u)) => kC.out u (aa h.out.1))
       refine t_ (fun u => Below w0.heap.size w0 u ∧ Below wz.heap.size wz u) [] (bb2 (aa ⟨zo.out, jD.out⟩) ((Below.refl _ _).drew)) (fun hHeld => ?_)
       refine aT 0 1 2 3 ?_
       refine aH 4 ?_
       refine aH 5 ?_
       refine dR 6 7 8 9 ?_
       refine jl 10 ?_
       refine jl 11 ?_
       refine jl 12 ?_
       refine aH 13 ?_
       refine gz ?_
       clear hO
       have fU := (aa hHeld.out.1)
       have jP := (aa hHeld.out.2)
       clear hHeld
       have zc := kC.out _ fU
       have CG : Hid (Below B W wz.drew) := aa (tT.out.trans (jP.out.mono (by have := tT.out.size; have := Ce.out.1; omega)))
       go_wp2
       go_ret
       exact ⟨rfl, fe ai fU⟩
      ·
       cases hrq : (hsL hs k == Jk h o) with
       | true =>
        have l5 := Gw.out
        have hkey := Uy.out
        have gX := Uq.out
        have WG : decide ((m : Int) ≤ (k : Int)) = false := by simp; omega
        have SY : k < m := by omega
        obtain ⟨b2, f2, hA2, hl2, hrg2⟩ := (O_.out _ zo).out k (by rw [hm.out]; omega)
        subst hA2
        obtain ⟨BI, hhk⟩ : ∃ x, hsL hs k = x := ⟨_, rfl⟩
        rw [hhk] at hl2 hrg2
        have HL2 := aa hl2
        have UB := aa hrg2
        have UC := aa hhk
        rw [hhk, HRR.1] at hrq
        have hbq : (!(BI == RR)) = false := by rw [hrq]; rfl
        clear hl2 hrg2 hhk
        have HS2 : Hid (xy os hs n (k + 1) = true) := aa (by rw [xy, HST.out, Ba, nU.out, NG.1, UC.out]; simp [l5, hm.out, hrq, hkey, gX]; omega)
        have UG : Hid (wF os (k + 1) = k + 1) := aa (by simp [wF, nU.out, hkey, zn.out])
        clear l5 hkey gX hrq
        have jD := bS wz
        have hO := aa (fun (u : World) (h : Hid (Below w0.heap.size w0 u ∧ Below wz.heap.size wz u)) => kC.out u (aa h.out.1))
        refine t_ (fun u => Below w0.heap.size w0 u ∧ Below wz.heap.size wz u) [] (bb2 (aa ⟨zo.out, jD.out⟩) ((Below.refl _ _).drew)) (fun hHeld => ?_)
        refine aT 0 1 2 3 ?_
        refine aT 4 5 6 7 ?_
        refine aH 8 ?_
        refine aH 9 ?_
        refine Bc 10 (.agg (arr .u8 BI)) rfl (oU 41 _ rfl b2 (f2 + k * 32) rfl (BI.map (Value.int .u8)) _ (fun _ hq => fQ UB.out hq.out.2) Tryz.underlying41 rfl (ou HL2.out)) ?_
        refine Bc 11 (.agg (arr .u8 RR)) rfl (fI 41 _ rfl B rfl _ _ _ _ (fun _ hq => GJ.out.below hq.out.2) Tryz.underlying41 rfl (ax fo.out)) ?_
        refine Bc 12 (.bool false) rfl (iX _ _ _ rfl BI RR HL2.out fo.out rfl rfl _ hbq) ?_
        refine aH 13 ?_
        refine gz ?_
        clear hO
        have fU := (aa hHeld.out.1)
        have jP := (aa hHeld.out.2)
        clear hHeld
        have zc := kC.out _ fU
        have CG : Hid (Below B W wz.drew) := aa (tT.out.trans (jP.out.mono (by have := tT.out.size; have := Ce.out.1; omega)))
        have HK9 : Hid (bB .u8 41 wz.drew B RR) := aa (GJ.out.below jP.out)
        go_wp2
        go_roundw
        case rel => exact ⟨k + 1, RR, by omega, by go_num, by rw [UG.out]; go_num, HS2, NG, HK9, CG⟩
        case measure => simp [intOf]; omega
       | false =>
        have l5 := Gw.out
        have hkey := Uy.out
        have gX := Uq.out
        have WG : decide ((m : Int) ≤ (k : Int)) = false := by simp; omega
        have SY : k < m := by omega
        obtain ⟨b2, f2, hA2, hl2, hrg2⟩ := (O_.out _ zo).out k (by rw [hm.out]; omega)
        subst hA2
        obtain ⟨BI, hhk⟩ : ∃ x, hsL hs k = x := ⟨_, rfl⟩
        rw [hhk] at hl2 hrg2
        have HL2 := aa hl2
        have UB := aa hrg2
        have UC := aa hhk
        rw [hhk, HRR.1] at hrq
        have hbq : (!(BI == RR)) = true := by rw [hrq]; rfl
        clear hl2 hrg2 hhk
        obtain rfl : r = false := hr.1.symm.trans (jQ hn.out hlt (by rw [Ba, nU.out]; simp [l5, hkey, gX, hm.out, UC.out, NG.1, hrq]))
        clear l5 hkey gX hrq
        have jD := bS wz
        have hO := aa (fun (u : World) (h : Hid (Below w0.heap.size w0 u ∧ Below wz.heap.size wz u)) => kC.out u (aa h.out.1))
        refine t_ (fun u => Below w0.heap.size w0 u ∧ Below wz.heap.size wz u) [] (bb2 (aa ⟨zo.out, jD.out⟩) ((Below.refl _ _).drew)) (fun hHeld => ?_)
        refine aT 0 1 2 3 ?_
        refine aT 4 5 6 7 ?_
        refine aH 8 ?_
        refine aH 9 ?_
        refine Bc 10 (.agg (arr .u8 BI)) rfl (oU 41 _ rfl b2 (f2 + k * 32) rfl (BI.map (Value.int .u8)) _ (fun _ hq => fQ UB.out hq.out.2) Tryz.underlying41 rfl (ou HL2.out)) ?_
        refine Bc 11 (.agg (arr .u8 RR)) rfl (fI 41 _ rfl B rfl _ _ _ _ (fun _ hq => GJ.out.below hq.out.2) Tryz.underlying41 rfl (ax fo.out)) ?_
        refine Bc 12 (.bool true) rfl (iX _ _ _ rfl BI RR HL2.out fo.out rfl rfl _ hbq) ?_
        refine aH 13 ?_
        refine gz ?_
        clear hO
        have fU := (aa hHeld.out.1)
        have jP := (aa hHeld.out.2)
        clear hHeld
        have zc := kC.out _ fU
        have CG : Hid (Below B W wz.drew) := aa (tT.out.trans (jP.out.mono (by have := tT.out.size; have := Ce.out.1; omega)))
        go_wp2
        go_ret
        exact ⟨rfl, fe ai fU⟩
    ·
     have ES : (o.num != (k : Int)) = true := by simpa using gX
     obtain rfl : r = false := hr.1.symm.trans (jQ hn.out hlt (by rw [Ba, nU.out]; simp [l5, gX]))
     clear l5 gX
     go_wp2
     go_ret
     exact ⟨rfl, fe ai bu⟩
   | false =>
    have l5 := Gw.out
    obtain rfl : r = false := hr.1.symm.trans (jQ hn.out hlt (by rw [Ba, nU.out]; simp [l5]))
    clear l5
    go_wp2
    go_ret
    exact ⟨rfl, fe ai bu⟩
  ·
   obtain rfl : k = n := by omega
   have hre : ((((wF os k : Nat) : Int)) == ((m : Nat) : Int)) = r := by
    rw [← hr.1, jH, hn.out, HST.out, hm.out, decide_eq_true Tn]; simp only [Bool.true_and]
    rw [Bool.eq_iff_iff]; simp; omega
   have Md : ((((m : Nat) : Int)) == ((wF os k : Nat) : Int)) = r := by rw [← hre, BEq.comm]
   obtain ⟨q, hq⟩ : ∃ q, wF os k = q := ⟨_, rfl⟩
   rw [hq] at hre Md ⊢
   clear hq
   have zc := kC.out _ nR
   have bV := ag ai.out nR.out
   go_wp2
   go_ret
   exact ⟨by first | rfl | rw [hre] | rw [Md], bV⟩
theorem l_ (O : Option Addr) (os : List aJ) (n c : Nat) (K : Option Addr) (hs : List (List Int)) (m d : Nat) (hn : Hid (os.length = n)) (hm : Hid (hs.length = m)) (hI : ∀ k, k < n → gP (iT os k)) (hb1 : n ≤ 1000000) (hb2 : m ≤ 1000000) (r : Bool) (hr : Kp (jH os hs = r)) (w : World) (hv : Hid (bF w)) (hO : Hid (Os w O os)) (hK : Hid (Hs w K hs)) :
  Calls Tryz.prog 66 #[kN O n c K m d] w (Rt w (.bool r)) := by
 by_cases h : n ≤ 100
 · exact Rj O os n c K hs m d hn hm hI hb1 hb2 h r hr w hv hO hK
 ·
  obtain rfl : r = false := hr.1.symm.trans (by rw [jH, hn.out, decide_eq_false h]; rfl)
  exact Rk O n c K m d h hb1 w
end Go.Proofs.YtchcllcbknfikaaGreatDoor