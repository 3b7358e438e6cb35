/- Contracts and lemmas: FmN, FmR, FmS, LawKitT, OpR, OpD, FmT, FmU, FmV, FmW, FmX, FmY, FmO, FmP, DrD. -/
import Derived.Test.YtbljkkpnpcgjfaaGreatDoorTsS
import Derived.Lib.ItoaLen
import Derived.Deep.Slices
import Derived.Laws.EntriesVeiled
import Derived.Test.YtbljkkpnpcgjfaaGreatDoorTs5
set_option linter.unusedVariables false
set_option linter.unusedSimpArgs false
set_option maxRecDepth 100000
set_option maxHeartbeats 25600000
namespace Go.Proofs.YtbljkkpnpcgjfaaGreatDoor
open Go.RowKit rM
theorem Li (P Q G : Int) (hQ : Q < 9223372036854775808) (hG : Hid (aJ P Q G = true)) : ∀ (d : Nat) (f : FT) (t : TT) (w : World), f.dp ≤ d → Hid (Vars w) → Hid (dU w f) → Hid (bI w t) → f.sh → f.at_ P Q G → f.acc P Q t →
  Calls Tryz.prog 19 #[gv P Q G, fV f, tV t] w (Rt w (.bool true)) := by
 intro d
 induction d with
 | zero => intro f _ _ h; have := f.dp_eq; omega
 | succ d ih =>
  intro f t w hd hv hF hT hs ha hac
  have ih := aa ih
  obtain ⟨⟨t0, t1⟩, nE⟩ := (f.acc_eq (P := P) (Q := Q) t).1 hac
  have HP := aa nE
  have HS := aa (f.sh_eq.1 hs)
  have HA := aa (f.at_eq.1 ha)
  clear hs ha hac nE
  obtain ⟨kind, Y, yn, yc, ys, B, bn, bc, rows, L, ln, lc, l⟩ := f
  obtain ⟨tc, A, na, ca, al, pc, Zp, nz, cz, zs, TL, tn, fU, tl⟩ := t
  obtain ⟨hyn, hbn, hln, hlb⟩ := hF.out.lens
  obtain ⟨iV, hzn, htn, htb⟩ := hT.out.lens
  dsimp only at hyn hbn hln hlb iV hzn htn htb HP HS HA t0 t1
  obtain ⟨p1, p2, p3, p4⟩ := aM hG.out
  obtain ⟨w0, HW, av, kC⟩ := xQ (aN P Q G) vw (fO kind Y yn yc B bn bc L ln lc) KN (tO tc A na ca pc Zp nz cz TL tn fU) Br w
  have kF := sM av hF
  have kT := Gu av hT
  have kV := mkV av hv
  have aA := dS w0
  clear hF hT hv
  go_in
  go_upto_region 1 with (fail)
  rw [show ((w.alloc (aN P Q G)).alloc (fO kind Y yn yc B bn bc L ln lc)).alloc (tO tc A na ca pc Zp nz cz TL tn fU) = w0 from HW.out]
  have zc := kC.out _ aA
  have Z8 : decide (tc < 0) = false := by simp; omega
  have Z7 : decide (Q ≤ tc) = false := by simp; omega
  by_cases hk1 : kind = 1
  ·
   have d1 : (kind == 1) = true := by simp [hk1]
   have kr : aP P Q G ys rows = true := by
    rcases HA.out with ⟨-, h⟩ | ⟨h, -⟩
    · exact h
    · omega
   obtain ⟨htl, hpc, hck⟩ : tl = [] ∧ pc = tc ∧ bN P Q pc ys rows al zs = true := by
    rcases HP.out with ⟨-, h⟩ | ⟨h, -⟩
    · exact h
    · omega
   have d2 : ((tn : Int) == 0) = true := by subst htl; simp at htn; simp [← htn]
   have d3 : (pc == tc) = true := by simp [hpc]
   have Nb := aa (fun (r : Bool) hr u hY hB hA hZ => BP P Q G Y ys yn yc B rows bn bc A al na ca pc Zp zs nz cz (aa hyn) (aa hbn) (aa iV) (aa hzn) (by have := (gY hck).1; have := (ak kr).2.2.1; have := (ak kr).2.2.2.1; omega) (by have := (gY hck).2.1; have := (ak kr).2.2.2.2.2.2.1; omega) hQ r hr u hY hB hA hZ)
   have HCT : Hid (JO P Q G pc ys rows al zs = true) := aa (by rw [JO, kr, hck]; rfl)
   clear hpc htl hck kr HP HS HA
   go_wp2_with fail
   refine (Nb.out true HCT _ (aa (kF.out _ aA).out.rel.1) (aa (kF.out _ aA).out.rel.2) (aa (kT.out _ aA).out.prf.1) (aa (kT.out _ aA).out.prf.2)).mono ?_
   rintro e w2 ⟨rfl, hb2⟩
   have fD := cZ aA hb2
   clear hb2 zc d1 d2 d3
   go_wp2
   go_ret
   exact ⟨rfl, gN av fD⟩
  have d1 : (kind == 1) = false := by simp [hk1]
  obtain ⟨hem, hlen, hsub, heq, hfin⟩ : (al = [] ∧ pc = 0 ∧ zs = []) ∧ tl.length = l.length ∧ (∀ k, k < l.length → (l.getD k aY).acc P Q (tl.getD k noT)) ∧ (kind = 2 → ∀ k, k < l.length → (tl.getD k noT).c = tc) ∧ (kind = 2 ∨ fu Q tl = tc) := by
   rcases HP.out with ⟨h, -⟩ | ⟨-, h⟩
   · omega
   · exact h
  have Kl := aa hsub
  have GJ := aa heq
  have qo := aa hfin
  have Gp : Hid (∀ k, k < l.length → (l.getD k aY).sh ∧ (l.getD k aY).at_ P Q G) := aa (fun k hk => by
   rcases HS.out with ⟨k1, k2⟩ | ⟨k1, k2, k3, k4, k5⟩
   · omega
   ·
    rcases HA.out with ⟨m1, _⟩ | ⟨_, m2⟩
    · omega
    · exact ⟨k5 k hk, m2 k hk⟩)
  obtain rfl : ln = tn := by omega
  have YI := aa hem
  clear hsub heq hfin HP HS HA hem
  have d2 : ((ln : Int) != (ln : Int)) = false := by simp
  go_wp2_with fail
  refine JM kC aA (BM A na ca pc Zp nz cz true (aa ((Ef iV hzn).2 YI.out)) _) fun w2 Tt zc => ?_
  go_wp2_with fail
  clear zc d1 d2 Z8 Z7 hk1
  go_loopw [7, 8] (fun vs vi wr => ∃ (k : Nat) (sm : Int), k ≤ ln ∧ vi = .int .i64 k ∧ vs = .int .i64 sm ∧ 0 ≤ sm ∧ sm < Q ∧ Hid (sm = fu Q (tl.take k)) ∧ Hid (Below w0.heap.size w0 wr)) (fun _ vi _ => ln - (intOf vi).toNat)
  case atStart => exact ⟨0, 0, by omega, rfl, rfl, by omega, by omega, aa (by simp [fu]), Tt⟩
  case round =>
   obtain ⟨k, sm, hk, rfl, rfl, s0, s1, xG, aF⟩ := hrel
   have zc := kC.out _ aF
   by_cases hlt : k < ln
   case neg =>
    obtain rfl : k = ln := by omega
    have hsm : Hid (fu Q tl = sm) := aa (by rw [xG.out, List.take_of_length_le (by omega)])
    by_cases hk2 : kind = 2
    ·
     have d3 : (kind == 2) = true := by simp [hk2]
     clear xG hk2 hsm
     go_wp2
     go_ret
     exact ⟨rfl, gN av aF⟩
    ·
     have d3 : (kind == 2) = false := by simp [hk2]
     have hq : (sm == tc) = true := by
      rcases qo.out with h | h
      · exact absurd h hk2
      · rw [← hsm.out, h]; simp
     clear xG hk2 hsm
     go_wp2
     go_ret
     exact ⟨rfl, gN av aF⟩
   have hkl : k < l.length := by omega
   have hkt : k < tl.length := by omega
   clear zc
   obtain ⟨b, o, hL, i0, i1, i2, i3, gV⟩ := (kF.out _ aF).out.kid (k := k) hlt
   dsimp only at hL i0 i1 i2 i3 gV
   subst hL
   have hst := jg (Q := Q) hkt
   rw [← xG.out] at hst
   obtain ⟨hsx, hax⟩ := Gp.out k hkl
   have Bq := Kl.out k hkl
   have OM := aa (fun h2 => GJ.out h2 k hkl)
   obtain ⟨x, hx⟩ : ∃ x, l.getD k aY = x := ⟨_, rfl⟩
   obtain ⟨y, hy⟩ : ∃ y, tl.getD k noT = y := ⟨_, rfl⟩
   have hdp : x.dp ≤ d := by rw [← hx]; exact FT.kid_dp hd hkl
   rw [hx] at i0 i1 i2 i3 gV hsx hax
   rw [hx, hy] at Bq
   rw [hy] at hst OM
   have HX := aa gV
   have fQ := aa (fun u hv hF hT => ih.out x y u hdp hv hF hT hsx hax Bq)
   obtain ⟨y0, y1⟩ := En Bq
   have HST := aa hst
   have gu : Hid (∀ u : World, Hid (Below w0.heap.size w0 u) → ∃ b o, TL = some ⟨b, o, none⟩ ∧ u.cell? ⟨b, o + k * 5, none⟩ = some (.int .i64 y.c) ∧ u.cell? ⟨b, o + k * 5 + 1, none⟩ = some (.slice y.A y.na y.ca) ∧ u.cell? ⟨b, o + k * 5 + 2, none⟩ = some (.int .i64 y.pc) ∧ u.cell? ⟨b, o + k * 5 + 3, none⟩ = some (.slice y.Z y.nz y.cz) ∧ u.cell? ⟨b, o + k * 5 + 4, none⟩ = some (.slice y.L y.ln y.lc) ∧ bI u y) := aa (fun u hu => by
    have h := (kT.out _ hu).out.kid (k := k) hlt
    dsimp only at h
    rw [hy] at h
    exact h)
   clear gV hx hy hkl hkt hst hsx hax Bq hdp xG
   obtain ⟨xk, xY, jL, jM, xys, xB, jN, jO, fE, xL, jm, jo, xl⟩ := x
   dsimp only at i0 i1 i2 i3
   obtain ⟨g0, g1, g2, c0, c1, c2, c3, e0, e1, e2, e3, e4⟩ := kC.out _ aF
   obtain ⟨bt, ot, hTL, j0, j1, j2, j3, j4, hTy⟩ := gu.out _ aF
   subst hTL
   have sw : Hid (∀ u : World, Hid (Below wr.heap.size wr u) → Hid (Vars u)) := aa (fun u hu => kV.out _ (nK aF hu))
   have m_ := sM (dS wr) HX
   have Dh := Gu (dS wr) (aa hTy)
   clear hTy HX
   obtain ⟨nI, yA, Ux, UB, UC, Uv, yZ, Uw, UA, Uu, yL, Uy, Uz, yl⟩ := y
   dsimp only at j0 j1 j2 j3 j4 OM HST gu y0 y1
   have JJ : Hid (∀ u : World, Hid (Below w0.heap.size w0 u) → u.cell? ⟨bt, ot + k * 5, none⟩ = some (.int .i64 nI)) := aa (fun u hu => by
    obtain ⟨b', o', e1, e2, -⟩ := gu.out u hu
    injection e1 with e1
    injection e1 with e3 e4
    subst e3 e4
    exact e2)
   clear gu
   go_wp2_with fail
   by_cases hk2 : kind = 2
   ·
    have d3 : (kind == 2) = true := by simp [hk2]
    have d4 : (nI != tc) = false := by rw [OM.out hk2]; simp
    clear hk2
    have hO := aa (fun (u : World) (hu : Hid (Below wr.heap.size wr u)) => And.intro (cell_below g0 hu.out) (And.intro (cell_below g1 hu.out) (And.intro (cell_below g2 hu.out) (And.intro (cell_below c0 hu.out) (And.intro (cell_below c1 hu.out) (And.intro (cell_below c2 hu.out) (And.intro (cell_below c3 hu.out) (And.intro (cell_below e0 hu.out) (And.intro (cell_below e1 hu.out) (And.intro (cell_below e2 hu.out) (And.intro (cell_below e3 hu.out) (And.intro (cell_below e4 hu.out) (And.intro (cell_below i0 hu.out) (And.intro (cell_below i1 hu.out) (And.intro (cell_below i2 hu.out) (And.intro (cell_below i3 hu.out) (And.intro (cell_below j0 hu.out) (And.intro (cell_below j1 hu.out) (And.intro (cell_below j2 hu.out) (And.intro (cell_below j3 hu.out) (cell_below j4 hu.out)))))))))))))))))))))
    clear g0 g1 g2 c0 c1 c2 c3 e0 e1 e2 e3 e4 i0 i1 i2 i3 j0 j1 j2 j3 j4
    refine je [] (dS wr) (fun hHeld => ?_)
    refine aX 0 1 2 3 ?_
    refine aX 4 5 6 7 ?_
    refine aQ 8 ?_
    refine aQ 9 ?_
    refine aQ 10 ?_
    refine dO 11 fun K hK => ?_
    go_simp
    refine (fQ.out _ (sw.out _ hHeld) (m_.out _ hHeld) (Dh.out _ hHeld)).mono ?_
    rintro e wA ⟨rfl, bA⟩
    refine hK.out _ _ (cZ hHeld bA) (fun hHeld => ?_)
    clear hK K
    refine aX 12 13 14 15 ?_
    refine aX 16 17 18 19 ?_
    refine aX 20 21 22 23 ?_
    refine aX 24 25 26 27 ?_
    refine aQ 28 ?_
    refine jf ?_
    clear hO
    have gI := nK aF hHeld
    clear hHeld
    obtain ⟨jv, fK⟩ : ∃ z, (sm + nI) % Q = z := ⟨_, rfl⟩
    have n0 : 0 ≤ jv := by rw [← fK]; exact Int.emod_nonneg _ (by omega)
    have n1 : jv < Q := by rw [← fK]; exact Int.emod_lt_of_pos _ (by omega)
    have uY : Hid (jv = fu Q (tl.take (k + 1))) := aa (by rw [HST.out, fK])
    have D5 : (sm + nI).tmod Q = jv := by rw [Int.tmod_eq_emod_of_nonneg (by omega), fK]
    have hsum : IntKind.i64.wrap (sm + nI) = sm + nI := IntWalk.i64_in _ (by omega)
    have hwt : IntKind.i64.wrap jv = jv := IntWalk.i64_in _ (by omega)
    have hQn : ¬ (Q = 0) := by omega
    have KA := aa (fun q => ay gI.out q)
    obtain ⟨g0, g1, g2, c0, c1, c2, c3, e0, e1, e2, e3, e4⟩ := kC.out _ gI
    have j0 := JJ.out _ gI
    clear fK
    clear d4
    clear d3
    go_wp2
    go_quiet (fail)
    clear hsum D5
    go_wp2
    go_roundw
    case rel => exact ⟨k + 1, jv, by omega, by go_num, rfl, n0, n1, uY, aa (KA.out _)⟩
    case measure => simp [intOf]; omega
   ·
    have d3 : (kind == 2) = false := by simp [hk2]
    clear hk2
    have hO := aa (fun (u : World) (hu : Hid (Below wr.heap.size wr u)) => And.intro (cell_below g0 hu.out) (And.intro (cell_below g1 hu.out) (And.intro (cell_below g2 hu.out) (And.intro (cell_below c0 hu.out) (And.intro (cell_below c1 hu.out) (And.intro (cell_below c2 hu.out) (And.intro (cell_below c3 hu.out) (And.intro (cell_below e0 hu.out) (And.intro (cell_below e1 hu.out) (And.intro (cell_below e2 hu.out) (And.intro (cell_below e3 hu.out) (And.intro (cell_below e4 hu.out) (And.intro (cell_below i0 hu.out) (And.intro (cell_below i1 hu.out) (And.intro (cell_below i2 hu.out) (And.intro (cell_below i3 hu.out) (And.intro (cell_below j0 hu.out) (And.intro (cell_below j1 hu.out) (And.intro (cell_below j2 hu.out) (And.intro (cell_below j3 hu.out) (cell_below j4 hu.out)))))))))))))))))))))
    clear g0 g1 g2 c0 c1 c2 c3 e0 e1 e2 e3 e4 i0 i1 i2 i3 j0 j1 j2 j3 j4
    refine je [] (dS wr) (fun hHeld => ?_)
    refine aX 0 1 2 3 ?_
    refine aX 4 5 6 7 ?_
    refine aQ 8 ?_
    refine aQ 9 ?_
    refine aQ 10 ?_
    refine dO 11 fun K hK => ?_
    go_simp
    refine (fQ.out _ (sw.out _ hHeld) (m_.out _ hHeld) (Dh.out _ hHeld)).mono ?_
    rintro e wA ⟨rfl, bA⟩
    refine hK.out _ _ (cZ hHeld bA) (fun hHeld => ?_)
    clear hK K
    refine aX 12 13 14 15 ?_
    refine aQ 16 ?_
    refine aQ 17 ?_
    refine gz 18 19 20 21 ?_
    refine gz 22 23 24 25 ?_
    refine kH 26 ?_
    refine aQ 27 ?_
    refine aQ 28 ?_
    refine jf ?_
    clear hO
    have gI := nK aF hHeld
    clear hHeld
    obtain ⟨jv, fK⟩ : ∃ z, (sm + nI) % Q = z := ⟨_, rfl⟩
    have n0 : 0 ≤ jv := by rw [← fK]; exact Int.emod_nonneg _ (by omega)
    have n1 : jv < Q := by rw [← fK]; exact Int.emod_lt_of_pos _ (by omega)
    have uY : Hid (jv = fu Q (tl.take (k + 1))) := aa (by rw [HST.out, fK])
    have D5 : (sm + nI).tmod Q = jv := by rw [Int.tmod_eq_emod_of_nonneg (by omega), fK]
    have hsum : IntKind.i64.wrap (sm + nI) = sm + nI := IntWalk.i64_in _ (by omega)
    have hwt : IntKind.i64.wrap jv = jv := IntWalk.i64_in _ (by omega)
    have hQn : ¬ (Q = 0) := by omega
    have KA := aa (fun q => ay gI.out q)
    obtain ⟨g0, g1, g2, c0, c1, c2, c3, e0, e1, e2, e3, e4⟩ := kC.out _ gI
    have j0 := JJ.out _ gI
    clear fK
    clear d3
    go_wp2
    go_quiet (fail)
    clear hsum D5
    go_wp2
    go_roundw
    case rel => exact ⟨k + 1, jv, by omega, by go_num, rfl, n0, n1, uY, aa (KA.out _)⟩
    case measure => simp [intOf]; omega
theorem Lm (P Q G : Int) (hQ : Q < 9223372036854775808) (hG : Hid (aJ P Q G = true)) : ∀ (d : Nat) (f : FT) (t : TT) (w : World), f.dp ≤ d → Hid (Vars w) → Hid (dU w f) → Hid (bI w t) → f.sh → f.at_ P Q G → f.acc P Q t →
  Calls Tryz.prog 10 #[gv P Q G, fV f, tV t] w (Rt w (.bool true)) := by
 intro d
 induction d with
 | zero => intro f _ _ h; have := f.dp_eq; omega
 | succ d ih =>
  intro f t w hd hv hF hT hs ha hac
  have ih := aa ih
  obtain ⟨⟨t0, t1⟩, nE⟩ := (f.acc_eq (P := P) (Q := Q) t).1 hac
  have HP := aa nE
  have HS := aa (f.sh_eq.1 hs)
  have HA := aa (f.at_eq.1 ha)
  clear hs ha hac nE
  obtain ⟨kind, Y, yn, yc, ys, B, bn, bc, rows, L, ln, lc, l⟩ := f
  obtain ⟨tc, A, na, ca, al, pc, Zp, nz, cz, zs, TL, tn, fU, tl⟩ := t
  obtain ⟨hyn, hbn, hln, hlb⟩ := hF.out.lens
  obtain ⟨iV, hzn, htn, htb⟩ := hT.out.lens
  dsimp only at hyn hbn hln hlb iV hzn htn htb HP HS HA t0 t1
  obtain ⟨p1, p2, p3, p4⟩ := aM hG.out
  obtain ⟨w0, HW, av, kC⟩ := xQ (aN P Q G) vw (fO kind Y yn yc B bn bc L ln lc) KN (tO tc A na ca pc Zp nz cz TL tn fU) Br w
  have kF := sM av hF
  have kT := Gu av hT
  have kV := mkV av hv
  have aA := dS w0
  clear hF hT hv
  go_in
  go_upto_region 1 with (fail)
  rw [show ((w.alloc (aN P Q G)).alloc (fO kind Y yn yc B bn bc L ln lc)).alloc (tO tc A na ca pc Zp nz cz TL tn fU) = w0 from HW.out]
  have zc := kC.out _ aA
  by_cases hk1 : kind = 1
  ·
   have d1 : (kind == 1) = true := by simp [hk1]
   have kr : aP P Q G ys rows = true := by
    rcases HA.out with ⟨-, h⟩ | ⟨h, -⟩
    · exact h
    · omega
   obtain ⟨htl, hpc, hck⟩ : tl = [] ∧ pc = tc ∧ bN P Q pc ys rows al zs = true := by
    rcases HP.out with ⟨-, h⟩ | ⟨h, -⟩
    · exact h
    · omega
   obtain ⟨q1, q2, q3, q4, q5⟩ := gY hck
   rw [hpc] at q5
   obtain ⟨-, -, -, v4, -⟩ := ak kr
   have v3 := (ak kr).2.2.1
   have v7 := (ak kr).2.2.2.2.2.2.1
   obtain rfl : bn = yn := by omega
   have Yi := aa (fun u hv hY hB hL => Fv P Q G Y ys yc B rows bn bc tc Zp zs nz cz (aa (MB kr q2 q4 (by simp only [List.all_cons, List.all_nil, Bool.and_true]; rw [← hpc]; exact q3))) t0 t1 (aa hyn) (aa hbn) (aa hzn) (by omega) hQ u hv hY hB hL)
   have hsl : (iX P Q tc ys rows zs).length = bn := by rw [q5]; omega
   obtain ⟨sl, hsl2⟩ : ∃ z, iX P Q tc ys rows zs = z := ⟨_, rfl⟩
   rw [hsl2] at Yi hsl q5
   have Dr := aa q5
   have Bg := aa hpc
   have hna : na = bn := by omega
   have hnz : nz ≤ 12 := by omega
   have Rp : bn ≤ 8 := by omega
   subst hna
   clear hpc htl hck kr HP HS HA q1 q2 q3 q4 q5 v4 v3 v7 hsl2
   go_wp2_with fail
   refine (Yi.out _ (kV.out _ aA) (aa (kF.out _ aA).out.rel.1) (aa (kF.out _ aA).out.rel.2) (aa (kT.out _ aA).out.prf.2)).mono ?_
   rintro e w2 ⟨A2, c2, Z2, d2, rfl, hA2, hZ2, hb2⟩
   have fD := cZ aA hb2
   have HA2 := aa hA2
   have HZ2 := aa hZ2
   clear hb2 zc hA2 hZ2
   go_upto_region 3 with (fail)
   obtain ⟨w3, hw3, HB3, -, -, kz⟩ := su (pO A2 na c2 tc Z2 nz d2) Bt w2
   rw [hw3]
   clear hw3
   have fC := nK fD HB3
   have zc := kC.out _ fC
   have zz := kz.out _ (dS w3)
   have Sr : Hid ((tc == pc) = true) := aa (by rw [Bg.out]; simp)
   have Ww : Hid ((sl == al) = true) := aa (by rw [Dr.out]; simp)
   have h4 := Sr.out
   go_wp2_with fail
   refine (Ed A2 sl na c2 A al na ca true Ww (aa hsl) (aa iV) (by omega) (by omega) _ (aa (HA2.out.below HB3.out)) (aa (kT.out _ fC).out.prf.1)).mono ?_
   rintro e w4 ⟨rfl, hb4⟩
   have PV := cZ fC hb4
   have gI := cZ HB3 hb4
   clear zc zz
   have zc := kC.out _ PV
   have zz := kz.out _ (aa hb4)
   clear hb4 h4
   go_wp2_with fail
   refine (Ed Z2 zs nz d2 Zp zs nz cz true (aa (by simp)) (aa hzn) (aa hzn) (by omega) (by omega) _ (aa (HZ2.out.below gI.out)) (aa (kT.out _ PV).out.prf.2)).mono ?_
   rintro e w5 ⟨rfl, hb5⟩
   have WI := cZ PV hb5
   clear zc zz hb5
   go_wp2
   go_ret
   exact ⟨rfl, gN av WI⟩
  have d1 : (kind == 1) = false := by simp [hk1]
  obtain ⟨hem, hlen, hsub, heq, hfin⟩ : (al = [] ∧ pc = 0 ∧ zs = []) ∧ tl.length = l.length ∧ (∀ k, k < l.length → (l.getD k aY).acc P Q (tl.getD k noT)) ∧ (kind = 2 → ∀ k, k < l.length → (tl.getD k noT).c = tc) ∧ (kind = 2 ∨ fu Q tl = tc) := by
   rcases HP.out with ⟨h, -⟩ | ⟨-, h⟩
   · omega
   · exact h
  have Kl := aa hsub
  have GJ := aa heq
  have qo := aa hfin
  have Gp : Hid (∀ k, k < l.length → (l.getD k aY).sh ∧ (l.getD k aY).at_ P Q G) := aa (fun k hk => by
   rcases HS.out with ⟨k1, k2⟩ | ⟨k1, k2, k3, k4, k5⟩
   · omega
   ·
    rcases HA.out with ⟨m1, _⟩ | ⟨_, m2⟩
    · omega
    · exact ⟨k5 k hk, m2 k hk⟩)
  obtain rfl : ln = tn := by omega
  have YI := aa hem
  clear hsub heq hfin HP HS HA hem
  have d2 : ((ln : Int) != (ln : Int)) = false := by simp
  have Tt := aA
  go_wp2_with fail
  clear zc d1 d2 hk1
  go_loopw [9, 62] (fun vs vi wr => ∃ (k : Nat) (sm : Int), k ≤ ln ∧ vi = .int .i64 k ∧ vs = .int .i64 sm ∧ 0 ≤ sm ∧ sm < Q ∧ Hid (sm = fu Q (tl.take k)) ∧ Hid (Below w0.heap.size w0 wr)) (fun _ vi _ => ln - (intOf vi).toNat)
  case atStart => exact ⟨0, 0, by omega, rfl, rfl, by omega, by omega, aa (by simp [fu]), Tt⟩
  case round =>
   obtain ⟨k, sm, hk, rfl, rfl, s0, s1, xG, aF⟩ := hrel
   have zc := kC.out _ aF
   by_cases hlt : k < ln
   case neg =>
    obtain rfl : k = ln := by omega
    have hsm : Hid (fu Q tl = sm) := aa (by rw [xG.out, List.take_of_length_le (by omega)])
    by_cases hk2 : kind = 2
    ·
     have d3 : (kind == 2) = true := by simp [hk2]
     clear xG hk2 hsm
     go_wp2
     go_ret
     exact ⟨rfl, gN av aF⟩
    ·
     have d3 : (kind == 2) = false := by simp [hk2]
     have hq : (sm == tc) = true := by
      rcases qo.out with h | h
      · exact absurd h hk2
      · rw [← hsm.out, h]; simp
     clear xG hk2 hsm
     go_wp2
     go_ret
     exact ⟨rfl, gN av aF⟩
   have hkl : k < l.length := by omega
   have hkt : k < tl.length := by omega
   clear zc
   obtain ⟨b, o, hL, i0, i1, i2, i3, gV⟩ := (kF.out _ aF).out.kid (k := k) hlt
   dsimp only at hL i0 i1 i2 i3 gV
   subst hL
   have hst := jg (Q := Q) hkt
   rw [← xG.out] at hst
   obtain ⟨hsx, hax⟩ := Gp.out k hkl
   have Bq := Kl.out k hkl
   have OM := aa (fun h2 => GJ.out h2 k hkl)
   obtain ⟨x, hx⟩ : ∃ x, l.getD k aY = x := ⟨_, rfl⟩
   obtain ⟨y, hy⟩ : ∃ y, tl.getD k noT = y := ⟨_, rfl⟩
   have hdp : x.dp ≤ d := by rw [← hx]; exact FT.kid_dp hd hkl
   rw [hx] at i0 i1 i2 i3 gV hsx hax
   rw [hx, hy] at Bq
   rw [hy] at hst OM
   have HX := aa gV
   have fQ := aa (fun u hv hF hT => ih.out x y u hdp hv hF hT hsx hax Bq)
   obtain ⟨y0, y1⟩ := En Bq
   have HST := aa hst
   have gu : Hid (∀ u : World, Hid (Below w0.heap.size w0 u) → ∃ b o, TL = some ⟨b, o, none⟩ ∧ u.cell? ⟨b, o + k * 5, none⟩ = some (.int .i64 y.c) ∧ u.cell? ⟨b, o + k * 5 + 1, none⟩ = some (.slice y.A y.na y.ca) ∧ u.cell? ⟨b, o + k * 5 + 2, none⟩ = some (.int .i64 y.pc) ∧ u.cell? ⟨b, o + k * 5 + 3, none⟩ = some (.slice y.Z y.nz y.cz) ∧ u.cell? ⟨b, o + k * 5 + 4, none⟩ = some (.slice y.L y.ln y.lc) ∧ bI u y) := aa (fun u hu => by
    have h := (kT.out _ hu).out.kid (k := k) hlt
    dsimp only at h
    rw [hy] at h
    exact h)
   clear gV hx hy hkl hkt hst hsx hax Bq hdp xG
   obtain ⟨xk, xY, jL, jM, xys, xB, jN, jO, fE, xL, jm, jo, xl⟩ := x
   dsimp only at i0 i1 i2 i3
   obtain ⟨g0, g1, g2, c0, c1, c2, c3, e0, e1, e2, e3, e4⟩ := kC.out _ aF
   obtain ⟨bt, ot, hTL, j0, j1, j2, j3, j4, hTy⟩ := gu.out _ aF
   subst hTL
   have sw : Hid (∀ u : World, Hid (Below wr.heap.size wr u) → Hid (Vars u)) := aa (fun u hu => kV.out _ (nK aF hu))
   have m_ := sM (dS wr) HX
   have Dh := Gu (dS wr) (aa hTy)
   clear hTy HX
   obtain ⟨nI, yA, Ux, UB, UC, Uv, yZ, Uw, UA, Uu, yL, Uy, Uz, yl⟩ := y
   dsimp only at j0 j1 j2 j3 j4 OM HST gu y0 y1
   have JJ : Hid (∀ u : World, Hid (Below w0.heap.size w0 u) → u.cell? ⟨bt, ot + k * 5, none⟩ = some (.int .i64 nI)) := aa (fun u hu => by
    obtain ⟨b', o', e1, e2, -⟩ := gu.out u hu
    injection e1 with e1
    injection e1 with e3 e4
    subst e3 e4
    exact e2)
   clear gu
   go_wp2_with fail
   by_cases hk2 : kind = 2
   ·
    have d3 : (kind == 2) = true := by simp [hk2]
    have d4 : (nI != tc) = false := by rw [OM.out hk2]; simp
    clear hk2
    have hO := aa (fun (u : World) (hu : Hid (Below wr.heap.size wr u)) => And.intro (cell_below g0 hu.out) (And.intro (cell_below g1 hu.out) (And.intro (cell_below g2 hu.out) (And.intro (cell_below c0 hu.out) (And.intro (cell_below c1 hu.out) (And.intro (cell_below c2 hu.out) (And.intro (cell_below c3 hu.out) (And.intro (cell_below e0 hu.out) (And.intro (cell_below e1 hu.out) (And.intro (cell_below e2 hu.out) (And.intro (cell_below e3 hu.out) (And.intro (cell_below e4 hu.out) (And.intro (cell_below i0 hu.out) (And.intro (cell_below i1 hu.out) (And.intro (cell_below i2 hu.out) (And.intro (cell_below i3 hu.out) (And.intro (cell_below j0 hu.out) (And.intro (cell_below j1 hu.out) (And.intro (cell_below j2 hu.out) (And.intro (cell_below j3 hu.out) (cell_below j4 hu.out)))))))))))))))))))))
    clear g0 g1 g2 c0 c1 c2 c3 e0 e1 e2 e3 e4 i0 i1 i2 i3 j0 j1 j2 j3 j4
    refine je [] (dS wr) (fun hHeld => ?_)
    refine aX 0 1 2 3 ?_
    refine aX 4 5 6 7 ?_
    refine aQ 8 ?_
    refine aQ 9 ?_
    refine aQ 10 ?_
    refine dO 11 fun K hK => ?_
    go_simp
    refine (fQ.out _ (sw.out _ hHeld) (m_.out _ hHeld) (Dh.out _ hHeld)).mono ?_
    rintro e wA ⟨rfl, bA⟩
    refine hK.out _ _ (cZ hHeld bA) (fun hHeld => ?_)
    clear hK K
    refine aQ 12 ?_
    refine jf ?_
    clear hO
    have gI := nK aF hHeld
    clear hHeld
    obtain ⟨jv, fK⟩ : ∃ z, (sm + nI) % Q = z := ⟨_, rfl⟩
    have n0 : 0 ≤ jv := by rw [← fK]; exact Int.emod_nonneg _ (by omega)
    have n1 : jv < Q := by rw [← fK]; exact Int.emod_lt_of_pos _ (by omega)
    have uY : Hid (jv = fu Q (tl.take (k + 1))) := aa (by rw [HST.out, fK])
    have D5 : (sm + nI).tmod Q = jv := by rw [Int.tmod_eq_emod_of_nonneg (by omega), fK]
    have hsum : IntKind.i64.wrap (sm + nI) = sm + nI := IntWalk.i64_in _ (by omega)
    have hwt : IntKind.i64.wrap jv = jv := IntWalk.i64_in _ (by omega)
    have hQn : ¬ (Q = 0) := by omega
    have KA := aa (fun q => ay gI.out q)
    obtain ⟨g0, g1, g2, c0, c1, c2, c3, e0, e1, e2, e3, e4⟩ := kC.out _ gI
    have j0 := JJ.out _ gI
    clear fK
    go_wp2
    go_quiet (fail)
    clear hsum D5
    go_wp2
    go_quiet (fail)
    go_wp2
    go_roundw
    case rel => exact ⟨k + 1, jv, by omega, by go_num, rfl, n0, n1, uY, aa (KA.out _)⟩
    case measure => simp [intOf]; omega
   ·
    have d3 : (kind == 2) = false := by simp [hk2]
    clear hk2
    have hO := aa (fun (u : World) (hu : Hid (Below wr.heap.size wr u)) => And.intro (cell_below g0 hu.out) (And.intro (cell_below g1 hu.out) (And.intro (cell_below g2 hu.out) (And.intro (cell_below c0 hu.out) (And.intro (cell_below c1 hu.out) (And.intro (cell_below c2 hu.out) (And.intro (cell_below c3 hu.out) (And.intro (cell_below e0 hu.out) (And.intro (cell_below e1 hu.out) (And.intro (cell_below e2 hu.out) (And.intro (cell_below e3 hu.out) (And.intro (cell_below e4 hu.out) (And.intro (cell_below i0 hu.out) (And.intro (cell_below i1 hu.out) (And.intro (cell_below i2 hu.out) (And.intro (cell_below i3 hu.out) (And.intro (cell_below j0 hu.out) (And.intro (cell_below j1 hu.out) (And.intro (cell_below j2 hu.out) (And.intro (cell_below j3 hu.out) (cell_below j4 hu.out)))))))))))))))))))))
    clear g0 g1 g2 c0 c1 c2 c3 e0 e1 e2 e3 e4 i0 i1 i2 i3 j0 j1 j2 j3 j4
    refine je [] (dS wr) (fun hHeld => ?_)
    refine aX 0 1 2 3 ?_
    refine aX 4 5 6 7 ?_
    refine aQ 8 ?_
    refine aQ 9 ?_
    refine aQ 10 ?_
    refine dO 11 fun K hK => ?_
    go_simp
    refine (fQ.out _ (sw.out _ hHeld) (m_.out _ hHeld) (Dh.out _ hHeld)).mono ?_
    rintro e wA ⟨rfl, bA⟩
    refine hK.out _ _ (cZ hHeld bA) (fun hHeld => ?_)
    clear hK K
    refine aQ 12 ?_
    refine jf ?_
    clear hO
    have gI := nK aF hHeld
    clear hHeld
    obtain ⟨jv, fK⟩ : ∃ z, (sm + nI) % Q = z := ⟨_, rfl⟩
    have n0 : 0 ≤ jv := by rw [← fK]; exact Int.emod_nonneg _ (by omega)
    have n1 : jv < Q := by rw [← fK]; exact Int.emod_lt_of_pos _ (by omega)
    have uY : Hid (jv = fu Q (tl.take (k + 1))) := aa (by rw [HST.out, fK])
    have D5 : (sm + nI).tmod Q = jv := by rw [Int.tmod_eq_emod_of_nonneg (by omega), fK]
    have hsum : IntKind.i64.wrap (sm + nI) = sm + nI := IntWalk.i64_in _ (by omega)
    have hwt : IntKind.i64.wrap jv = jv := IntWalk.i64_in _ (by omega)
    have hQn : ¬ (Q = 0) := by omega
    have KA := aa (fun q => ay gI.out q)
    obtain ⟨g0, g1, g2, c0, c1, c2, c3, e0, e1, e2, e3, e4⟩ := kC.out _ gI
    have j0 := JJ.out _ gI
    clear fK
    go_wp2
    go_quiet (fail)
    clear hsum D5
    go_wp2
    go_quiet (fail)
    go_wp2
    go_roundw
    case rel => exact ⟨k + 1, jv, by omega, by go_num, rfl, n0, n1, uY, aa (KA.out _)⟩
    case measure => simp [intOf]; omega
theorem uO (P Q G : Int) (f : FT) (t : TT) (hQ : Q < 9223372036854775808) (w : World) (hv : Hid (Vars w)) (hF : Hid (dU w f)) (hT : Hid (bI w t)) (hV : Hid (VF P Q G f)) :
  Calls Tryz.prog 8 #[gv P Q G, fV f, tV t] w (vR (f.acc P Q t) (f.acc P Q t) w) := by
 have MS := aa (fun u hv hF => uN P Q G f hQ u hv hF hV)
 have qx := aa (fun u hv hF hT => MP P Q G hQ (aa hV.out.g) f.dp f t u (Nat.le_refl _) hv hF hT hV.out.s hV.out.a)
 obtain ⟨p, hp⟩ : ∃ z, f.acc P Q t = z := ⟨_, rfl⟩
 rw [hp] at qx ⊢
 clear hp hV
 obtain ⟨kind, Y, yn, yc, ys, B, bn, bc, rows, L, ln, lc, l⟩ := f
 obtain ⟨tc, A, na, ca, al, pc, Zp, nz, cz, zs, TL, tn, fU, tl⟩ := t
 obtain ⟨w0, HW, av, kC⟩ := xQ (aN P Q G) vw (fO kind Y yn yc B bn bc L ln lc) KN (tO tc A na ca pc Zp nz cz TL tn fU) Br w
 have kF := sM av hF
 have kT := Gu av hT
 have kV := mkV av hv
 have aA := dS w0
 clear hF hT hv
 go_in
 go_upto_region 1 with (fail)
 rw [show ((w.alloc (aN P Q G)).alloc (fO kind Y yn yc B bn bc L ln lc)).alloc (tO tc A na ca pc Zp nz cz TL tn fU) = w0 from HW.out]
 have zc := kC.out _ aA
 go_wp2_with fail
 refine JM kC aA (MS.out _ (kV.out _ aA) (kF.out _ aA)) fun w1 bF zc => ?_
 go_wp2_with fail
 refine (qx.out _ (kV.out _ bF) (kF.out _ bF) (kT.out _ bF)).mono ?_
 rintro e w2 ⟨r, rfl, h1, h2, hb2⟩
 have fD := cZ bF hb2
 have h1 := aa h1
 have h2 := aa h2
 clear zc hb2
 go_wp2
 go_ret
 exact ⟨r, rfl, fun h => h1.out h, fun h => h2.out h, gN av fD⟩
theorem Fh (P Q G : Int) (f : FT) (t : TT) (hQ : Q < 9223372036854775808) (w : World) (hv : Hid (Vars w)) (hF : Hid (dU w f)) (hT : Hid (bI w t)) (hV : Hid (VF P Q G f)) (ha : f.acc P Q t) :
  Calls Tryz.prog 9 #[gv P Q G, fV f, tV t] w (Rt w (.bool true)) := by
 have MS := aa (fun u hF => rJ P Q G hQ f u hF)
 have qx := aa (fun u hv hF hT => Li P Q G hQ (aa hV.out.g) f.dp f t u (Nat.le_refl _) hv hF hT hV.out.s hV.out.a ha)
 obtain ⟨p, hp⟩ : ∃ z, VF P Q G f = z := ⟨_, rfl⟩
 rw [hp] at MS hV
 clear hp ha
 obtain ⟨kind, Y, yn, yc, ys, B, bn, bc, rows, L, ln, lc, l⟩ := f
 obtain ⟨tc, A, na, ca, al, pc, Zp, nz, cz, zs, TL, tn, fU, tl⟩ := t
 obtain ⟨w0, HW, av, kC⟩ := xQ (aN P Q G) vw (fO kind Y yn yc B bn bc L ln lc) KN (tO tc A na ca pc Zp nz cz TL tn fU) Br w
 have kF := sM av hF
 have kT := Gu av hT
 have kV := mkV av hv
 have aA := dS w0
 clear hF hT hv
 go_in
 go_upto_region 1 with (fail)
 rw [show ((w.alloc (aN P Q G)).alloc (fO kind Y yn yc B bn bc L ln lc)).alloc (tO tc A na ca pc Zp nz cz TL tn fU) = w0 from HW.out]
 have zc := kC.out _ aA
 go_wp2_with fail
 refine (MS.out _ (kF.out _ aA)).mono ?_
 rintro e w1 ⟨r, rfl, h1, -, hb1⟩
 have bF := cZ aA hb1
 obtain rfl : r = true := h1 hV.out
 clear zc hb1 h1
 have zc := kC.out _ bF
 go_wp2_with fail
 refine (qx.out _ (kV.out _ bF) (kF.out _ bF) (kT.out _ bF)).mono ?_
 rintro e w2 ⟨rfl, hb2⟩
 have fD := cZ bF hb2
 clear zc hb2
 go_wp2
 go_ret
 exact ⟨rfl, gN av fD⟩
def iP (w : World) : Prop := Lib.TabIs Tryz.prog w "internal/strconv.uint64pow10" .u64 Lib.pow10Tab
theorem iP.below {w w' : World} (h : iP w) (hb : Below w.heap.size w w') : iP w' := by
 unfold iP Lib.TabIs World.var? at h ⊢
 cases hg : Tryz.prog.globalNamed "internal/strconv.uint64pow10" with
 | none => rw [hg] at h; simp at h
 | some g =>
  rw [hg] at h
  simp only [Option.bind_some] at h ⊢
  have hlt : g < w.heap.size := by
   rcases Nat.lt_or_ge g w.heap.size with h1 | h1
   · exact h1
   · rw [Array.getElem?_eq_none h1] at h; cases h
  rw [hb.block g hlt]
  exact h
theorem below_grow (w : World) (os : Array Obj) : Below w.heap.size w (Sort.grow w os) :=
 ⟨rfl, rfl, rfl, by simp [Sort.grow], fun k hk => by simp only [Sort.grow]; exact Array.getElem?_append_left hk⟩
def LV (n : Int) : ByteArray := ⟨(Lib.itoa n).toArray⟩
theorem pJ {n : Int} (h0 : -9223372036854775808 ≤ n) (h1 : n ≤ 9223372036854775807) : (LV n).size ≤ 21 := by
 show (Lib.itoa n).toArray.size ≤ 21
 rw [List.size_toArray]
 exact Lib.itoa_length_le n h0 h1
theorem wN (n : Int) (h0 : -9223372036854775808 ≤ n) (h1 : n ≤ 9223372036854775807) (w : World) (hT : Hid (iP w)) :
  Calls Tryz.prog 133 #[.int .i64 n] w (Rt w (.string (LV n))) :=
 (Tryz.strconv_Itoa n h0 h1 w hT.out).mono (by
  rintro e w' ⟨rfl, k, os, rfl⟩
  exact ⟨rfl, af (ay (Below.refl _ w) k) (below_grow _ os)⟩)
theorem LH {w w0 : World} (hb : Hid (Below w.heap.size w w0)) (h : Hid (iP w)) : Hid (∀ u : World, Hid (Below w0.heap.size w0 u) → Hid (iP u)) := vH (fun u => iP u) hb h (·.below)
theorem Dz : (Tryz.prog.info? 9).map (fun i => (i.zero, i.size, i.bytes)) = some (some (.string ⟨#[]⟩), 1, 16) := by kernel_rfl
def kg (w : World) (base : Nat) (v : Value) (xs : List ByteArray) : Prop := w.ownsRow base 9 1 v xs.length (xs.map Value.string)
theorem zR (w : World) (base : Nat) : kg w base (.slice none 0 0) [] := World.ownsRow_nil _ _ _ _
theorem kg.app {w1 : World} {base k : Nat} {v' : Value} {xs : List ByteArray} {x : ByteArray} (hk : k = xs.length)
  (h : w1.ownsRow base 9 1 v' (k + 1) (xs.map Value.string ++ [.string x])) : kg w1 base v' (xs ++ [x]) := by
 unfold kg
 rw [List.length_append, List.map_append, List.length_singleton, ← hk]
 exact h
theorem kg.keep {w w' : World} {B : Nat} {v : Value} {xs : List ByteArray} (h : kg w B v xs) (hb : Below w.heap.size w w') : kg w' B v xs := by
 obtain ⟨h1, h2⟩ := h
 refine ⟨h1, h2.imp id ?_⟩
 rintro ⟨g, cap, cur, rfl, hg, hh, rest⟩
 exact ⟨g, cap, cur, rfl, hg, (hb.block g (Array.getElem?_eq_some_iff.1 hh).1).trans hh, rest⟩
def oU (xs : List ByteArray) : ByteArray := ⟨(Lib.join (xs.map (·.data.toList)) [44, 32]).toArray⟩
theorem wM (v : Value) (xs : List ByteArray) (B : Nat) (w : World) (hO : Hid (kg w B v xs)) (hn : xs.length ≤ 1000) (hl : (oU xs).size ≤ 140737488355328) :
  Calls Tryz.prog 110 #[v, .string ⟨#[44, 32]⟩] w (Rt w (.string (oU xs))) := by
 obtain ⟨h1, h2⟩ := hO.out
 rcases h2 with ⟨rfl, h0⟩ | ⟨g, cap, cur, rfl, hg, hh, hcn, hc, hs, ht⟩
 ·
  have e : xs = [] := List.eq_nil_of_length_eq_zero h0
  subst e
  exact (Tryz.strings_Join_none none 0 ⟨#[44, 32]⟩ w).mono (by rintro e w' ⟨rfl, rfl⟩; exact ⟨rfl, Below.refl _ _⟩)
 ·
  have hcell : ∀ (j : Nat) x, xs[j]? = some x → w.cell? ⟨g, 0 + j, none⟩ = some (.string x) := fun j x hj => by
   have hlt : j < xs.length := (List.getElem?_eq_some_iff.1 hj).1
   rw [Nat.zero_add, aj hh]
   have e : cur.toList[j]? = (xs.map Value.string)[j]? := by
    rw [← ht, List.getElem?_take_of_lt (by omega)]
   rw [← Array.getElem?_toList, e, List.getElem?_map, hj]
   rfl
  refine (Tryz.strings_Join g 0 cap xs ⟨#[44, 32]⟩ w hcell (Array.getElem?_eq_some_iff.1 hh).1 (by omega) hcn ?_).mono (by rintro e w' ⟨rfl, hb⟩; exact ⟨rfl, hb⟩)
  have : (oU xs).size = (Lib.join (xs.map (·.data.toList)) [44, 32]).length := by show Array.size _ = _; rw [List.size_toArray]
  show (Lib.join (xs.map (·.data.toList)) [44, 32]).length ≤ _
  omega
theorem uA : ∀ (xs : List ByteArray) (m : Nat), (∀ x ∈ xs, x.size ≤ m) → (oU xs).size ≤ xs.length * (m + 2)
 | [], m, h => by simp [oU, Lib.join_nil]; rfl
 | x :: xs, m, h => by
  have h1 := h x (by simp)
  have h2 : ∀ (ys : List ByteArray), (∀ y ∈ ys, y.size ≤ m) → (Lib.joinTail [44, 32] (ys.map (·.data.toList))).length ≤ ys.length * (m + 2) := fun ys hy => by
   induction ys with
   | nil => simp [Lib.joinTail]
   | cons y ys ih =>
    have i1 := ih (fun z hz => hy z (by simp [hz]))
    have i2 := hy y (by simp)
    simp only [Lib.joinTail, List.map_cons, List.flatten_cons, List.length_append, List.length_cons] at i1 ⊢
    have i3 : y.data.toList.length = y.size := by rw [Array.length_toList]; rfl
    rw [Nat.succ_mul]
    simp only [List.length_nil]
    omega
  have h3 := h2 xs (fun y hy => h y (by simp [hy]))
  show Array.size _ ≤ _
  rw [List.size_toArray, List.map_cons, Lib.join_cons, List.length_append]
  have h4 : x.data.toList.length = x.size := by rw [Array.length_toList]; rfl
  rw [List.length_cons, Nat.succ_mul]
  omega
end Go.Proofs.YtbljkkpnpcgjfaaGreatDoor
namespace Go.Proofs.YtbljkkpnpcgjfaaGreatDoor
open Go.ChangeShapes Go.WideShapes Go.ChangeAt Go.RowKit rM
theorem Vy : Tryz.prog.globalNamed "internal/strconv.uint64pow10" = some 7 := by kernel_rfl
theorem Jm : (Tryz.prog.globals[7]?).map (·.type) = some 213 := by kernel_rfl
theorem JX : Tryz.prog.cellsOf 213 = 20 := by kernel_rfl
theorem vE {W : World} (h : laidMetH Tryz.prog [("math/bits.deBruijn32tab", Rows.laid_math_bits_deBruijn32tab), ("math/bits.deBruijn64tab", Rows.laid_math_bits_deBruijn64tab), ("internal/strconv.uint64pow10", Rows.laid_internal_strconv_uint64pow10), ("specie/prime.bases", Rows.laid_specie_prime_bases), ("specie/digest.constants", Rows.laid_specie_digest_constants), ("specie/digest.start", Rows.laid_specie_digest_start)] W) : Vars W ∧ bX W ∧ iP W := by
 have h0 : laidMet Tryz.prog [("math/bits.deBruijn32tab", Rows.laid_math_bits_deBruijn32tab), ("math/bits.deBruijn64tab", Rows.laid_math_bits_deBruijn64tab), ("internal/strconv.uint64pow10", Rows.laid_internal_strconv_uint64pow10), ("specie/prime.bases", Rows.laid_specie_prime_bases), ("specie/digest.constants", Rows.laid_specie_digest_constants), ("specie/digest.start", Rows.laid_specie_digest_start)] W := h
 have h1 := h0.tail
 have t1 : Lib.TabIs Tryz.prog W "math/bits.deBruijn64tab" .u8 (Lib.deBruijn64tab.map Int.ofNat) := Lib.tabIs_of_head (rest := [("internal/strconv.uint64pow10", Rows.laid_internal_strconv_uint64pow10), ("specie/prime.bases", Rows.laid_specie_prime_bases), ("specie/digest.constants", Rows.laid_specie_digest_constants), ("specie/digest.start", Rows.laid_specie_digest_start)]) RJ Jk Tryz.underlying181 Tryz.underlying5 Eh JR h1
 have tp : Lib.TabIs Tryz.prog W "internal/strconv.uint64pow10" .u64 Lib.pow10Tab := Lib.tabIs_of_head (rest := [("specie/prime.bases", Rows.laid_specie_prime_bases), ("specie/digest.constants", Rows.laid_specie_digest_constants), ("specie/digest.start", Rows.laid_specie_digest_start)]) Vy Jm Tryz.underlying213 Tryz.underlying143 A7 JX h1.tail
 have t2 : Lib.TabIs Tryz.prog W "specie/prime.bases" .u64 [2, 3, 5, 7, 11, 13, 17, 19, 23, 29, 31, 37] := Lib.tabIs_of_head (rest := [("specie/digest.constants", Rows.laid_specie_digest_constants), ("specie/digest.start", Rows.laid_specie_digest_start)]) Jo CK Tryz.underlying144 Tryz.underlying143 A7 C9 h1.tail.tail
 have t3 : Lib.TabIs Tryz.prog W "specie/digest.constants" .u32 KL := Lib.tabIs_of_head (rest := [("specie/digest.start", Rows.laid_specie_digest_start)]) Jn CJ Tryz.underlying191 Tryz.underlying159 A8 C8 h1.tail.tail.tail
 have t4 : Lib.TabIs Tryz.prog W "specie/digest.start" .u32 st0.list := Lib.tabIs_of_head (rest := []) Jl CG Tryz.underlying160 Tryz.underlying159 A8 CY h1.tail.tail.tail.tail
 refine ⟨⟨fun k hk => ?_, fun j hj => ?_⟩, ⟨fun k hk => ?_, fun k hk => ?_⟩, tp⟩
 · rw [t2.cell Jo k hk]; rfl
 ·
  rw [t1.cell RJ j (by simpa using hj)]
  rw [List.getD_eq_getElem?_getD, List.getD_eq_getElem?_getD, List.getElem?_map]
  rw [List.getElem?_eq_getElem hj]
  rfl
 · rw [t3.cell Jn k hk]
 · rw [t4.cell Jl k hk]
def Ob : Obj → Obj
 | .cells _ t frozen => .cells #[.int .u8 0, .int .u8 1, .int .u8 28, .int .u8 2, .int .u8 29, .int .u8 14, .int .u8 24, .int .u8 3, .int .u8 30, .int .u8 22, .int .u8 20, .int .u8 15, .int .u8 25, .int .u8 17, .int .u8 4, .int .u8 8, .int .u8 31, .int .u8 27, .int .u8 13, .int .u8 23, .int .u8 21, .int .u8 19, .int .u8 16, .int .u8 7, .int .u8 26, .int .u8 12, .int .u8 18, .int .u8 6, .int .u8 11, .int .u8 5, .int .u8 10, .int .u8 9] t frozen
 | o => o
def Oc : Obj → Obj
 | .cells _ t frozen => .cells (Lib.pow10Tab.map fun n => Value.int .u64 n).toArray t frozen
 | o => o
noncomputable def oh (os : Os) : World :=
 { World.holding Tryz.prog os ⟨#[], #[], []⟩ with heap := ((((((World.holding Tryz.prog os ⟨#[], #[], []⟩).heap.modify 0 IQ).modify 2 Oa).modify 3 IP).modify 1 IM).modify 7 Oc).modify 8 Ob }
section
variable {H : Type} {enc : TypeId × Value → H} {w : World} {base : Nat} {held : Bool}
theorem Lx {r : Reach} {b0 : Nat} {v : Value} {d : DataW H} {ps : List MemPlace} (hval : Value.okWide Tryz.prog w r b0 24 v) (hd : DataW.Trod enc Tryz.prog w base (fun _ => true) held 24 v d ps) :
  ∃ (A : Option Addr) (n c : Nat) (xs : List Int), v = .slice A n c ∧ xs.length = n ∧ Sl w A xs := by
 obtain ⟨a, len, cap, rfl⟩ := okWide_slice Tryz.underlying24 hval
 obtain ⟨n, h⟩ := hd
 rcases open_ints Tryz.underlying24 Tryz.underlying3 jH h with ⟨h0, _⟩ | ⟨a', len', cap', zs, h0, _, hlc, _, hz, _, hcell, _⟩
 ·
  simp [Value.cells] at h0
  obtain ⟨rfl, rfl, rfl⟩ := h0
  exact ⟨none, 0, 0, [], rfl, rfl, fun k hk => absurd hk (by simp)⟩
 ·
  simp [Value.cells] at h0
  obtain ⟨rfl, rfl, rfl⟩ := h0
  simp at hz
  refine ⟨some a', len, cap, zs.take len, rfl, by rw [List.length_take]; omega, fun k hk => ?_⟩
  rw [List.length_take] at hk
  obtain ⟨b, off, rfl, hc⟩ := ints_at hcell (by omega)
  refine ⟨b, off, rfl, ?_⟩
  rw [hc k (by omega), List.getD_eq_getElem?_getD, List.getD_eq_getElem?_getD, List.getElem?_take_of_lt (by omega)]
end
section
variable {H : Type} {enc : TypeId × Value → H} {w : World} {base : Nat} {held : Bool}
theorem uU : Tryz.prog.cellsOf 24 = 1 := by kernel_rfl
theorem JU : Tryz.prog.cellsOf 25 = 1 := by kernel_rfl
theorem JW : Tryz.prog.cellsOf 27 = 2 := by kernel_rfl
theorem open_row {n : Nat} {cs : List Value} {x : DataW H × List MemPlace} (h : DataW.trod enc Tryz.prog w base (fun _ => true) held n 24 cs = some x) :
  ∃ R : Row, cs = [R.val] ∧ l5 w R := by
 rcases open_ints Tryz.underlying24 Tryz.underlying3 jH h with ⟨rfl, _⟩ | ⟨a, len, cap, zs, rfl, _, hlc, _, hz, _, hcell, _⟩
 · exact ⟨aG, rfl, rfl, fun k hk => absurd hk (by simp)⟩
 ·
  simp at hz
  refine ⟨⟨some a, len, cap, zs.take len⟩, rfl, by show (zs.take len).length = len; rw [List.length_take]; omega, fun k hk => ?_⟩
  dsimp only at hk ⊢
  rw [List.length_take] at hk
  obtain ⟨b, off, rfl, hc⟩ := ints_at hcell (by omega)
  refine ⟨b, off, rfl, ?_⟩
  rw [hc k (by omega), List.getD_eq_getElem?_getD, List.getD_eq_getElem?_getD, List.getElem?_take_of_lt (by omega)]
theorem Fq {n : Nat} {cs : List Value} {x : DataW H × List MemPlace} (h : DataW.trod enc Tryz.prog w base (fun _ => true) held n 25 cs = some x) :
  ∃ (B : Option Addr) (k c : Nat) (rows : List Row), cs = [.slice B k c] ∧ rows.length = k ∧ Rw w B rows := by
 rcases Go.Deep.open_slice1 Tryz.underlying25 uU h with ⟨rfl, _⟩ | ⟨a, len, cap, m, n', V, D, Pl, rfl, _, hlc, _, hm, _, hx⟩
 · exact ⟨none, 0, 0, [], rfl, rfl, fun k hk => absurd hk (by simp)⟩
 ·
  simp at hm
  subst hm
  haveI : Inhabited Row := ⟨aG⟩
  obtain ⟨f, hf⟩ := Go.Deep.choose_lt (α := Row) (n := len) (p := fun i R => w.cell? (a.add i) = some R.val ∧ l5 w R) (fun i hi => by
   obtain ⟨h1, h2⟩ := hx i (by omega)
   obtain ⟨R, e, hR⟩ := open_row h2
   simp at e
   exact ⟨R, by rw [h1, e], hR⟩)
  refine ⟨some a, len, _, (List.range len).map f, rfl, by simp, fun k hk => ?_⟩
  have hk' : k < len := by simpa using hk
  have e : ((List.range len).map f).getD k aG = f k := by
   rw [List.getD_eq_getElem?_getD, List.getElem?_eq_getElem (by simpa using hk')]
   simp
  rw [e]
  obtain ⟨h1, h2⟩ := hf k hk'
  obtain ⟨b, off, spot⟩ := a
  have hspot : spot = none := by simpa [Addr.add] using World.cell?_spot (hf 0 (by omega)).1
  subst hspot
  exact ⟨⟨b, off, rfl, by rw [← Go.WideShapes.add_plain]; exact h1⟩, h2⟩
end
def Dv : Value := .agg (List.replicate 32 (Value.int .u8 0) ++ [Value.int .i64 0]).toArray
def NH {H : Type} : DataW H := .agg [.agg (List.replicate 32 (.lit (Lit.int .u8 0))), .lit (Lit.int .i64 0)]
theorem AZ {cl : List Value} : ∀ (k : Nat), (∀ i, i < k → ∃ z : Int, (cl.drop i).take 1 = [.int .u8 z] ∧ 0 ≤ z ∧ z < 256) → ∃ h : List Int, h.length = k ∧ cl.take k = h.map (.int .u8) ∧ aH h = true
 | 0, _ => ⟨[], rfl, by simp, rfl⟩
 | k + 1, hf => by
  obtain ⟨h, h1, h2, h3⟩ := AZ k (fun i hi => hf i (by omega))
  obtain ⟨z, hz, z0, z1⟩ := hf k (by omega)
  refine ⟨h ++ [z], by simp [h1], by rw [List.take_add, h2, hz, List.map_append]; rfl, ?_⟩
  rw [bO, h3]
  simp [aH, z0, z1]
section
variable {H : Type} {enc : TypeId × Value → H} {w : World} {base : Nat} {held : Bool}
theorem Gd : Tryz.prog.cellsOf 34 = 33 := by kernel_rfl
theorem Gc : Tryz.prog.cellsOf 32 = 32 := by kernel_rfl
theorem Fs {r : Reach} {b0 : Nat} {v : Value} {d : DataW H} {ps : List MemPlace} (hval : Value.okWide Tryz.prog w r b0 34 v) (hd : DataW.Trod enc Tryz.prog w base (fun _ => true) held 34 v d ps) :
  ∃ (h : List Int) (c : Int), v = .agg (aT h c) ∧ h.length = 32 ∧ aH h = true := by
 obtain ⟨cs, rfl, hsz⟩ := okWide_struct Tryz.underlying34 hval
 obtain ⟨n, h⟩ := hd
 obtain ⟨xs, m, rfl, _, hl, hxl, hf⟩ := DataW.trod_struct Tryz.underlying34 h
 rw [Gd] at hl
 obtain ⟨cl⟩ := cs
 simp only [Value.cells] at hl hf
 have f0 : DataW.trod enc Tryz.prog w base (fun _ => true) held m 32 ((cl.drop 0).take (Tryz.prog.cellsOf 32)) = xs[0]? := hf 0 _ rfl
 have f1 : DataW.trod enc Tryz.prog w base (fun _ => true) held m 3 ((cl.drop 32).take (Tryz.prog.cellsOf 3)) = xs[1]? := hf 1 _ rfl
 rw [Gc, List.drop_zero] at f0
 rw [jH] at f1
 have hl2 : xs.length = 2 := hxl
 match xs, hl2 with
 | [x0, x1], _ =>
  obtain ⟨c, hc, _, wc⟩ := DataW.trod_int Tryz.underlying3 f1
  obtain ⟨ys, m', _, _, _, hyl, Zr⟩ := DataW.trod_array Tryz.underlying32 f0
  obtain ⟨hh, h1, h2, h3⟩ := AZ (cl := cl.take 32) 32 (fun i hi => by
   have fi := Zr i hi
   rw [Eh, Nat.mul_one, List.getElem?_eq_getElem (by rw [hyl]; exact hi)] at fi
   obtain ⟨z, hz, _, wz⟩ := DataW.trod_int Tryz.underlying5 fi
   refine ⟨z, hz, ?_⟩
   simp [Lit.wf, IntKind.min, IntKind.max, IntKind.signed, IntKind.bits] at wz
   omega)
  refine ⟨hh, c, ?_, h1, h3⟩
  rw [List.take_take, Nat.min_self] at h2
  have e : cl = hh.map (.int .u8) ++ [.int .i64 c] := by
   rw [← h2, ← hc, ← List.take_append_drop 32 cl]
   congr 1
   · simp [List.take_append_drop]
   · rw [List.take_append_drop, List.take_of_length_le (by rw [List.length_drop, hl]; exact Nat.le_refl _)]
  rw [e]
  congr 1
  apply Array.ext'
  simp [aT, arr]
end
end Go.Proofs.YtbljkkpnpcgjfaaGreatDoor
namespace Go.Proofs.YtbljkkpnpcgjfaaGreatDoor
open Go.RowKit rM
def rowF (s b : ByteArray) : ByteArray := s ++ (⟨#[32]⟩ ++ b)
def rU (y : Int) (xs : List Int) : ByteArray := xs.foldl (fun s b => rowF s (LV b)) (LV y ++ ⟨#[32, 61]⟩)
def gK (ys : List Int) (rows : List Row) (k : Nat) : List ByteArray := (List.range k).map fun i => rU (ys.getD i 0) (rows.getD i aG).xs
def nR (ys : List Int) (rows : List Row) : ByteArray := (⟨#[91]⟩ ++ oU (gK ys rows ys.length)) ++ ⟨#[93]⟩
theorem kI (ys : List Int) (rows : List Row) (k : Nat) : (gK ys rows k).length = k := by simp [gK]
theorem BI (ys : List Int) (rows : List Row) (k : Nat) : gK ys rows (k + 1) = gK ys rows k ++ [rU (ys.getD k 0) (rows.getD k aG).xs] := by simp [gK, List.range_succ]
theorem wh {y : Int} {xs : List Int} {j : Nat} (h : j < xs.length) : rU y (xs.take (j + 1)) = rowF (rU y (xs.take j)) (LV (xs.getD j 0)) := by
 rw [rU, rU, List.take_add_one, List.foldl_append, List.getElem?_eq_getElem h, List.getD_eq_getElem?_getD, List.getElem?_eq_getElem h]; rfl
theorem wm {y : Int} (hy : vQ y) : ∀ (xs : List Int), (∀ j, j < xs.length → vQ (xs.getD j 0)) → (rU y xs).size ≤ 23 + xs.length * 22 := fun xs => by
 have key : ∀ (m : Nat), m ≤ xs.length → (∀ j, j < xs.length → vQ (xs.getD j 0)) → (rU y (xs.take m)).size ≤ 23 + m * 22 := fun m => by
  induction m with
  | zero =>
   intro _ _
   rw [List.take_zero, rU, List.foldl_nil, ByteArray.size_append]
   have := pJ (n := y) (by have := hy.1; omega) (by have := hy.2; omega)
   show _ + 2 ≤ _
   omega
  | succ m ih =>
   intro hm h
   rw [wh (by omega), rowF, ByteArray.size_append, ByteArray.size_append]
   have i1 := ih (by omega) h
   have i2 := h m (by omega)
   have := pJ (n := xs.getD m 0) (by have := i2.1; omega) (by have := i2.2; omega)
   have i3 : (⟨#[32]⟩ : ByteArray).size = 1 := rfl
   omega
 intro h
 have := key xs.length (Nat.le_refl _) h
 rwa [List.take_length] at this
theorem Jr (Y : Option Addr) (ys : List Int) (yn yc : Nat) (B : Option Addr) (rows : List Row) (bn bc : Nat) (hE : Hid (GM ys rows)) (hyn : Hid (ys.length = yn)) (hbn : Hid (rows.length = bn)) (w : World) (hT : Hid (iP w)) (hY : Hid (Sl w Y ys)) (hB : Hid (Rw w B rows)) :
  Calls Tryz.prog 109 #[dm Y yn yc B bn bc] w (Rt w (.string (nR ys rows))) := by
 obtain ⟨i0, hi, hz0, hz1, hz2⟩ := info_parts Dz
 obtain ⟨⟨e1, e2, e3, e4, e5⟩, e6⟩ := hE.out
 have SC := aa e6
 obtain ⟨w0, HW, av, kC⟩ := st1 (dW Y yn yc B bn bc) TS w
 have kY := mkS av hY
 have kB := vH (fun u => Rw u B rows) av hB (·.below)
 have kT := LH av hT
 have aA := dS w0
 have Zc : yn ≤ 8 := by have := hyn.out; omega
 have Rp : bn = yn := by have := hyn.out; have := hbn.out; omega
 have qo : Hid ((⟨#[91]⟩ ++ oU (gK ys rows yn)) ++ ⟨#[93]⟩ = nR ys rows) := aa (by rw [nR, hyn.out])
 obtain ⟨fin, hfin⟩ : ∃ z, nR ys rows = z := ⟨_, rfl⟩
 rw [hfin] at qo ⊢
 have hyl := hyn.out
 have hbl := hbn.out
 clear hfin hE hT hY hB e6 e1 e2 e3 e4
 subst Rp
 go_in
 go_upto_region 1 with (fail)
 rw [show w.alloc (dW Y bn yc B bn bc) = w0 from HW.out]
 obtain ⟨c0, c1⟩ := kC.out _ aA
 go_wp2_with fail
 clear c0 c1
 go_loopw [3, 12] (fun vp vi wr => ∃ (k : Nat), k ≤ bn ∧ vi = .int .i64 k ∧ Hid (kg wr w0.heap.size vp (gK ys rows k)) ∧ Hid (Below w0.heap.size w0 wr)) (fun _ vi _ => bn - (intOf vi).toNat)
 case atStart => exact ⟨0, by omega, rfl, aa (zR _ _), aA⟩
 case round =>
  obtain ⟨k, hk, rfl, HO, aF⟩ := hrel
  by_cases hlt : k < bn
  case neg =>
   obtain rfl : k = bn := by omega
   have hsz : (oU (gK ys rows k)).size ≤ 140737488355328 := by
    have h := uA (gK ys rows k) 1000 (fun x hx => by
     rw [gK, List.mem_map] at hx
     obtain ⟨i, hi, rfl⟩ := hx
     have hi2 := List.mem_range.1 hi
     have hn := SC.out i (by omega)
     have hl := ((kB.out _ aF).out i (by omega)).2.1
     have := wm (y := ys.getD i 0) hn.1 (rows.getD i aG).xs (fun j hj => hn.2.2 j (by omega))
     omega)
    rw [kI] at h
    have : k * (1000 + 2) ≤ 8 * (1000 + 2) := Nat.mul_le_mul_right _ (by omega)
    omega
   have HJ := aa (wM _ (gK ys rows k) _ wr HO (by rw [kI]; omega) hsz)
   obtain ⟨sj, hsj⟩ : ∃ z, oU (gK ys rows k) = z := ⟨_, rfl⟩
   rw [hsj] at HJ qo hsz
   have q1 : ¬ (9223372036854775807 < 1 + sj.size) := by omega
   have q2 : ¬ (9223372036854775807 < 1 + sj.size + 1) := by omega
   clear hsz hsj
   go_wp2_with fail
   refine HJ.out.mono ?_
   rintro e w2 ⟨rfl, hb2⟩
   have HB2 := cZ aF hb2
   clear hb2 HO HJ
   go_wp2
   go_ret
   exact ⟨by first | rw [← qo.out]; rfl | (simp only [qo.out]; rfl), gN av HB2⟩
  obtain ⟨bY, oY, TI, y0⟩ := (kY.out _ aF).out k (by omega)
  subst TI
  have hnk := SC.out k (by omega)
  have Vn : Hid (∀ u : World, Hid (Below w0.heap.size w0 u) → (∃ b o, B = some ⟨b, o, none⟩ ∧ u.cell? ⟨b, o + k, none⟩ = some (rows.getD k aG).val) ∧ l5 u (rows.getD k aG)) := aa (fun u hu => (kB.out u hu).out k (by omega))
  have hsucc := BI ys rows k
  obtain ⟨y, hy⟩ : ∃ z, ys.getD k 0 = z := ⟨_, rfl⟩
  obtain ⟨R, hR⟩ : ∃ z, rows.getD k aG = z := ⟨_, rfl⟩
  rw [hy] at y0
  rw [hy, hR] at hnk hsucc
  rw [hR] at Vn
  have Qj := aa hsucc
  clear hy hR hsucc
  obtain ⟨rp, rn, rc, KG⟩ := R
  obtain ⟨hny, hrn, hnx⟩ := hnk
  dsimp only at hrn hnx Qj
  have Q3 : rn ≤ 12 := by omega
  have lY : Hid (∀ j, j < rn → vQ (KG.getD j 0)) := aa (fun j hj => hnx j (by omega))
  have Xq := pJ (n := y) (by have := hny.1; omega) (by have := hny.2; omega)
  have Yz := aa (fun u hT => wN y (by have := hny.1; omega) (by have := hny.2; omega) u hT)
  have HNY := aa hny
  have sD : Hid (LV y ++ ⟨#[32, 61]⟩ = rU y (KG.take 0)) := aa (by rw [List.take_zero]; rfl)
  have hsz0 : (LV y ++ ⟨#[32, 61]⟩ : ByteArray).size ≤ 23 := by rw [ByteArray.size_append]; show _ + 2 ≤ _; omega
  obtain ⟨iy, Rb⟩ : ∃ z, LV y = z := ⟨_, rfl⟩
  rw [Rb] at Yz Xq sD hsz0
  have q1 : ¬ (9223372036854775807 < iy.size + 2) := by omega
  obtain ⟨c0, c1⟩ := kC.out _ aF
  clear hny hnx hrn Rb Xq
  go_wp2_with fail
  refine (Yz.out _ (kT.out _ aF)).mono ?_
  rintro e w2 ⟨rfl, hb2⟩
  have HB2 := cZ aF hb2
  have sH : Hid (kg w2 w0.heap.size _ (gK ys rows k)) := aa (HO.out.keep hb2)
  obtain ⟨⟨bB, oB, hBb, r0⟩, hrl, hrs⟩ := Vn.out _ HB2
  subst hBb
  rw [show (⟨rp, rn, rc, KG⟩ : Row).val = .slice rp rn rc from rfl] at r0
  dsimp only at hrl hrs
  have jl := aa hrl
  clear c0 c1 hb2 HO y0 hrs hrl
  obtain ⟨c0, c1⟩ := kC.out _ HB2
  go_wp2_with fail
  clear q1 c0 c1 r0
  obtain ⟨s0, hs0⟩ : ∃ z, (iy ++ ⟨#[32, 61]⟩ : ByteArray) = z := ⟨_, rfl⟩
  rw [hs0] at sD hsz0 ⊢
  clear hs0
  go_loopw [6, 26] (fun vs vj u => ∃ (j : Nat) (s : ByteArray), j ≤ rn ∧ vj = .int .i64 j ∧ vs = .string s ∧ s.size ≤ 23 + j * 22 ∧ Hid (s = rU y (KG.take j)) ∧ Hid (kg u w0.heap.size u3 (gK ys rows k)) ∧ Hid (Below w0.heap.size w0 u)) (fun _ vj _ => rn - (intOf vj).toNat)
  case atStart => exact ⟨0, s0, by omega, rfl, rfl, by omega, sD, sH, HB2⟩
  case round =>
   obtain ⟨j, s, hj, rfl, rfl, hss, HS, Sz, GK⟩ := hrel
   by_cases hlj : j < rn
   case neg =>
    obtain rfl : j = rn := by omega
    rw [List.take_of_length_le (by have := jl.out; omega)] at HS
    have hown : wr.ownsRow w0.heap.size 9 1 u3 k ((gK ys rows k).map Value.string) := by
     have h3 := Sz.out
     unfold kg at h3
     rwa [kI] at h3
    have hbs := GK.out.size
    go_wp2_with (at_builtin; refine wpList_append_own _ rfl _ _ 134 rfl w0.heap.size 9 i0 (.string ⟨#[]⟩) 1 16 Tryz.underlying134 hi hz0 hz1 hz2 rfl (by decide) _ _ _ rfl (hown.alloc _) ⟨wr.heap.size, 0, none⟩ 1 1 [.string s] rfl rfl (cell_one_new _ _ _) (fun v hv => by simp at hv; subst hv; rfl) (by unfold maxLen; omega) (by omega) (by simp; omega) ?_; intro v' w5 hown1 hgrow1 _)
    have zy : Hid (kg w5 w0.heap.size v' (gK ys rows (k + 1))) := aa (by
     rw [Qj.out, ← HS.out]
     exact kg.app (kI ys rows k).symm hown1)
    have mh : Hid (Below w0.heap.size w0 w5) := aa ((GK.out.alloc hbs _).grown hgrow1 (by simp; omega) (fun j hj => (World.ownsRow.lt Sz.out j hj).1))
    clear hown hown1 hgrow1 hbs Sz
    go_roundw
    case rel => exact ⟨k + 1, by omega, by go_num, zy, mh⟩
    case measure => simp [intOf]; omega
   obtain ⟨-, hrl, hrs⟩ := Vn.out _ GK
   dsimp only at hrs hrl
   obtain ⟨bR, oR, hRb, x0⟩ := hrs j (by omega)
   subst hRb
   have hnx := lY.out j (by omega)
   have htk := wh (y := y) (xs := KG) (j := j) (by omega)
   rw [← HS.out] at htk
   obtain ⟨x, hx⟩ : ∃ z, KG.getD j 0 = z := ⟨_, rfl⟩
   rw [hx] at x0 hnx htk
   have hix := pJ (n := x) (by have := hnx.1; omega) (by have := hnx.2; omega)
   have NC := aa (fun u hT => wN x (by have := hnx.1; omega) (by have := hnx.2; omega) u hT)
   obtain ⟨ix, Rc⟩ : ∃ z, LV x = z := ⟨_, rfl⟩
   rw [Rc] at NC hix htk
   have HS2 : Hid (s ++ (⟨#[32]⟩ ++ ix) = rU y (KG.take (j + 1))) := aa (by rw [htk]; rfl)
   have hs2 : (s ++ (⟨#[32]⟩ ++ ix) : ByteArray).size ≤ 23 + (j + 1) * 22 := by
    rw [ByteArray.size_append, ByteArray.size_append]
    have i3 : (⟨#[32]⟩ : ByteArray).size = 1 := rfl
    omega
   have q1 : ¬ (9223372036854775807 < 1 + ix.size) := by omega
   have q2 : ¬ (9223372036854775807 < s.size + (1 + ix.size)) := by omega
   clear hx Rc htk hnx hrl hrs hix
   go_wp2_with fail
   refine (NC.out _ (kT.out _ GK)).mono ?_
   rintro e w6 ⟨rfl, hb6⟩
   have iT := cZ GK hb6
   have oI : Hid (kg w6 w0.heap.size u3 (gK ys rows k)) := aa (Sz.out.keep hb6)
   clear hb6 x0 Sz
   go_wp2
   clear q1 q2
   go_roundw
   case rel => exact ⟨j + 1, _, by omega, by go_num, rfl, hs2, HS2, oI, iT⟩
   case measure => simp [intOf]; omega
mutual
def FT.tx : FT → ByteArray
 | ⟨kind, _, _, _, ys, _, _, _, rows, _, _, _, l⟩ => if kind = 1 then nR ys rows else (((if kind = 3 then ⟨#[111, 114]⟩ else ⟨#[97, 110, 100]⟩) ++ ⟨#[40]⟩) ++ oU (Qw l)) ++ ⟨#[41]⟩
def Qw : List FT → List ByteArray
 | [] => []
 | f :: l => f.tx :: Qw l
end
theorem GY : ∀ (l : List FT), Qw l = l.map FT.tx
 | [] => by rw [Qw]; rfl
 | f :: l => by rw [Qw, GY l]; rfl
theorem FT.tx_eq (f : FT) : f.tx = if f.kind = 1 then nR f.ys f.rows else (((if f.kind = 3 then ⟨#[111, 114]⟩ else ⟨#[97, 110, 100]⟩) ++ ⟨#[40]⟩) ++ oU (f.l.map FT.tx)) ++ ⟨#[41]⟩ := by
 cases f; rw [FT.tx, GY]
theorem BN {ys : List Int} {rows : List Row} {w : World} {B : Option Addr} (h : GM ys rows) (hB : Rw w B rows) : (nR ys rows).size ≤ 3000 ∧ 1 ≤ (nR ys rows).size := by
 obtain ⟨⟨e1, e2, e3, e4, e5⟩, e6⟩ := h
 have h := uA (gK ys rows ys.length) 300 (fun x hx => by
  rw [gK, List.mem_map] at hx
  obtain ⟨i, hi, rfl⟩ := hx
  have hi2 := List.mem_range.1 hi
  have hn := e6 i (by omega)
  have hl := (hB i (by omega)).2.1
  have := wm (y := ys.getD i 0) hn.1 (rows.getD i aG).xs (fun j hj => hn.2.2 j (by omega))
  omega)
 rw [kI] at h
 have h3 : ys.length * (300 + 2) ≤ 8 * (300 + 2) := Nat.mul_le_mul_right _ (by omega)
 rw [nR, ByteArray.size_append, ByteArray.size_append]
 have i3 : (⟨#[91]⟩ : ByteArray).size = 1 := rfl
 have i4 : (⟨#[93]⟩ : ByteArray).size = 1 := rfl
 omega
theorem sJ {w : World} : ∀ (d : Nat) (f : FT), f.dp ≤ d → dU w f → f.fm → f.tx.size ≤ 3000 * 10 ^ d ∧ 1 ≤ f.tx.size
 | 0, f, h, _, _ => by have := f.dp_eq; omega
 | d + 1, f, h, hF, hm => by
  rw [f.tx_eq]
  have hp : 1 ≤ 10 ^ d := Nat.pos_of_ne_zero (by simp)
  have hl := hF.lens
  rcases f.fm_eq.1 hm with ⟨k1, k2, k3⟩ | ⟨k1, k2, k3, k4, k5⟩
  ·
   rw [if_pos k1]
   have h1 := BN k3 hF.rel.2
   rw [Nat.pow_succ]
   omega
  ·
   rw [if_neg (by omega)]
   have h1 := uA (f.l.map FT.tx) (3000 * 10 ^ d) (fun x hx => by
    obtain ⟨y, hy, rfl⟩ := List.mem_map.1 hx
    obtain ⟨i, hi, rfl⟩ := List.mem_iff_getElem.1 hy
    obtain ⟨_, _, _, _, _, _, _, hX⟩ := hF.kid (k := i) (by omega)
    have hg : f.l.getD i aY = f.l[i] := by rw [List.getD_eq_getElem?_getD, List.getElem?_eq_getElem hi]; rfl
    have := sJ d _ (FT.kid_dp h hi) hX (k5 i hi)
    rw [hg] at this
    exact this.1)
   rw [List.length_map] at h1
   have h2 : f.l.length * (3000 * 10 ^ d + 2) ≤ 8 * (3000 * 10 ^ d + 2) := Nat.mul_le_mul_right _ k4.2
   rw [ByteArray.size_append, ByteArray.size_append, ByteArray.size_append, Nat.pow_succ]
   have i3 : (⟨#[40]⟩ : ByteArray).size = 1 := rfl
   have i4 : (⟨#[41]⟩ : ByteArray).size = 1 := rfl
   have i5 : (if f.kind = 3 then (⟨#[111, 114]⟩ : ByteArray) else ⟨#[97, 110, 100]⟩).size ≤ 3 := by
    split
    · show 2 ≤ 3; omega
    · show 3 ≤ 3; omega
   omega
theorem G6 {l : List FT} {k : Nat} (h : k < l.length) : (l.take (k + 1)).map FT.tx = (l.take k).map FT.tx ++ [(l.getD k aY).tx] := by
 rw [nk h, List.map_append]; rfl
theorem FW : ∀ (d : Nat), d ≤ 6 → ∀ (f : FT) (w : World), f.dp ≤ d → Hid (iP w) → Hid (dU w f) → f.fm → Calls Tryz.prog 66 #[fV f] w (Rt w (.string f.tx)) := by
 intro d
 induction d with
 | zero => intro _ f _ h; have := f.dp_eq; omega
 | succ d ih =>
  intro hd6 f w hd hT hF hm
  have ih := aa (ih (by omega))
  have HM := aa (f.fm_eq.1 hm)
  have Gj := aa f.tx_eq
  have hszA := (sJ (d + 1) f hd hF.out hm).1
  have hpw : 3000 * 10 ^ (d + 1) ≤ 3000 * 10 ^ 6 := Nat.mul_le_mul_left _ (Nat.pow_le_pow_right (by omega) hd6)
  obtain ⟨fin, hfin⟩ : ∃ z, f.tx = z := ⟨_, rfl⟩
  rw [hfin] at Gj hszA ⊢
  have UK : fin.size ≤ 3000000000 := by omega
  have HDK : Hid (∀ k, k < f.l.length → (f.l.getD k aY).dp ≤ d) := aa (fun k hk => FT.kid_dp hd hk)
  clear hfin hm hd hszA hpw
  obtain ⟨i0, hi, hz0, hz1, hz2⟩ := info_parts Dz
  obtain ⟨kind, Y, yn, yc, ys, B, bn, bc, rows, L, ln, lc, l⟩ := f
  obtain ⟨hyn, hbn, hln, hlb⟩ := hF.out.lens
  dsimp only at hyn hbn hln hlb HM Gj HDK
  obtain ⟨w0, HW, av, kC⟩ := st1 (fO kind Y yn yc B bn bc L ln lc) qQ w
  have kF := sM av hF
  have kT := LH av hT
  have aA := dS w0
  clear hF hT
  go_in
  go_upto_region 1 with (fail)
  rw [show w.alloc (fO kind Y yn yc B bn bc L ln lc) = w0 from HW.out]
  obtain ⟨c0, c1, c2, c3⟩ := kC.out _ aA
  by_cases hk1 : kind = 1
  ·
   have d1 : (kind == 1) = true := by simp [hk1]
   have hE : Hid (GM ys rows) := aa (by
    rcases HM.out with ⟨_, _, h⟩ | ⟨h, _⟩
    · exact h
    · omega)
   have HR : Hid (nR ys rows = fin) := aa (by rw [Gj.out, if_pos hk1])
   clear hk1
   go_wp2_with fail
   refine (Jr Y ys yn yc B rows bn bc hE (aa hyn) (aa hbn) _ (kT.out _ aA) (aa (kF.out _ aA).out.rel.1) (aa (kF.out _ aA).out.rel.2)).mono ?_
   rintro e w2 ⟨rfl, hb2⟩
   rw [HR.out]
   have HB2 := cZ aA hb2
   clear hb2 c0 c1 c2 c3 d1
   go_wp2
   go_ret
   exact ⟨rfl, gN av HB2⟩
  have d1 : (kind == 1) = false := by simp [hk1]
  obtain ⟨Co, hl1, Ak, hsub⟩ : (kind = 2 ∨ kind = 3) ∧ 1 ≤ l.length ∧ l.length ≤ 8 ∧ ∀ k, k < l.length → (l.getD k aY).fm := by
   rcases HM.out with ⟨h, _⟩ | ⟨a, _, _, b, c⟩
   · omega
   · exact ⟨a, b.1, b.2, c⟩
  have Kl := aa hsub
  have Gi : Hid ((((if kind = 3 then ⟨#[111, 114]⟩ else ⟨#[97, 110, 100]⟩) ++ ⟨#[40]⟩) ++ oU (l.map FT.tx)) ++ ⟨#[41]⟩ = fin) := aa (by rw [Gj.out, if_neg hk1])
  have Zm : ln ≤ 8 := by omega
  clear Gj HM hsub hl1 Ak hk1
  go_wp2_with fail
  clear c0 c1 c2 c3 d1
  go_loopw [3, 16] (fun vp vi wr => ∃ (k : Nat), k ≤ ln ∧ vi = .int .i64 k ∧ Hid (kg wr w0.heap.size vp ((l.take k).map FT.tx)) ∧ Hid (Below w0.heap.size w0 wr)) (fun _ vi _ => ln - (intOf vi).toNat)
  case atStart => exact ⟨0, by omega, rfl, aa (zR _ _), aA⟩
  case round =>
   obtain ⟨k, hk, rfl, HO, aF⟩ := hrel
   by_cases hlt : k < ln
   case neg =>
    obtain rfl : k = ln := by omega
    rw [List.take_of_length_le (by omega)] at HO
    have hsj : (oU (l.map FT.tx)).size ≤ 3000000000 := by
     have h := UK
     rw [← Gi.out, ByteArray.size_append, ByteArray.size_append] at h
     omega
    have HJ := aa (wM _ (l.map FT.tx) _ wr HO (by rw [List.length_map]; omega) (by omega))
    obtain ⟨sj, QY⟩ : ∃ z, oU (l.map FT.tx) = z := ⟨_, rfl⟩
    rw [QY] at HJ Gi hsj
    clear QY
    obtain ⟨c0, c1, c2, c3⟩ := kC.out _ aF
    rcases Co with rfl | rfl
    ·
     have HF : Hid (((⟨#[97, 110, 100]⟩ ++ ⟨#[40]⟩) ++ sj) ++ ⟨#[41]⟩ = fin) := Gi
     clear Gi
     go_wp2_with fail
     refine HJ.out.mono ?_
     rintro e w2 ⟨rfl, hb2⟩
     have HB2 := cZ aF hb2
     have q0 : (⟨#[97, 110, 100]⟩ ++ ⟨#[40]⟩ : ByteArray).size = 4 := rfl
     have q1 : ¬ (9223372036854775807 < (⟨#[97, 110, 100]⟩ ++ ⟨#[40]⟩ : ByteArray).size + sj.size) := by omega
     have q2 : ¬ (9223372036854775807 < (⟨#[97, 110, 100]⟩ ++ ⟨#[40]⟩ : ByteArray).size + sj.size + 1) := by omega
     have q3 : ¬ (9223372036854775807 < 4 + sj.size) := by omega
     have q4 : ¬ (9223372036854775807 < 4 + sj.size + 1) := by omega
     clear hb2 HO HJ c0 c1 c2 c3 q0
     go_wp2
     go_ret
     exact ⟨by first | rw [← HF.out]; rfl | (simp only [HF.out]; rfl), gN av HB2⟩
    ·
     have HF : Hid (((⟨#[111, 114]⟩ ++ ⟨#[40]⟩) ++ sj) ++ ⟨#[41]⟩ = fin) := Gi
     clear Gi
     go_wp2_with fail
     refine HJ.out.mono ?_
     rintro e w2 ⟨rfl, hb2⟩
     have HB2 := cZ aF hb2
     have q0 : (⟨#[111, 114]⟩ ++ ⟨#[40]⟩ : ByteArray).size = 3 := rfl
     have q1 : ¬ (9223372036854775807 < (⟨#[111, 114]⟩ ++ ⟨#[40]⟩ : ByteArray).size + sj.size) := by omega
     have q2 : ¬ (9223372036854775807 < (⟨#[111, 114]⟩ ++ ⟨#[40]⟩ : ByteArray).size + sj.size + 1) := by omega
     have q3 : ¬ (9223372036854775807 < 3 + sj.size) := by omega
     have q4 : ¬ (9223372036854775807 < 3 + sj.size + 1) := by omega
     clear hb2 HO HJ c0 c1 c2 c3 q0
     go_wp2
     go_ret
     exact ⟨by first | rw [← HF.out]; rfl | (simp only [HF.out]; rfl), gN av HB2⟩
   have hkl : k < l.length := by omega
   obtain ⟨b, o, hL, I7, i1, i2, i3, gV⟩ := (kF.out _ aF).out.kid (k := k) hlt
   dsimp only at hL I7 i1 i2 i3 gV
   subst hL
   have htk := G6 hkl
   have hfx := Kl.out k hkl
   have Gw := HDK.out k hkl
   obtain ⟨x, hx⟩ : ∃ x, l.getD k aY = x := ⟨_, rfl⟩
   rw [hx] at I7 i1 i2 i3 gV htk hfx Gw
   have HX := aa gV
   have fQ := aa (fun u hT hF => ih.out x u Gw hT hF hfx)
   obtain ⟨xs, hxs⟩ : ∃ z, x.tx = z := ⟨_, rfl⟩
   rw [hxs] at htk fQ
   have Et := aa htk
   have hbs := aF.out.size
   clear gV hx hkl htk hfx Gw hxs
   obtain ⟨xk, xY, jL, jM, xys, xB, jN, jO, fE, xL, jm, jo, xl⟩ := x
   dsimp only at I7 i1 i2 i3
   go_upto_region 7 with (fail)
   obtain ⟨w3, hw3, HB3, -, -, kz⟩ := su (fO xk xY jL jM xB jN jO xL jm jo) qQ wr
   rw [hw3]
   obtain ⟨z0, z1, z2, z3⟩ := kz.out _ (dS w3)
   have fC := nK aF HB3
   have qW : Hid (kg w3 w0.heap.size u3 ((l.take k).map FT.tx)) := aa (HO.out.keep HB3.out)
   clear I7 i1 i2 i3 hw3 HO hbs
   go_wp2_with fail
   refine (fQ.out _ (kT.out _ fC) (aa (dU.below HB3.out HX.out))).mono ?_
   rintro e w4 ⟨rfl, hb4⟩
   have gI := cZ fC hb4
   have sG : Hid (kg w4 w0.heap.size u3 ((l.take k).map FT.tx)) := aa (qW.out.keep hb4)
   have hown : w4.ownsRow w0.heap.size 9 1 u3 k (((l.take k).map FT.tx).map Value.string) := by
    have h3 := sG.out
    unfold kg at h3
    rwa [List.length_map, List.length_take, Nat.min_eq_left (by omega)] at h3
   have hbs := gI.out.size
   clear hb4 z0 z1 z2 z3 qW
   go_wp2_with (at_builtin; refine wpList_append_own _ rfl _ _ 134 rfl w0.heap.size 9 i0 (.string ⟨#[]⟩) 1 16 Tryz.underlying134 hi hz0 hz1 hz2 rfl (by decide) _ _ _ rfl (hown.alloc _) ⟨w4.heap.size, 0, none⟩ 1 1 [.string xs] rfl rfl (cell_one_new _ _ _) (fun v hv => by simp at hv; subst hv; rfl) (by unfold maxLen; omega) (by omega) (by simp; omega) ?_; intro v' w5 hown1 hgrow1 _)
   have zy : Hid (kg w5 w0.heap.size v' ((l.take (k + 1)).map FT.tx)) := aa (by
    rw [Et.out]
    exact kg.app (by rw [List.length_map, List.length_take, Nat.min_eq_left (by omega)]) hown1)
   have mh : Hid (Below w0.heap.size w0 w5) := aa ((gI.out.alloc hbs _).grown hgrow1 (by simp; omega) (fun j hj => (World.ownsRow.lt sG.out j hj).1))
   clear hown hown1 hgrow1 hbs sG
   go_roundw
   case rel => exact ⟨k + 1, by omega, by go_num, zy, mh⟩
   case measure => simp [intOf]; omega
def P_ (f : FT) : Value := if 8000 < f.tx.size then .tuple #[.string ⟨#[]⟩, .int .i64 5] else .tuple #[.string f.tx, .int .i64 0]
theorem wR {P Q G : Int} (f : FT) (w : World) (hT : Hid (iP w)) (hF : Hid (dU w f)) (hV : Hid (VF P Q G f)) :
  Calls Tryz.prog 28 #[fV f] w (Rt w (P_ f)) := by
 have HFO := aa (fun u hF => CO (P := P) (Q := Q) (G := G) f u hF hV)
 have Ta := aa (fun u hT hF => FW 6 (by omega) f u hV.out.d hT hF (Au f.dp f (Nat.le_refl _) (Hid.out hF) hV.out.s hV.out.a))
 have Ml : Hid (P_ f = if 8000 < f.tx.size then .tuple #[.string ⟨#[]⟩, .int .i64 5] else .tuple #[.string f.tx, .int .i64 0]) := aa rfl
 obtain ⟨s, hs⟩ : ∃ z, f.tx = z := ⟨_, rfl⟩
 obtain ⟨V, XB⟩ : ∃ z, P_ f = z := ⟨_, rfl⟩
 rw [hs] at Ta Ml
 rw [XB] at Ml ⊢
 clear hs XB hV
 obtain ⟨kind, Y, yn, yc, ys, B, bn, bc, rows, L, ln, lc, l⟩ := f
 obtain ⟨w0, HW, av, kC⟩ := st1 (fO kind Y yn yc B bn bc L ln lc) qQ w
 have kF := sM av hF
 have kT := LH av hT
 have aA := dS w0
 clear hF hT
 go_in
 go_upto_region 1 with (fail)
 rw [show w.alloc (fO kind Y yn yc B bn bc L ln lc) = w0 from HW.out]
 have zc := kC.out _ aA
 go_wp2_with fail
 refine JM kC aA (HFO.out _ (kF.out _ aA)) fun w1 bF zc => ?_
 go_wp2_with fail
 refine JM kC bF (Ta.out _ (kT.out _ bF) (kF.out _ bF)) fun w2 fD zc => ?_
 clear zc
 by_cases hbig : 8000 < s.size
 ·
  have d1 : decide ((8000 : Int) < (s.size : Int)) = true := by simp; omega
  have gT : Hid (V = .tuple #[.string ⟨#[]⟩, .int .i64 5]) := aa (by rw [Ml.out, if_pos hbig])
  clear Ml
  go_wp2
  go_ret2
  exact ⟨by rw [gT.out]; rfl, gN av fD⟩
 ·
  have d1 : decide ((8000 : Int) < (s.size : Int)) = false := by simp; omega
  have gT : Hid (V = .tuple #[.string s, .int .i64 0]) := aa (by rw [Ml.out, if_neg hbig])
  clear Ml
  go_wp2
  go_ret2
  exact ⟨by rw [gT.out]; rfl, gN av fD⟩
mutual
def FT.com : FT → TT → List Row
 | ⟨kind, _, _, _, _, _, _, _, _, _, _, _, l⟩, t => if kind = 1 then [⟨t.A, t.na, t.ca, t.al⟩] else iO l t.l
def iO : List FT → List TT → List Row
 | f :: l, t :: ts => f.com t ++ iO l ts
 | _, _ => []
end
theorem FT.com_eq (f : FT) (t : TT) : f.com t = if f.kind = 1 then [⟨t.A, t.na, t.ca, t.al⟩] else iO f.l t.l := by cases f; rw [FT.com]
theorem kR (ts : List TT) : iO [] ts = [] := by rw [iO]; simp
theorem wZ : ∀ (l : List FT) (ts : List TT) (k : Nat), k < l.length → k < ts.length → iO (l.take (k + 1)) (ts.take (k + 1)) = iO (l.take k) (ts.take k) ++ (l.getD k aY).com (ts.getD k noT)
 | [], _, k, h, _ => by simp at h
 | _ :: _, [], k, _, h => by simp at h
 | f :: l, t :: ts, 0, _, _ => by simp only [List.take_succ_cons, List.take_zero, iO, kR, List.getD_cons_zero, List.append_nil, List.nil_append]
 | f :: l, t :: ts, k + 1, h, h2 => by
  have ih := wZ l ts k (by simpa using h) (by simpa using h2)
  rw [List.take_succ_cons, List.take_succ_cons, iO, ih, List.take_succ_cons, List.take_succ_cons, iO, List.append_assoc, List.getD_cons_succ, List.getD_cons_succ]
theorem AR : ∀ (l : List FT) (ts : List TT) (k : Nat), (∀ j, j < l.length → j < ts.length → 1 ≤ ((l.getD j aY).com (ts.getD j noT)).length ∧ ((l.getD j aY).com (ts.getD j noT)).length ≤ (l.getD j aY).nd) → ts.length = l.length → 0 < l.length → 1 ≤ (iO l ts).length ∧ (iO l ts).length ≤ lQ l
 | [], _, _, _, _, h => by simp at h
 | _ :: _, [], _, _, h, _ => by simp at h
 | f :: l, t :: ts, k, h, hl, _ => by
  have h0 := h 0 (by simp) (by simp)
  rw [iO, List.length_append, lQ]
  simp only [List.getD_cons_zero] at h0
  by_cases hz : 0 < l.length
  ·
   have ih := AR l ts k (fun j hj hj2 => by have := h (j + 1) (by simpa using hj) (by simpa using hj2); rwa [List.getD_cons_succ, List.getD_cons_succ] at this) (by simpa using hl) hz
   omega
  ·
   have e : l = [] := List.eq_nil_of_length_eq_zero (by omega)
   subst e
   rw [kR]
   simp only [List.length_nil]
   omega
theorem sS {P Q : Int} : ∀ (d : Nat) (f : FT) (t : TT), f.dp ≤ d → f.sh → f.acc P Q t → 1 ≤ (f.com t).length ∧ (f.com t).length ≤ f.nd
 | 0, f, _, h, _, _ => by have := f.dp_eq; omega
 | d + 1, f, t, h, hs, ha => by
  rw [f.com_eq]
  by_cases hk : f.kind = 1
  · rw [if_pos hk]; exact ⟨Nat.le_refl _, uq f⟩
  ·
   rw [if_neg hk]
   rcases f.sh_eq.1 hs with ⟨k1, _⟩ | ⟨_, _, _, k4, k5⟩
   · exact absurd k1 hk
   ·
    obtain ⟨-, ⟨a1, _⟩ | ⟨_, _, a3, a4, _⟩⟩ := (f.acc_eq t).1 ha
    · exact absurd a1 hk
    ·
     have := AR f.l t.l 0 (fun j hj _ => sS d _ _ (FT.kid_dp h hj) (k5 j hj) (a4 j hj)) a3 (by omega)
     have e := f.nd_eq
     omega
theorem DF : (Tryz.prog.info? 24).map (fun i => (i.zero, i.size, i.bytes)) = some (some (.slice none 0 0), 1, 24) := by kernel_rfl
def gH (w : World) (base : Nat) (v : Value) (rs : List Row) : Prop := w.ownsRow base 24 1 v rs.length (rs.map Row.val)
theorem zT (w : World) (base : Nat) : gH w base (.slice none 0 0) [] := World.ownsRow_nil _ _ _ _
theorem gH.keep {w w' : World} {B : Nat} {v : Value} {rs : List Row} (h : gH w B v rs) (hb : Below w.heap.size w w') : gH w' B v rs := by
 obtain ⟨h1, h2⟩ := h
 refine ⟨h1, h2.imp id ?_⟩
 rintro ⟨g, cap, cur, rfl, hg, hh, rest⟩
 exact ⟨g, cap, cur, rfl, hg, (hb.block g (Array.getElem?_eq_some_iff.1 hh).1).trans hh, rest⟩
theorem gH.app {w1 : World} {base k m : Nat} {v' : Value} {rs r2 : List Row} (hk : k = rs.length) (hm : m = r2.length)
  (h : w1.ownsRow base 24 1 v' (k + m) (rs.map Row.val ++ r2.map Row.val)) : gH w1 base v' (rs ++ r2) := by
 unfold gH
 rw [List.length_append, List.map_append, ← hk, ← hm]
 exact h
theorem gH.one (w : World) (B : Nat) (hB : B ≤ w.heap.size) (r : Row) : gH (w.alloc (.cells #[r.val] 24)) B (.slice (some ⟨w.heap.size, 0, none⟩) 1 1) [r] := by
 refine ⟨rfl, .inr ⟨w.heap.size, 1, #[r.val], rfl, hB, heap_alloc_new _ _, ?_, ?_, ?_, ?_⟩⟩
 · first | exact Nat.le_refl _ | decide
 · unfold maxLen; decide
 · rfl
 · rfl
theorem gH.form {w : World} {B : Nat} {v : Value} {rs : List Row} (h : gH w B v rs) (h0 : 0 < rs.length) : ∃ g cap, v = .slice (some ⟨g, 0, none⟩) rs.length cap ∧ B ≤ g ∧ g < w.heap.size ∧ ∀ j u, (rs.map Row.val)[j]? = some u → w.cell? ⟨g, j, none⟩ = some u := by
 obtain ⟨h1, h2⟩ := h
 rcases h2 with ⟨_, h3⟩ | ⟨g, cap, cur, rfl, hg, hh, hn, hc, hs, ht⟩
 · omega
 ·
  refine ⟨g, cap, rfl, hg, (Array.getElem?_eq_some_iff.1 hh).1, fun j u hj => ?_⟩
  have hlt : j < rs.length := by have := (List.getElem?_eq_some_iff.1 hj).1; rwa [List.length_map] at this
  rw [aj hh, ← Array.getElem?_toList, ← hj, ← ht, List.getElem?_take_of_lt (by omega)]
theorem zI (P Q : Int) : ∀ (d : Nat) (f : FT) (t : TT) (w : World), f.dp ≤ d → f.nd ≤ 30 → Hid (dU w f) → Hid (bI w t) → f.sh → f.acc P Q t →
  Calls Tryz.prog 33 #[fV f, tV t] w (fun e w' => ∃ v, e = .returned v ∧ gH w' w.heap.size v (f.com t) ∧ Below w.heap.size w w') := by
 intro d
 induction d with
 | zero => intro f _ _ h; have := f.dp_eq; omega
 | succ d ih =>
  intro f t w hd Ox hF hT hs ha
  have ih := aa ih
  have HCM := aa (f.com_eq t)
  have Ns := (f.acc_eq (P := P) (Q := Q) t).1 ha
  have KJ := f.sh_eq.1 hs
  have OJ := f.nd_eq
  have HDK : Hid (∀ k, k < f.l.length → (f.l.getD k aY).dp ≤ d) := aa (fun k hk => FT.kid_dp hd hk)
  obtain ⟨cm, hcm⟩ : ∃ z, f.com t = z := ⟨_, rfl⟩
  rw [hcm] at HCM ⊢
  clear hcm hs ha hd
  obtain ⟨kind, Y, yn, yc, ys, B, bn, bc, rows, L, ln, lc, l⟩ := f
  obtain ⟨tc, A, na, ca, al, pc, Zp, nz, cz, zs, TL, tn, fU, tl⟩ := t
  obtain ⟨hyn, hbn, hln, hlb⟩ := hF.out.lens
  obtain ⟨iV, hzn, htn, htb⟩ := hT.out.lens
  dsimp only at hyn hbn hln hlb iV hzn htn htb HCM Ns KJ HDK OJ
  obtain ⟨w0, HW, av, kC⟩ := st2 (fO kind Y yn yc B bn bc L ln lc) KN (tO tc A na ca pc Zp nz cz TL tn fU) Br w
  have kF := sM av hF
  have kT := Gu av hT
  have aA := dS w0
  have hsz : w.heap.size ≤ w0.heap.size := av.out.size
  clear hF hT
  go_in
  go_upto_region 1 with (fail)
  rw [show (w.alloc (fO kind Y yn yc B bn bc L ln lc)).alloc (tO tc A na ca pc Zp nz cz TL tn fU) = w0 from HW.out]
  obtain ⟨c0, c1, c2, c3, e0, e1, e2, e3, e4⟩ := kC.out _ aA
  by_cases hk1 : kind = 1
  ·
   have d1 : (kind == 1) = true := by simp [hk1]
   have HR : Hid (cm = [⟨A, na, ca, al⟩]) := aa (by rw [HCM.out, if_pos hk1])
   clear hk1 Ns KJ HCM
   go_wp2
   go_ret
   exact ⟨_, rfl, by rw [HR.out]; exact gH.one w0 w.heap.size hsz ⟨A, na, ca, al⟩, af av.out (ai _ _)⟩
  have d1 : (kind == 1) = false := by simp [hk1]
  obtain ⟨hl1, Ak, Ah⟩ : 1 ≤ l.length ∧ l.length ≤ 8 ∧ ∀ k, k < l.length → (l.getD k aY).sh := by
   rcases KJ with ⟨h, _⟩ | ⟨_, _, _, b, c⟩
   · omega
   · exact ⟨b.1, b.2, c⟩
  obtain ⟨hlen, Np⟩ : tl.length = l.length ∧ ∀ k, k < l.length → (l.getD k aY).acc P Q (tl.getD k noT) := by
   rcases Ns.2 with ⟨h, _⟩ | ⟨_, _, a, b, _⟩
   · omega
   · exact ⟨a, b⟩
  have Gl := aa Ah
  have HAS := aa Np
  have PO : Hid (cm = iO l tl) := aa (by rw [HCM.out, if_neg hk1])
  have Q6 : lQ l ≤ 29 := by omega
  obtain rfl : ln = tn := by omega
  obtain ⟨i0, hi, hz0, hz1, hz2⟩ := info_parts DF
  clear hk1 Ns KJ HCM Ah Np OJ
  go_wp2_with fail
  clear c0 c1 c2 c3 e0 e1 e2 e3 e4 d1
  go_loopw [5, 18] (fun vp vi wr => ∃ (k : Nat), k ≤ ln ∧ vi = .int .i64 k ∧ Hid (gH wr w0.heap.size vp (iO (l.take k) (tl.take k))) ∧ (iO (l.take k) (tl.take k)).length ≤ lQ (l.take k) ∧ Hid (Below w0.heap.size w0 wr)) (fun _ vi _ => ln - (intOf vi).toNat)
  case atStart => exact ⟨0, by omega, rfl, aa (by simpa [kR] using zT _ _), by simp [kR], aA⟩
  case round =>
   obtain ⟨k, hk, rfl, HO, hcl, aF⟩ := hrel
   by_cases hlt : k < ln
   case neg =>
    obtain rfl : k = ln := by omega
    rw [List.take_of_length_le (by omega), List.take_of_length_le (by omega)] at HO
    have HR : Hid (iO l tl = cm) := aa PO.out.symm
    have hOr : Hid (gH wr w.heap.size u5 cm) := aa (by
     rw [← HR.out]
     obtain ⟨h1, h2⟩ := HO.out
     refine ⟨h1, h2.imp id ?_⟩
     rintro ⟨g, cap, cur, rfl, hg, rest⟩
     exact ⟨g, cap, cur, rfl, by omega, rest⟩)
    clear HO hcl
    go_wp2
    go_ret
    exact ⟨_, rfl, hOr.out, gN av aF⟩
   have hkl : k < l.length := by omega
   have hkt : k < tl.length := by omega
   obtain ⟨b, o, hL, I7, i1, i2, i3, gV⟩ := (kF.out _ aF).out.kid (k := k) hlt
   dsimp only at hL I7 i1 i2 i3 gV
   subst hL
   have htk := wZ l tl k hkl hkt
   have hnk := pq hkl
   have UR := jU (l := l) (k + 1)
   have Rl := sS (P := P) (Q := Q) d (l.getD k aY) (tl.getD k noT) (HDK.out k hkl) (Gl.out k hkl) (HAS.out k hkl)
   have hsx := Gl.out k hkl
   have hax := HAS.out k hkl
   have Gw := HDK.out k hkl
   obtain ⟨x, hx⟩ : ∃ x, l.getD k aY = x := ⟨_, rfl⟩
   obtain ⟨y, hy⟩ : ∃ y, tl.getD k noT = y := ⟨_, rfl⟩
   rw [hx] at I7 i1 i2 i3 gV hsx Gw hnk
   rw [hx, hy] at htk Rl hax
   have HX := aa gV
   have fQ := aa (fun u hF hT => ih.out x y u Gw (by omega) hF hT hsx hax)
   have gu : Hid (∀ u : World, Hid (Below w0.heap.size w0 u) → ∃ b o, TL = some ⟨b, o, none⟩ ∧ u.cell? ⟨b, o + k * 5, none⟩ = some (.int .i64 y.c) ∧ u.cell? ⟨b, o + k * 5 + 1, none⟩ = some (.slice y.A y.na y.ca) ∧ u.cell? ⟨b, o + k * 5 + 2, none⟩ = some (.int .i64 y.pc) ∧ u.cell? ⟨b, o + k * 5 + 3, none⟩ = some (.slice y.Z y.nz y.cz) ∧ u.cell? ⟨b, o + k * 5 + 4, none⟩ = some (.slice y.L y.ln y.lc) ∧ bI u y) := aa (fun u hu => by
    have h := (kT.out _ hu).out.kid (k := k) hlt
    dsimp only at h
    rw [hy] at h
    exact h)
   obtain ⟨rx, hrx⟩ : ∃ z, x.com y = z := ⟨_, rfl⟩
   rw [hrx] at htk Rl fQ
   have Et := aa htk
   clear gV hx hy hkl hkt hsx hax Gw htk hrx
   obtain ⟨xk, xY, jL, jM, xys, xB, jN, jO, fE, xL, jm, jo, xl⟩ := x
   dsimp only at I7 i1 i2 i3
   go_upto_region 7 with (fail)
   obtain ⟨w3, hw3, HB3, -, -, kz⟩ := su (fO xk xY jL jM xB jN jO xL jm jo) qQ wr
   rw [hw3]
   clear hw3 I7 i1 i2 i3
   have fC := nK aF HB3
   obtain ⟨z0, z1, z2, z3⟩ := kz.out _ (dS w3)
   obtain ⟨-, -, -, -, e0, e1, e2, e3, e4⟩ := kC.out _ fC
   obtain ⟨bt, ot, hTL, j0, j1, j2, j3, j4, hTy⟩ := gu.out _ fC
   subst hTL
   have m_ := sM HB3 HX
   have Dh := Gu (dS w3) (aa hTy)
   have qW : Hid (gH w3 w0.heap.size u5 (iO (l.take k) (tl.take k))) := aa (HO.out.keep HB3.out)
   clear hTy HX kz gu HO
   obtain ⟨nI, yA, Ux, UB, UC, Uv, yZ, Uw, UA, Uu, yL, Uy, Uz, yl⟩ := y
   dsimp only at j0 j1 j2 j3 j4
   have hO := aa (fun (u : World) (hu : Hid (Below w3.heap.size w3 u)) => And.intro (cell_below e0 hu.out) (And.intro (cell_below e1 hu.out) (And.intro (cell_below e2 hu.out) (And.intro (cell_below e3 hu.out) (And.intro (cell_below e4 hu.out) (And.intro (cell_below z0 hu.out) (And.intro (cell_below z1 hu.out) (And.intro (cell_below z2 hu.out) (And.intro (cell_below z3 hu.out) (And.intro (cell_below j0 hu.out) (And.intro (cell_below j1 hu.out) (And.intro (cell_below j2 hu.out) (And.intro (cell_below j3 hu.out) (cell_below j4 hu.out))))))))))))))
   clear e0 e1 e2 e3 e4 z0 z1 z2 z3 j0 j1 j2 j3 j4
   refine je [8, 9] (dS w3) (fun hHeld => ?_)
   refine aX 0 1 2 3 ?_
   refine aQ 4 ?_
   refine aQ 5 ?_
   refine aQ 6 ?_
   refine dO 7 fun K hK => ?_
   go_simp
   refine (fQ.out _ (m_.out _ hHeld) (Dh.out _ hHeld)).mono ?_
   rintro e wA ⟨vA, rfl, I_, bA⟩
   refine hK.out _ _ (cZ hHeld bA) (fun hHeld => ?_)
   clear hK K
   obtain ⟨gA, C_, Oj, -, -, hcA⟩ := gH.form I_ (by omega)
   subst Oj
   have sG : gH wA w0.heap.size u5 (iO (l.take k) (tl.take k)) := qW.out.keep hHeld.out
   have hbs := (nK fC hHeld).out.size
   refine mo 8 fun K hK => ?_
   rw [show (if Region.wanted _ _ = true then _ else _ : Prop) = _ from if_pos rfl]
   refine wp_append_own _ _ _ 25 rfl w0.heap.size 24 i0 (.slice none 0 0) 1 24 Tryz.underlying25 hi hz0 hz1 hz2 rfl (by decide) u5 _ _ rfl sG ⟨gA, 0, none⟩ rx.length C_ (rx.map Row.val) rfl (by simp) (fun j u hj => by
    have h := hcA j u hj
    by_cases e : j = 0
    · subst e; simpa [Addr.add] using h
    · simpa [Addr.add, e] using h) (fun v hv => by obtain ⟨r, _, rfl⟩ := List.mem_map.1 hv; rfl) (by unfold maxLen; omega) (by omega) hbs ?_
   intro v5 w5 hown5 ow _
   refine hK.out _ _ ?_
   clear hK K
   refine mo 9 fun K hK => ?_
   go_simp
   refine hK.out _ _ ?_
   clear hK K
   refine jf ?_
   clear hO
   have zy : Hid (gH w5 w0.heap.size v5 (iO (l.take (k + 1)) (tl.take (k + 1)))) := aa (by
    rw [Et.out]
    exact gH.app rfl rfl hown5)
   have mh : Hid (Below w0.heap.size w0 w5) := aa ((nK fC hHeld).out.grown ow hbs (fun j hj => (World.ownsRow.lt sG j hj).1))
   have OD : (iO (l.take (k + 1)) (tl.take (k + 1))).length ≤ lQ (l.take (k + 1)) := by rw [Et.out, List.length_append]; omega
   clear hown5 ow hbs sG hHeld I_ hcA bA
   go_wp2
   go_roundw
   case rel => exact ⟨k + 1, by omega, by go_num, zy, OD, mh⟩
   case measure => simp [intOf]; omega
theorem Mv (h : List Int) (hl : Hid (h.length = 32)) (hb : Hid (aH h = true)) (c : Int) (hc0 : 0 ≤ c) (hc1 : c < 1000) (s : ByteArray) (hs : s.size ≤ 1000) (hr : Hid (jB (bP s) = true)) (item : It) (cI : Ic) (hfi : Hid (fits 7 item)) (hle : Hid ((enc item).length ≤ 14000)) (a e0 B : Nat) (wz : World) (Xe : Hid (bX wz)) (XM : Hid (qi wz item cI))
  (Vl : Hid (eT wz a h c)) (XP : Hid (Own wz ⟨e0, 0, none⟩ (.int .i64 0))) (hne : e0 ≠ a) (hBa : B ≤ a) (ZQ : B ≤ e0) :
  Calls Tryz.prog 73 #[.string s, .agg #[.int .i64 cI.kind, .int .i64 cI.n, .slice cI.B cI.nb cI.cb, .slice cI.L cI.nl cI.cl], .pointer (some ⟨e0, 0, none⟩), .pointer (some ⟨a, 0, none⟩)] wz fun e w' => (∃ v, e = .returned v) ∧ eT w' a (Bd h (bP s) item) (c + 1) ∧ Own w' ⟨e0, 0, none⟩ (.int .i64 0) ∧ Below B wz w' := by
 obtain ⟨w, HW, av, kC⟩ := st1 (.cells #[.int .i64 cI.kind, .int .i64 cI.n, .slice cI.B cI.nb cI.cb, .slice cI.L cI.nl cI.cl] 109) qQ wz
 have hT := aa (Vl.out.below av.out)
 have hE := aa (XP.out.below av.out)
 have hv := aa (Xe.out.below av.out)
 have hI := aa (XM.out.kept av.out)
 have HBZ : Hid (Below B wz w) := aa (av.out.mono (by have := Vl.out.lt; omega))
 obtain ⟨c0, c1, c2, c3⟩ := kC.out _ (dS w)
 obtain ⟨hc, hf⟩ := hE.out
 have Tt : Hid (B ≤ w.heap.size) := aa (by have := hT.out.lt; omega)
 clear Vl XP Xe XM
 go_in
 go_upto_region 1 with (fail)
 rw [show wz.alloc (.cells #[.int .i64 cI.kind, .int .i64 cI.n, .slice cI.B cI.nb cI.cb, .slice cI.L cI.nl cI.cl] 109) = w from HW.out]
 go_wp2_with ((with_reducible show wpList _ _ _ (⟨some 9, _, _, _, _, _⟩ :: _) _ _); refine wpList_load_row rfl 58 _ rfl a rfl _ _ _ _ hT.out Tryz.underlying58 rfl (bZ hl.out) ?_)
 refine (tL h hl hb c hc0 hc1 s hs hr item cI _ hv hI hfi hle).mono ?_
 rintro e w1 ⟨rfl, hb1⟩
 clear c0 c1 c2 c3
 have HT1 := aa (hT.out.below hb1)
 have Dr := aa (hE.out.below hb1)
 have HB1 : Hid (Below B wz w1) := aa (HBZ.out.trans (hb1.mono Tt.out))
 obtain ⟨R, hR⟩ : ∃ R, Bd h (bP s) item = R := ⟨_, rfl⟩
 have hRl : R.length = 32 := by rw [← hR]; exact qf _ _ _
 have HN : Kp (Bd h (bP s) item = R) := ⟨hR⟩
 have jl := aa hRl
 rw [hR, show J9 R (c + 1) 0 = .tuple #[.agg (aT R (c + 1)), .int .i64 0] from rfl]
 have HE2 := aa (lM (cs := aT R (c + 1)) Dr.out (show (⟨e0, 0, none⟩ : Addr).block ≠ a from hne))
 clear hb1 hc hf hR hRl
 obtain ⟨q1, q2⟩ := HE2.out
 go_wp2_with ((with_reducible show wpList _ _ _ (⟨none, _, _, _, _, _⟩ :: _) _ _); refine wpList_store_row rfl 58 _ _ rfl a (aT R (c + 1)) rfl rfl _ _ HT1.out (bZ jl.out) (fe hl.out jl.out) (bg _ _) ?_)
 have HT2 : Hid (eT (w1.setRow a (aT R (c + 1))) a R (c + 1)) := aa HT1.out.setRow
 have XC : eT ((w1.setRow a (aT R (c + 1))).setCell ⟨e0, 0, none⟩ (.int .i64 0)) a R (c + 1) := (heap_setCell_other _ _ _ _ (Ne.symm hne)).trans HT2.out
 have ZP := jT (u := .int .i64 0) HE2.out
 have hB3 : Below B wz ((w1.setRow a (aT R (c + 1))).setCell ⟨e0, 0, none⟩ (.int .i64 0)) := (aD HB1.out hBa).setCell ZQ _
 go_end0
 exact ⟨⟨_, rfl⟩, by rw [HN.out]; exact XC, ZP, hB3⟩
theorem yJ (W : World) (a : Nat) (hWa : W.heap.size ≤ a) (h : List Int) (hst : Hid (y9 h)) (c : Int) (hc0 : 0 ≤ c) (hc1 : c < 1000) (s : ByteArray) (hs : s.size ≤ 1000) (hr : Hid (jB (bP s) = true)) (item : It) (cI : Ic) (hfi : Hid (fits 7 item)) (hle : Hid ((enc item).length ≤ 14000)) (u : World) (hv : Hid (bX W)) (ZN : Hid (qi u item cI)) (hI : Hid (Gz W a h c 0 u)) :
  Calls Tryz.prog 73 #[.string s, .agg #[.int .i64 cI.kind, .int .i64 cI.n, .slice cI.B cI.nb cI.cb, .slice cI.L cI.nl cI.cl], .pointer (some ⟨a + 1, 0, none⟩), .pointer (some ⟨a, 0, none⟩)] u fun e u' => (∃ v, e = .returned v) ∧ Gz W a (Bd h (bP s) item) (c + 1) 0 u' := by
 refine (Mv h (aa hst.out.1) (aa hst.out.2) c hc0 hc1 s hs hr item cI hfi hle a (a + 1) a u (aa (hv.out.below hI.out.2.2)) ZN (aa hI.out.1) (aa hI.out.2.1) (by omega) (Nat.le_refl _) (by omega)).mono ?_
 rintro e u' ⟨he, hT, hE, hb⟩
 exact ⟨he, hT, hE, hI.out.2.2.trans (hb.mono hWa)⟩
def qJ : ByteArray := { data := #[102, 111, 114, 109, 117, 108, 97] }
theorem LU : Hid (jB (bP qJ) = true) := aa (by kernel_rfl)
def iH (h : List Int) : List Row → List Int
 | [] => h
 | r :: rs => iH (yY h (bP kK) r.xs) rs
theorem yQ {h : List Int} {rows : List Row} {k : Nat} (hk : k < rows.length) : iH h (rows.drop k) = iH (yY h (bP kK) (rows.getD k aG).xs) (rows.drop (k + 1)) := by
 rw [List.drop_eq_getElem_cons hk, List.getD_eq_getElem?_getD, List.getElem?_eq_getElem hk]
 rfl
def yI (P Q G : Int) (lb tx : List Int) (rows : List Row) : Int := JP Q (iH (Bd (yY (newL lb) (bP nA) [P, Q, G]) (bP qJ) (.byt tx)) rows) (bP Ac)
theorem Mt {P Q G : Int} (hq : 1 ≤ Q) (lb tx : List Int) (rows : List Row) : 0 ≤ yI P Q G lb tx rows ∧ yI P Q G lb tx rows < Q := OU hq _ _
theorem NN (h s : List Int) (i : It) : y9 (Bd h s i) := ⟨qf _ _ _, jh _⟩
theorem JB {b : List Int} (h0 : 0 < b.length) (h1 : b.length < 1000000) (hb : aH b = true) : fits 7 (.byt b) := ⟨⟨h0, h1⟩, hb⟩
theorem wO (P Q G : Int) (tx : ByteArray) (ht1 : 1 ≤ tx.size) (ht2 : tx.size ≤ 8000) (s : ByteArray) (hs : s.size ≤ 1000) (hr : Hid (jB (bP s) = true)) (B : Option Addr) (rows : List Row) (bn bc : Nat)
  (hbn : Hid (rows.length = bn)) (Ve : bn ≤ 900) (W_ : Hid (Ca [P, Q, G])) (Y2 : Hid (∀ k, k < rows.length → Ca (rows.getD k aG).xs))
  (TM : 2 ≤ Q) (Vp : Q < 2305843009213693952) (V : Int) (hV : Kp (yI P Q G (bP s) (bP tx) rows = V)) (w : World) (hv : Hid (bX w)) (hB : Hid (Rw w B rows)) :
  Calls Tryz.prog 30 #[gv P Q G, .string tx, .string s, .slice B bn bc] w (Rt w (.tuple #[.int .i64 V, .int .i64 0])) := by
 obtain ⟨W, hW⟩ : ∃ W, w.alloc (aN P Q G) = W := ⟨_, rfl⟩
 have dR : Hid (Below w.heap.size w W) := aa (by rw [← hW]; exact ai _ _)
 have YC : Hid (eO W w.heap.size P Q G) := aa (by rw [← hW]; exact az w P Q G)
 have HV := aa (hv.out.below dR.out)
 have zm := aa (hB.out.below dR.out)
 have HW := aa hW
 clear hW hv hB
 go_in
 go_upto_region 1 with (fail)
 rw [HW.out]
 clear HW
 go_wp2_with fail
 refine (Dy s hs hr _ HV).mono ?_
 rintro e w1 ⟨rfl, hb1⟩
 obtain ⟨S0, hS0⟩ : ∃ S, newL (bP s) = S := ⟨_, rfl⟩
 have sD : Hid (y9 S0) := aa (by rw [← hS0]; exact G_ _)
 have ig : Kp (JP Q (iH (Bd (yY S0 (bP nA) [P, Q, G]) (bP qJ) (.byt (bP tx))) rows) (bP Ac) = V) := ⟨by rw [← hS0]; exact hV.1⟩
 rw [hS0, show J9 S0 0 0 = .tuple #[.agg (aT S0 0), .int .i64 0] from rfl]
 have HB1 := aa hb1
 have sU := aa sD.out.1
 clear hb1 hS0 hV
 have Yd : Hid (eT ((w1.alloc (.cells #[.int .u8 0, .int .u8 0, .int .u8 0, .int .u8 0, .int .u8 0, .int .u8 0, .int .u8 0, .int .u8 0, .int .u8 0, .int .u8 0, .int .u8 0, .int .u8 0, .int .u8 0, .int .u8 0, .int .u8 0, .int .u8 0, .int .u8 0, .int .u8 0, .int .u8 0, .int .u8 0, .int .u8 0, .int .u8 0, .int .u8 0, .int .u8 0, .int .u8 0, .int .u8 0, .int .u8 0, .int .u8 0, .int .u8 0, .int .u8 0, .int .u8 0, .int .u8 0, .int .i64 0] 58)).alloc (.cells #[.int .i64 0] 45)) w1.heap.size (aZ 32) 0) := aa (by rw [Du]; exact heap_alloc2_old _ _ _)
 have zh : Hid (Own ((w1.alloc (.cells #[.int .u8 0, .int .u8 0, .int .u8 0, .int .u8 0, .int .u8 0, .int .u8 0, .int .u8 0, .int .u8 0, .int .u8 0, .int .u8 0, .int .u8 0, .int .u8 0, .int .u8 0, .int .u8 0, .int .u8 0, .int .u8 0, .int .u8 0, .int .u8 0, .int .u8 0, .int .u8 0, .int .u8 0, .int .u8 0, .int .u8 0, .int .u8 0, .int .u8 0, .int .u8 0, .int .u8 0, .int .u8 0, .int .u8 0, .int .u8 0, .int .u8 0, .int .u8 0, .int .i64 0] 58)).alloc (.cells #[.int .i64 0] 45)) ⟨w1.heap.size + 1, 0, none⟩ (.int .i64 0)) := aa ⟨aj (heap_alloc2_new _ _ _) 0, aS (heap_alloc2_new _ _ _) 0⟩
 have YH := aa (lM (a := w1.heap.size) (cs := aT S0 0) zh.out (show w1.heap.size + 1 ≠ w1.heap.size by omega))
 obtain ⟨q1, q2⟩ := YH.out
 go_upto_region 2 with ((with_reducible show wpList _ _ _ (⟨none, _, _, _, _, _⟩ :: _) _ _); refine wpList_store_row rfl 58 _ _ rfl w1.heap.size (aT S0 0) rfl rfl _ _ Yd.out (bZ sU.out) (fe (h := aZ 32) (c := 0) rfl sU.out) (bg _ _) ?_)
 clear q1 q2 Yd zh YH
 have hI2 := EP (w1 := w1) (c := 0) (x := 0) sU.out
 obtain ⟨W2, hW2⟩ : ∃ u, ((((w1.alloc (.cells #[.int .u8 0, .int .u8 0, .int .u8 0, .int .u8 0, .int .u8 0, .int .u8 0, .int .u8 0, .int .u8 0, .int .u8 0, .int .u8 0, .int .u8 0, .int .u8 0, .int .u8 0, .int .u8 0, .int .u8 0, .int .u8 0, .int .u8 0, .int .u8 0, .int .u8 0, .int .u8 0, .int .u8 0, .int .u8 0, .int .u8 0, .int .u8 0, .int .u8 0, .int .u8 0, .int .u8 0, .int .u8 0, .int .u8 0, .int .u8 0, .int .u8 0, .int .u8 0, .int .i64 0] 58)).alloc (.cells #[.int .i64 0] 45)).setRow w1.heap.size (aT S0 0)).setCell ⟨w1.heap.size + 1, 0, none⟩ (.int .i64 0)) = u := ⟨_, rfl⟩
 rw [hW2] at hI2 ⊢
 obtain ⟨a, ha⟩ : ∃ a, w1.heap.size = a := ⟨_, rfl⟩
 have hWa : W.heap.size ≤ a := by rw [← ha]; exact HB1.out.size
 have RF : Gz W a S0 0 0 W2 := ⟨by rw [← ha]; exact hI2.1, by rw [← ha]; exact hI2.2.1, af HB1.out hI2.2.2⟩
 rw [ha]
 have HI2 := aa RF
 clear hW2 hI2 RF ha HB1
 obtain ⟨c0, c1, c2⟩ := YC.out.below HI2.out.2.2
 go_wp2_with fail
 refine (Ag (some ⟨W2.heap.size, 0, none⟩) [P, Q, G] 3 3 (aa rfl) (by omega) _ (aa (dL (MI W2 _ P Q G)))).mono ?_
 rintro e w3 ⟨cI, rfl, XO, hb3⟩
 have HI3 := aa (XO)
 have PI := aa ((HI2.out.alloc _).below hb3)
 clear XO hb3 c0 c1 c2 HI2
 rw [show cI.val = (.agg #[.int .i64 cI.kind, .int .i64 cI.n, .slice cI.B cI.nb cI.cb, .slice cI.L cI.nl cI.cl] : Value) from rfl]
 go_wp2_with fail
 refine (yJ W a hWa S0 sD 0 (by omega) (by omega) nA (by decide) IW _ cI W_.out.fits W_.out.len _ HV HI3 PI).mono ?_
 rintro e w4 ⟨⟨v4, rfl⟩, Vs⟩
 clear PI HI3
 obtain ⟨S1, hS1⟩ : ∃ S, yY S0 (bP nA) [P, Q, G] = S := ⟨_, rfl⟩
 have MX : Hid (y9 S1) := aa (by rw [← hS1]; exact He _ _ _)
 have gT : Kp (JP Q (iH (Bd S1 (bP qJ) (.byt (bP tx))) rows) (bP Ac) = V) := ⟨by rw [← hS1]; exact ig.1⟩
 rw [show Bd S0 (bP nA) (.lst ([P, Q, G].map .int)) = S1 from hS1] at Vs
 have HI4 := aa Vs
 clear Vs hS1 ig
 have hcv := fun w => run_bytes_of_string (P := Tryz.prog) w 9 93 5 tx Tryz.underlying9 Tryz.underlying93 Tryz.underlying5
 go_wp2_with fail
 clear hcv
 obtain ⟨Wc, hWc⟩ : ∃ u, (w4.alloc (.cells (bytesRow tx (grownCap w4 tx.size 0 5)) 5 ((bytesRow tx (grownCap w4 tx.size 0 5)).size, (bytesRow tx (grownCap w4 tx.size 0 5)).size + 1))).drew = u := ⟨_, rfl⟩
 have XK : Gz W a S1 (0 + 1) 0 Wc := by rw [← hWc]; exact (HI4.out.alloc _).below ((Below.refl _ _).drew)
 have HSc : Hid (Sk .u8 Wc (some ⟨w4.heap.size, 0, none⟩) (bP tx)) := aa (by
  rw [← hWc]
  exact qP (heap_alloc_new w4 _))
 obtain ⟨gc, hgc⟩ : ∃ g, grownCap w4 tx.size 0 5 = g := ⟨_, rfl⟩
 rw [hWc, hgc]
 have Yt := aa XK
 have Yy : Hid (qi Wc (.byt (bP tx)) ⟨2, 0, some ⟨w4.heap.size, 0, none⟩, tx.size, gc, none, 0, 0⟩) := aa (.byt _ _ rfl rfl (by rw [b_]) rfl HSc.out)
 clear hWc hgc XK HSc HI4
 refine (yJ W a hWa S1 MX (0 + 1) (by omega) (by omega) qJ (by decide) LU _ _ (aa (JB (by rw [b_]; omega) (by rw [b_]; omega) (kS tx))) (aa (by rw [jX, List.length_cons, List.length_append, jY, b_]; omega)) _ HV Yy Yt).mono ?_
 rintro e w5 ⟨⟨v5, rfl⟩, Vr⟩
 clear Yt Yy
 obtain ⟨S2, hS2⟩ : ∃ S, Bd S1 (bP qJ) (.byt (bP tx)) = S := ⟨_, rfl⟩
 have HS2 : Hid (y9 S2) := aa (by rw [← hS2]; exact NN _ _ _)
 rw [hS2] at Vr
 have qX := aa Vr
 obtain ⟨S3, Jf⟩ : ∃ S, iH S2 rows = S := ⟨_, rfl⟩
 have HR3 : Kp (iH S2 (rows.drop 0) = S3) := ⟨Jf⟩
 have sw : Kp (JP Q S3 (bP Ac) = V) := ⟨by rw [← Jf, ← hS2]; exact gT.1⟩
 clear Vr hS2 Jf gT
 go_wp2_with fail
 go_loopw [40] (fun i u => ∃ (k : Nat) (S : List Int), k ≤ bn ∧ i = .int .i64 k ∧ Hid (y9 S) ∧ Kp (iH S (rows.drop k) = S3) ∧ Hid (Gz W a S (2 + k) 0 u)) (fun i _ => bn - (intOf i).toNat)
 case atStart => exact ⟨0, S2, by omega, rfl, HS2, HR3, qX⟩
 case round =>
  obtain ⟨k, S, hk, rfl, HS, HR, HI⟩ := hrel
  by_cases hlt : k < bn
  ·
   have hkl : k < rows.length := by rw [hbn.out]; exact hlt
   obtain ⟨⟨b, o, hA, hi0⟩, hok⟩ := zm.out.below HI.out.2.2 k hkl
   subst hA
   have Ud := Kp.mk ((yQ (h := S) hkl).symm.trans HR.1)
   have SA := aa (Y2.out k hkl)
   obtain ⟨R, hR⟩ : ∃ R, rows.getD k aG = R := ⟨_, rfl⟩
   rw [hR] at hi0 hok Ud SA
   obtain ⟨p, rn, rc, xs⟩ := R
   have HL := aa hok.1
   have HX := aa hok.2
   dsimp only [Row.val] at hi0 Ud SA
   have hrb : rn ≤ 1000000 := by have h1 := SA.out.1; have h2 := HL.out; dsimp only at h2; omega
   clear hR hok hkl
   go_wp2_with fail
   refine (Ag p xs rn rc HL hrb _ HX).mono ?_
   rintro e w6 ⟨cJ, rfl, XN, hb6⟩
   have rP := aa XN
   have Yu := aa (HI.out.below hb6)
   clear XN hb6 hi0
   rw [show cJ.val = (.agg #[.int .i64 cJ.kind, .int .i64 cJ.n, .slice cJ.B cJ.nb cJ.cb, .slice cJ.L cJ.nl cJ.cl] : Value) from rfl]
   go_wp2_with fail
   refine (yJ W a hWa S HS (2 + k) (by omega) (by omega) kK (by decide) FJ _ cJ SA.out.fits SA.out.len _ HV rP Yu).mono ?_
   rintro e w7 ⟨⟨v7, rfl⟩, Vq⟩
   obtain ⟨S', hS'⟩ : ∃ S', yY S (bP kK) xs = S' := ⟨_, rfl⟩
   have HS' : Hid (y9 S') := aa (by rw [← hS']; exact He _ _ _)
   have HRR : Kp (iH S' (rows.drop (k + 1)) = S3) := ⟨by rw [← hS']; exact Ud.1⟩
   rw [show Bd S (bP kK) (.lst (xs.map .int)) = S' from hS', show (2 + (k : Int) + 1) = 2 + ((k + 1 : Nat) : Int) by omega] at Vq
   have vg := aa Vq
   clear Vq hS' Ud rP Yu
   go_wp2
   go_roundw
   case rel => exact ⟨k + 1, S', by omega, by go_num, HS', HRR, vg⟩
   case measure => simp [intOf]; omega
  ·
   obtain rfl : k = bn := by omega
   have hd : rows.drop k = [] := List.drop_of_length_le (by rw [hbn.out]; exact Nat.le_refl _)
   have Yj : Kp (S = S3) := ⟨by have h := HR.1; rwa [hd] at h⟩
   have HV5 : Kp (JP Q S (bP Ac) = V) := ⟨by rw [Yj.1]; exact sw.1⟩
   have Ui := aa HS.out.1
   have rP := HI
   have vS := HS
   clear hd HR Yj sw hlt HI HS
   obtain ⟨z0, z1⟩ := rP.out.2.1
   obtain ⟨c0, c1, c2⟩ := YC.out.below rP.out.2.2
   have Eu := aa rP.out.1
   go_wp2_with ((with_reducible show wpList _ _ _ (⟨some 53, _, _, _, _, _⟩ :: _) _ _); refine wpList_load_row rfl 58 _ rfl a rfl _ _ _ _ Eu.out Tryz.underlying58 rfl (bZ Ui.out) ?_)
   refine (G5 S Ui (aa vS.out.2) (2 + k) (by omega) (by omega) Ac (by decide) QK Q TM Vp _ (aa (HV.out.below rP.out.2.2))).mono ?_
   rintro e w7 ⟨rfl, D8⟩
   obtain ⟨G4, hG4⟩ : ∃ G4, TQ Q S (bP Ac) = G4 := ⟨_, rfl⟩
   have GH : Hid (G4.length = 32) := aa (by rw [← hG4]; exact qf _ _ _)
   rw [hG4, HV5.1, show PZ G4 (2 + (k : Int) + 1) V 0 = .tuple #[.agg (aT G4 (2 + (k : Int) + 1)), .int .i64 V, .int .i64 0] from rfl]
   have vg := aa (rP.out.below D8)
   obtain ⟨y0, y1⟩ := vg.out.2.1
   clear D8 hG4 z0 z1 c0 c1 c2
   have Ye : Hid (eT (w7.alloc (.cells #[.int .u8 0, .int .u8 0, .int .u8 0, .int .u8 0, .int .u8 0, .int .u8 0, .int .u8 0, .int .u8 0, .int .u8 0, .int .u8 0, .int .u8 0, .int .u8 0, .int .u8 0, .int .u8 0, .int .u8 0, .int .u8 0, .int .u8 0, .int .u8 0, .int .u8 0, .int .u8 0, .int .u8 0, .int .u8 0, .int .u8 0, .int .u8 0, .int .u8 0, .int .u8 0, .int .u8 0, .int .u8 0, .int .u8 0, .int .u8 0, .int .u8 0, .int .u8 0, .int .i64 0] 58)) w7.heap.size (aZ 32) 0) := aa (by rw [Du]; exact heap_alloc_new _ _)
   have Wv := aa (lM (a := w7.heap.size) (cs := aT G4 (2 + (k : Int) + 1)) (vg.out.2.1.below (ai w7 (.cells #[.int .u8 0, .int .u8 0, .int .u8 0, .int .u8 0, .int .u8 0, .int .u8 0, .int .u8 0, .int .u8 0, .int .u8 0, .int .u8 0, .int .u8 0, .int .u8 0, .int .u8 0, .int .u8 0, .int .u8 0, .int .u8 0, .int .u8 0, .int .u8 0, .int .u8 0, .int .u8 0, .int .u8 0, .int .u8 0, .int .u8 0, .int .u8 0, .int .u8 0, .int .u8 0, .int .u8 0, .int .u8 0, .int .u8 0, .int .u8 0, .int .u8 0, .int .u8 0, .int .i64 0] 58))) (show a + 1 ≠ w7.heap.size by have := vg.out.1.lt; have := World.block_lt_of_cell? _ _ y0; simp at this; omega))
   obtain ⟨x0, x1⟩ := Wv.out
   go_wp2_with ((with_reducible show wpList _ _ _ (⟨none, _, _, _, _, _⟩ :: _) _ _); refine wpList_store_row rfl 58 _ _ rfl w7.heap.size (aT G4 (2 + (k : Int) + 1)) rfl rfl _ _ Ye.out (bZ GH.out) (fe (h := aZ 32) (c := 0) rfl GH.out) (bg _ _) ?_)
   have hZ := jT (u := .int .i64 0) Wv.out
   have Qh : Below w.heap.size w (((w7.alloc (.cells #[.int .u8 0, .int .u8 0, .int .u8 0, .int .u8 0, .int .u8 0, .int .u8 0, .int .u8 0, .int .u8 0, .int .u8 0, .int .u8 0, .int .u8 0, .int .u8 0, .int .u8 0, .int .u8 0, .int .u8 0, .int .u8 0, .int .u8 0, .int .u8 0, .int .u8 0, .int .u8 0, .int .u8 0, .int .u8 0, .int .u8 0, .int .u8 0, .int .u8 0, .int .u8 0, .int .u8 0, .int .u8 0, .int .u8 0, .int .u8 0, .int .u8 0, .int .u8 0, .int .i64 0] 58)).setRow w7.heap.size (aT G4 (2 + (k : Int) + 1))).setCell ⟨a + 1, 0, none⟩ (.int .i64 0)) := by
    have h1 := af vg.out.2.2 (aD (cs := aT G4 (2 + (k : Int) + 1)) (ai w7 (.cells #[.int .u8 0, .int .u8 0, .int .u8 0, .int .u8 0, .int .u8 0, .int .u8 0, .int .u8 0, .int .u8 0, .int .u8 0, .int .u8 0, .int .u8 0, .int .u8 0, .int .u8 0, .int .u8 0, .int .u8 0, .int .u8 0, .int .u8 0, .int .u8 0, .int .u8 0, .int .u8 0, .int .u8 0, .int .u8 0, .int .u8 0, .int .u8 0, .int .u8 0, .int .u8 0, .int .u8 0, .int .u8 0, .int .u8 0, .int .u8 0, .int .u8 0, .int .u8 0, .int .i64 0] 58)) (Nat.le_refl _))
    exact af dR.out (h1.setCell (by show W.heap.size ≤ a + 1; omega) _)
   have fH := aa Qh
   have hz0 := hZ.1
   obtain ⟨W8, Ry⟩ : ∃ u, (((w7.alloc (.cells #[.int .u8 0, .int .u8 0, .int .u8 0, .int .u8 0, .int .u8 0, .int .u8 0, .int .u8 0, .int .u8 0, .int .u8 0, .int .u8 0, .int .u8 0, .int .u8 0, .int .u8 0, .int .u8 0, .int .u8 0, .int .u8 0, .int .u8 0, .int .u8 0, .int .u8 0, .int .u8 0, .int .u8 0, .int .u8 0, .int .u8 0, .int .u8 0, .int .u8 0, .int .u8 0, .int .u8 0, .int .u8 0, .int .u8 0, .int .u8 0, .int .u8 0, .int .u8 0, .int .i64 0] 58)).setRow w7.heap.size (aT G4 (2 + (k : Int) + 1))).setCell ⟨a + 1, 0, none⟩ (.int .i64 0)) = u := ⟨_, rfl⟩
   rw [Ry] at hz0 fH ⊢
   clear hZ Qh Ry x0 x1 Wv Ye y0 y1
   go_region
   go_wp2
   go_ret2
   exact ⟨rfl, ay fH.out _⟩
theorem AQ {r : Row} : ∀ (l : List FT) (ts : List TT), r ∈ iO l ts → ∃ k, k < l.length ∧ k < ts.length ∧ r ∈ (l.getD k aY).com (ts.getD k noT)
 | [], ts, h => by rw [kR] at h; cases h
 | _ :: _, [], h => by simp [iO] at h
 | f :: l, t :: ts, h => by
  rw [iO, List.mem_append] at h
  rcases h with h | h
  · exact ⟨0, by simp, by simp, h⟩
  ·
   obtain ⟨k, h1, h2, h3⟩ := AQ l ts h
   exact ⟨k + 1, by simpa using h1, by simpa using h2, by rw [List.getD_cons_succ, List.getD_cons_succ]; exact h3⟩
theorem uR {P Q G : Int} {w : World} : ∀ (d : Nat) (f : FT) (t : TT), f.dp ≤ d → bI w t → f.sh → f.at_ P Q G → f.acc P Q t → ∀ r ∈ f.com t, l5 w r ∧ Ca r.xs
 | 0, f, _, h, _, _, _, _ => by have := f.dp_eq; omega
 | d + 1, f, t, h, hT, hs, ha, hac => by
  intro r hr
  rw [f.com_eq] at hr
  by_cases hk : f.kind = 1
  ·
   rw [if_pos hk] at hr
   have kr := VF.rel ha hk
   obtain ⟨p1, p2, p3, p4⟩ := aM (ak kr).1
   obtain ⟨-, ⟨_, _, _, a4⟩ | ⟨a1, _⟩⟩ := (f.acc_eq t).1 hac
   ·
    have := List.mem_singleton.1 hr
    subst this
    have q := (gY a4).2.2.2.2
    exact ⟨⟨hT.lens.1, hT.prf.1⟩, by show Ca t.al; rw [← q]; exact Hg p1 p2 (by have := (ak kr).2.2.1; have := (ak kr).2.2.2.1; omega)⟩
   · exact absurd hk a1
  ·
   rw [if_neg hk] at hr
   obtain ⟨k, k1, k2, k3⟩ := AQ _ _ hr
   rcases f.sh_eq.1 hs with ⟨h1, _⟩ | ⟨_, _, _, _, k5⟩
   · exact absurd h1 hk
   ·
    rcases f.at_eq.1 ha with ⟨m1, _⟩ | ⟨_, m2⟩
    · exact absurd m1 hk
    ·
     obtain ⟨-, ⟨a1, _⟩ | ⟨_, _, a3, a4, _⟩⟩ := (f.acc_eq t).1 hac
     · exact absurd a1 hk
     ·
      obtain ⟨_, _, _, _, _, _, _, _, hX⟩ := hT.kid (k := k) (by have := hT.lens.2.2.1; omega)
      exact uR d _ _ (FT.kid_dp h k1) hX (k5 k k1) (m2 k k1) (a4 k k1) r k3
theorem CQ (P Q G : Int) (f : FT) (t : TT) (hQ : Q < 9223372036854775808) (s : ByteArray) (hs : s.size ≤ 1000) (hr : Hid (jB (bP s) = true)) (w : World) (hv : Hid (Vars w)) (hd : Hid (bX w)) (zu : Hid (iP w)) (hF : Hid (dU w f)) (hT : Hid (bI w t)) (hV : Hid (VF P Q G f)) (ha : f.acc P Q t) (htx : f.tx.size ≤ 8000) (hch : Kp (yI P Q G (bP s) (bP f.tx) (f.com t) = t.c)) :
  Calls Tryz.prog 12 #[gv P Q G, fV f, .string s, tV t] w (Rt w (.bool true)) := by
 have Nb := aa (fun u hv hF hT => uO P Q G f t hQ u hv hF hT hV)
 have Gj := aa (fun u hT hF => wR (P := P) (Q := Q) (G := G) f u hT hF hV)
 have KV := aa (fun u hF hT => zI P Q f.dp f t u (Nat.le_refl _) hV.out.n hF hT hV.out.s ha)
 have hcl := sS (P := P) (Q := Q) f.dp f t (Nat.le_refl _) hV.out.s ha
 have hnd := hV.out.n
 have Dj : Hid (∀ u : World, Hid (bI u t) → ∀ k, k < (f.com t).length → l5 u ((f.com t).getD k aG) ∧ Ca ((f.com t).getD k aG).xs) := aa (fun u hT k hk => uR (P := P) (Q := Q) (G := G) f.dp f t (Nat.le_refl _) hT.out hV.out.s hV.out.a ha _ (by rw [List.getD_eq_getElem?_getD, List.getElem?_eq_getElem hk]; exact List.getElem_mem hk))
 have ht1 := (sJ f.dp f (Nat.le_refl _) hF.out (Au f.dp f (Nat.le_refl _) hF.out hV.out.s hV.out.a)).2
 have Yf : Hid (P_ f = .tuple #[.string f.tx, .int .i64 0]) := aa (by rw [P_, if_neg (by omega)])
 rw [Yf.out] at Gj
 obtain ⟨p1, p2, p3, p4⟩ := aM hV.out.g
 have Py := aa (vY hV.out.g)
 obtain ⟨p, hp⟩ : ∃ z, f.acc P Q t = z := ⟨_, rfl⟩
 rw [hp] at Nb ha
 obtain ⟨cm, hcm⟩ : ∃ z, f.com t = z := ⟨_, rfl⟩
 rw [hcm] at KV hcl Dj hch
 obtain ⟨tx, QV⟩ : ∃ z, f.tx = z := ⟨_, rfl⟩
 rw [QV] at Gj htx hch ht1
 have ht2 := htx
 have Rk : 0 < cm.length := by omega
 have hcb : cm.length ≤ 900 := by omega
 clear hp hcm QV Yf hcl hV hnd htx
 obtain ⟨kind, Y, yn, yc, ys, B, bn, bc, rows, L, ln, lc, l⟩ := f
 obtain ⟨tc, A, na, ca, al, pc, Zp, nz, cz, zs, TL, tn, fU, tl⟩ := t
 dsimp only at hch
 have HCH := hch
 obtain ⟨w0, HW, av, kC⟩ := xQ (aN P Q G) vw (fO kind Y yn yc B bn bc L ln lc) KN (tO tc A na ca pc Zp nz cz TL tn fU) Br w
 have kF := sM av hF
 have kT := Gu av hT
 have kV := mkV av hv
 have kD := Y5 av hd
 have kP := LH av zu
 have aA := dS w0
 clear hF hT hv hd zu hch
 go_in
 go_upto_region 1 with (fail)
 rw [show ((w.alloc (aN P Q G)).alloc (fO kind Y yn yc B bn bc L ln lc)).alloc (tO tc A na ca pc Zp nz cz TL tn fU) = w0 from HW.out]
 have zc := kC.out _ aA
 go_wp2_with fail
 refine (Nb.out _ (kV.out _ aA) (kF.out _ aA) (kT.out _ aA)).mono ?_
 rintro e w1 ⟨r, rfl, h1, -, hb1⟩
 have bF := cZ aA hb1
 obtain rfl : r = true := h1 ha
 clear zc hb1 h1
 have zc := kC.out _ bF
 go_wp2_with fail
 refine (Gj.out _ (kP.out _ bF) (kF.out _ bF)).mono ?_
 rintro e w3 ⟨rfl, hb3⟩
 have fC := cZ bF hb3
 clear zc hb3
 go_wp2_with fail
 obtain ⟨g0, g1, g2, c0, c1, c2, c3, e0, e1, e2, e3, e4⟩ := kC.out _ fC
 have hO := aa (fun (u : World) (hu : Hid (Below w3.heap.size w3 u)) => And.intro (cell_below g0 hu.out) (And.intro (cell_below g1 hu.out) (And.intro (cell_below g2 hu.out) (And.intro (cell_below c0 hu.out) (And.intro (cell_below c1 hu.out) (And.intro (cell_below c2 hu.out) (And.intro (cell_below c3 hu.out) (And.intro (cell_below e0 hu.out) (And.intro (cell_below e1 hu.out) (And.intro (cell_below e2 hu.out) (And.intro (cell_below e3 hu.out) (cell_below e4 hu.out))))))))))))
 clear g0 g1 g2 c0 c1 c2 c3 e0 e1 e2 e3 e4
 refine je [] (dS w3) (fun hHeld => ?_)
 refine aX 0 1 2 3 ?_
 refine aQ 4 ?_
 refine dO 5 fun K hK => ?_
 go_simp
 refine (KV.out _ (kF.out _ (nK fC hHeld)) (kT.out _ (nK fC hHeld))).mono ?_
 rintro e wA ⟨vA, rfl, I_, bA⟩
 refine hK.out _ _ (cZ hHeld bA) (fun hHeld => ?_)
 clear hK K
 obtain ⟨gA, C_, Oj, -, -, hcA⟩ := gH.form I_ Rk
 subst Oj
 have nH := nK fC hHeld
 have HRW : Hid (Rw wA (some ⟨gA, 0, none⟩) cm) := aa (fun k hk => by
  have hg : (cm.map Row.val)[k]? = some (cm.getD k aG).val := by
   rw [List.getElem?_map, List.getD_eq_getElem?_getD, List.getElem?_eq_getElem hk]; rfl
  refine ⟨⟨gA, 0, rfl, by rw [Nat.zero_add]; exact hcA k _ hg⟩, ?_⟩
  exact (Dj.out _ (kT.out _ nH) k hk).1)
 refine dO 6 fun K hK => ?_
 go_simp
 refine (wO P Q G tx ht1 ht2 s hs hr (some ⟨gA, 0, none⟩) cm cm.length C_ (aa rfl) hcb Py (aa (fun k hk => (Dj.out _ (kT.out _ nH) k hk).2)) (by omega) (by omega) tc HCH _ (kD.out _ nH) HRW).mono ?_
 rintro e wB ⟨rfl, Rs⟩
 refine hK.out _ _ (cZ hHeld Rs) (fun hHeld => ?_)
 clear hK K nH HRW I_ hcA bA Rs
 refine aX 7 8 9 10 ?_
 refine aQ 11 ?_
 refine jf ?_
 clear hO
 have gI := nK fC hHeld
 clear hHeld
 have zc := kC.out _ gI
 go_wp2
 go_ret
 exact ⟨by first | rfl | simp, gN av gI⟩
def Gs (zs : List Int) (n : Nat) (w : World) (e : Ending) (w' : World) : Prop := ∃ g cap, e = .returned (.slice (some ⟨g, 0, none⟩) n cap) ∧ w.heap.size ≤ g ∧ Hid (Cells w' g zs) ∧ Below w.heap.size w w'
def Gh (al : List Int) (n : Nat) (C : Int) (zl : List Int) (m : Nat) (w : World) (e : Ending) (w' : World) : Prop :=
 ∃ g c Z d, e = .returned (.tuple #[jR (some ⟨g, 0, none⟩) n c C Z m d, .int .i64 0]) ∧ w.heap.size ≤ g ∧ (∀ b o, Z = some ⟨b, o, none⟩ → 0 < zl.length → w.heap.size ≤ b) ∧ Sl w' (some ⟨g, 0, none⟩) al ∧ Sl w' Z zl ∧ Below w.heap.size w w'
theorem IC (P Q G : Int) (Y : Option Addr) (ys : List Int) (yc : Nat) (B : Option Addr) (rows : List Row) (n bc : Nat) (c : Int) (L : Option Addr) (zs : List Int) (ln lc : Nat) (cB : Hid (aP P Q G ys rows = true)) (hyn : Hid (ys.length = n)) (hbn : Hid (rows.length = n)) (hln : Hid (zs.length = ln)) (hlen : zs.length = aU rows)
  (Hl : Hid (zs.all (cu Q) = true)) (hc0 : 0 ≤ c) (hc1 : c < Q) (hQ : Q < 9223372036854775808) (w : World) (hY : Hid (Sl w Y ys)) (hB : Hid (Rw w B rows)) (hL : Hid (Sl w L zs)) :
  Calls Tryz.prog 55 #[gv P Q G, dm Y n yc B n bc, .int .i64 c, .slice L ln lc] w (Gs (iX P Q c ys rows zs) n w) := by
 obtain ⟨v1, v2, v3, v4, v5, v6, v7, v8⟩ := ak cB.out
 obtain ⟨hp2, hp, hq3, wK⟩ := aM v1
 rw [← hlen, hln.out] at v8
 have vT := aa v8
 have hnp : 0 < n := by rw [← hyn.out]; omega
 have UT : n ≤ 8 := by rw [← hyn.out]; omega
 have Q_ : ln ≤ 12 := by rw [← hln.out]; omega
 have R4 := aa v5
 have hzl : (rows.map fun r => aO P 1 r.xs zs).length = n := by rw [List.length_map]; exact hbn.out
 clear v1 v2 v3 v4 v5 v6 v7 v8
 obtain ⟨b1, o1, rfl, _⟩ := hY.out 0 (by rw [hyn.out]; exact hnp)
 obtain ⟨w0, hW⟩ : ∃ W, (w.alloc (aN P Q G)).alloc (dW (some ⟨b1, o1, none⟩) n yc B n bc) = W := ⟨_, rfl⟩
 have av : Hid (Below w.heap.size w w0) := aa (by rw [← hW]; exact aB (Below.refl _ _))
 have HX0 : Hid (eO w0 w.heap.size P Q G) := aa (by rw [← hW]; exact (az w P Q G).below (ai _ _))
 have dY : Hid (iQ w0 (w.heap.size + 1) (.slice (some ⟨b1, o1, none⟩) n yc) (.slice B n bc)) := aa (by rw [← hW]; exact aV _ _ _ _ _)
 have gu := aa (hY.out.below av.out)
 have oL := aa (hB.out.below av.out)
 have sU := aa (hL.out.below av.out)
 have HW := aa hW
 clear hW hY hB hL
 obtain ⟨d0, d1⟩ := dY.out
 obtain ⟨c0, c1, c2⟩ := HX0.out
 go_in
 go_wp2_with fail
 rw [HW.out]
 refine (iF P Q G B rows n bc L zs ln lc hbn hln (by omega) (by omega) vT Hl hp2 hp hQ _ oL sU).mono ?_
 rintro e W ⟨v, rfl, ho, hb0⟩
 obtain ⟨g, cap, rfl, hg, hrf⟩ := ho.rowF (by rw [hzl]; exact hnp)
 rw [hzl] at hrf
 have hvl : (Value.slice (some ⟨g, 0, none⟩) ((rows.map fun r => aO P 1 r.xs zs).length) cap) = .slice (some ⟨g, 0, none⟩) n cap := by rw [hzl]
 rw [hvl]
 have Di := aa (HX0.out.below hb0)
 have HRW := aa (dY.out.below hb0)
 have R3 := aa (gu.out.below hb0)
 have zB := aa (af av.out hb0)
 have hgw : w.heap.size + 1 < g := by have h1 : w.heap.size + 1 < w0.heap.size := World.block_lt_of_cell? _ _ dY.out.1; omega
 have hyg : b1 < g := by
  obtain ⟨bb, oo, e1, e2⟩ := gu.out 0 (by rw [hyn.out]; exact hnp)
  cases e1
  have h1 : b1 < w0.heap.size := World.block_lt_of_cell? _ _ e2
  omega
 have Qk : Hid (qh W g n (fun j => if j < 0 then l6 P Q c ys rows zs j else aO P 1 (rows.getD j aG).xs zs)) := aa ⟨fun j hj => by
  have h1 := hrf.1 j hj
  dsimp only at h1
  rw [pG (by rw [hbn.out]; exact hj)] at h1
  dsimp only
  rw [if_neg (by omega)]
  exact h1, hrf.2⟩
 have Uk := aa (Nat.le_trans av.out.size hg)
 clear ho hb0 hrf hvl hg c0 c1 c2 d0 d1
 obtain ⟨d0, d1⟩ := HRW.out
 go_wp2
 go_loopw [22] (fun i wr => ∃ k : Nat, k ≤ n ∧ i = .int .i64 k ∧ Hid (qh wr g n (fun j => if j < k then l6 P Q c ys rows zs j else aO P 1 (rows.getD j aG).xs zs)) ∧ Hid (Below g W wr)) (fun i _ => n - (intOf i).toNat)
 case atStart => exact ⟨0, by omega, rfl, Qk, aa (Below.refl _ _)⟩
 case round =>
  obtain ⟨k, hk, rfl, Km, aF⟩ := hrel
  by_cases hlt : k < n
  ·
   have hkl : k < ys.length := by rw [hyn.out]; exact hlt
   have hkr : k < rows.length := by rw [hbn.out]; exact hlt
   obtain ⟨bb, oo, e1, hi0⟩ := R3.out k hkl
   cases e1
   have hi1 := (aF.out.cell (p := ⟨b1, o1 + k, none⟩) hyg).trans hi0
   have c0 := (aF.out.cell (p := ⟨w.heap.size, 0, none⟩) (by show w.heap.size < g; omega)).trans Di.out.1
   have c1 := (aF.out.cell (p := ⟨w.heap.size, 1, none⟩) (by show w.heap.size < g; omega)).trans Di.out.2.1
   have hcell : wr.cell? ⟨g, k, none⟩ = some (.int .i64 (aO P 1 (rows.getD k aG).xs zs)) := by
    have h3 := Km.out.1 k hlt
    simp only [Nat.lt_irrefl, if_false] at h3
    exact h3
   have hfz := Km.out.2 k
   have uH := eH R4.out hkl
   obtain ⟨q0, q1⟩ := mG hp2 (rows.getD k aG).xs zs 1 (by omega) (by omega)
   have uC : l6 P Q c ys rows zs k = aO P 1 (rows.getD k aG).xs zs * pw (ys.getD k 0) ((Q - c) % Q) P % P := rfl
   obtain ⟨a, ha⟩ : ∃ a, aO P 1 (rows.getD k aG).xs zs = a := ⟨_, rfl⟩
   obtain ⟨y, hy⟩ : ∃ x, ys.getD k 0 = x := ⟨_, rfl⟩
   rw [ha] at hcell q0 q1 uC
   rw [hy] at hi1 uH uC
   have y0 := d_ uH
   have y1 := ek uH
   obtain ⟨ex, hex⟩ : ∃ e, (Q - c) % Q = e := ⟨_, rfl⟩
   have VB : 0 ≤ ex := by rw [← hex]; exact Int.emod_nonneg _ (by omega)
   have ZZ : ex < Q := by rw [← hex]; exact Int.emod_lt_of_pos _ (by omega)
   rw [hex] at uC
   obtain ⟨p, hpw⟩ : ∃ p, pw y ex P = p := ⟨_, rfl⟩
   obtain ⟨p0, p1⟩ : 0 ≤ p ∧ p < P := by rw [← hpw]; exact tX _ _ _ (by omega)
   rw [hpw] at uC
   obtain ⟨t, ht⟩ : ∃ t, a * p % P = t := ⟨_, rfl⟩
   rw [ht] at uC
   have HN : ∀ q, Hid (qh ((wr.drewN q).setCell ⟨g, k, none⟩ (.int .i64 t)) g n (fun j => if j < k + 1 then l6 P Q c ys rows zs j else aO P 1 (rows.getD j aG).xs zs)) := fun q => by
    have h3 := zO (qh.below Km.out hnp (ay (Below.refl _ _) q)) hlt t
    have e : (fun j => if j = k then t else if j < k then l6 P Q c ys rows zs j else aO P 1 (rows.getD j aG).xs zs) = (fun j => if j < k + 1 then l6 P Q c ys rows zs j else aO P 1 (rows.getD j aG).xs zs) := by
     funext j
     by_cases hj : j = k
     · subst hj; rw [if_pos rfl, if_pos (by omega), uC]
     ·
      rw [if_neg hj]
      by_cases hj2 : j < k
      · rw [if_pos hj2, if_pos (by omega)]
      · rw [if_neg hj2, if_neg (by omega)]
    rw [e] at h3
    exact aa h3
   have V_ := aa HN
   have HB2 := aa (show ∀ q, Hid (Below g W ((wr.drewN q).setCell ⟨g, k, none⟩ (.int .i64 t))) from fun q => aa ((ay aF.out q).setCell (Nat.le_refl _) _))
   have hdf : IntKind.i64.wrap (Q - c) = Q - c := IntWalk.i64_in _ (by omega)
   have D5 : (Q - c).tmod Q = ex := by rw [Int.tmod_eq_emod_of_nonneg (by omega), hex]
   have hwx : IntKind.i64.wrap ex = ex := IntWalk.i64_in _ (by omega)
   have hQn : ¬ (Q = 0) := by omega
   have lX := aa hpw
   have qx := aa ht
   have MV := aa uC
   clear hkl hkr hi0 uH uC ha hy hex hpw ht HN
   go_wp2
   go_quiet ((go_at_call 79; exact Calls.quiet_of (pow_eq y ex P p lX (by omega) hp (by omega) y1 VB (by omega) _)))
   go_wp2_with fail
   go_region_with ((go_at_call 84; refine (sI a p P t qx hp q0 q1 p0 p1 _).mono ?_; rintro e w' ⟨rfl, n3, rfl⟩))
   all_goals
    go_wp2
    go_roundw
    case rel => exact ⟨k + 1, by omega, by go_num, V_.out _, HB2.out _⟩
    case measure => simp [intOf]; omega
  ·
   obtain rfl : k = n := by omega
   have HF : Hid (Cells wr g (iX P Q c ys rows zs)) := aa (fun j hj => by
    rw [bC, hbn.out] at hj
    rw [mF (by rw [hbn.out]; exact hj), Km.out.1 j hj]
    dsimp only
    rw [if_pos hj])
   have dw : Below w.heap.size w wr := zB.out.trans (aF.out.mono Uk.out)
   clear Km hlt
   go_wp2
   go_ret
   exact ⟨g, cap, rfl, Uk.out, HF, dw⟩
theorem Cg (P Q G : Int) (Y : Option Addr) (ys : List Int) (yc : Nat) (B : Option Addr) (rows : List Row) (bn bc : Nat) (c : Int) (L : Option Addr) (ls : List Int) (ln lc : Nat) (hr : Hid (p9 P Q G ys rows ls [c] = 0)) (hc0 : 0 ≤ c) (hc1 : c < Q) (hyn : Hid (ys.length = bn)) (hbn : Hid (rows.length = bn)) (hln : Hid (ls.length = ln)) (hlb : ln < 1000000) (hQ : Q < 9223372036854775808) (w : World) (hv : Hid (Vars w)) (hY : Hid (Sl w Y ys)) (hB : Hid (Rw w B rows)) (hL : Hid (Sl w L ls)) :
  Calls Tryz.prog 20 #[gv P Q G, dm Y bn yc B bn bc, .int .i64 c, .slice L ln lc] w (Gh (iX P Q c ys rows ls) bn c ls ln w) := by
 obtain ⟨k1, k2, k3, k4⟩ := yO hr.out
 have cB := aa k1
 have Hl := aa k3
 have hnp : 0 < bn := by have := (ak k1).2.1; have := hyn.out; omega
 have hsl : (iX P Q c ys rows ls).length = bn := by rw [bC]; exact hbn.out
 clear k1 k3 k4
 obtain ⟨w0, HW, av, kC⟩ := Qx P Q G Y yc B bn bc w
 have kV := aa (show ∀ u : World, Hid (Below w0.heap.size w0 u) → Hid (Vars u) from fun u h => aa ((hv.out.below) (af av.out h.out)))
 have kY := aa (show ∀ u : World, Hid (Below w0.heap.size w0 u) → Hid (Sl u Y ys) from fun u h => aa ((hY.out.below) (af av.out h.out)))
 have kB := aa (show ∀ u : World, Hid (Below w0.heap.size w0 u) → Hid (Rw u B rows) from fun u h => aa ((hB.out.below) (af av.out h.out)))
 have kL := aa (show ∀ u : World, Hid (Below w0.heap.size w0 u) → Hid (Sl u L ls) from fun u h => aa ((hL.out.below) (af av.out h.out)))
 have aA : Hid (Below w0.heap.size w0 w0) := aa (Below.refl _ _)
 clear hv hY hB hL
 go_in
 go_wp2_with fail
 rw [HW.out]
 obtain ⟨EI, EH, EG, EF, EE, ⟨xK, EB⟩, ⟨BB, EA⟩, ⟨BA, Ez⟩⟩ := kC.out _ aA
 have hq := ai w0 (.cells #[.int .i64 c] 3)
 have HO : Hid (Sl (w0.alloc (.cells #[.int .i64 c] 3)) (some ⟨w.heap.size + 1 + 1 + 1, 0, none⟩) [c]) := aa (by
  have e : w.heap.size + 1 + 1 + 1 = w0.heap.size := by rw [← HW.out]; simp
  rw [e]
  exact dL (jI w0 3 c))
 have Kz := aa (af aA.out hq)
 clear hq
 go_wp2_with fail
 refine (og P Q G Y ys bn yc B rows bn bc L ls ln lc (some ⟨w.heap.size + 1 + 1 + 1, 0, none⟩) [c] 1 1 0 hr hyn hbn hln hlb (aa rfl) (by omega) hQ _ (kV.out _ Kz) (kY.out _ Kz) (kB.out _ Kz) (kL.out _ Kz) HO).mono ?_
 rintro e w1 ⟨rfl, hb0⟩
 have bF := cZ Kz hb0
 clear EI EH EG EF EE xK EB BB EA BA Ez hb0
 obtain ⟨EI, EH, EG, EF, EE, ⟨xK, EB⟩, ⟨BB, EA⟩, ⟨BA, Ez⟩⟩ := kC.out _ bF
 go_wp2_with fail
 refine (IC P Q G Y ys yc B rows bn bc c L ls ln lc cB hyn hbn hln k2 Hl hc0 hc1 hQ _ (kY.out _ bF) (kB.out _ bF) (kL.out _ bF)).mono ?_
 rintro e w2 ⟨g, cap, rfl, U4, hcA, hb0⟩
 have Ul : Hid (w.heap.size ≤ g) := aa (by have h1 := (af av.out bF.out).size; omega)
 clear U4
 have fD := cZ bF hb0
 clear EI EH EG EF EE xK EB BB EA BA Ez hb0
 have zk := dS w2
 obtain ⟨EI, EH, EG, EF, EE, ⟨xK, EB⟩, ⟨BB, EA⟩, ⟨BA, Ez⟩⟩ := kC.out _ fD
 have kA := aa (show ∀ u : World, Hid (Below w2.heap.size w2 u) → Hid (Sl u (some ⟨g, 0, none⟩) (iX P Q c ys rows ls)) from fun u h => aa ((Cells.toSl hcA).out.below h.out))
 have hga : g ≠ w.heap.size + 2 := fun e => by
  have h1 := hcA.out 0 (by rw [hsl]; exact hnp)
  rw [e, xK] at h1
  cases h1
 have Q9 : w.heap.size + 2 < w2.heap.size := World.block_lt_of_cell? _ _ xK
 go_wp2_with fail
 refine (uT L ls ln lc hln hlb _ (kL.out _ fD)).mono ?_
 rintro e w3 ⟨B2, c2, rfl, hz, hgz, hb0⟩
 have fC := cZ fD hb0
 have zi := cZ zk hb0
 clear EI EH EG EF EE xK EB BB EA BA Ez hb0
 obtain ⟨EI, EH, EG, EF, EE, ⟨xK, EB⟩, ⟨BB, EA⟩, ⟨BA, Ez⟩⟩ := kC.out _ fC
 have dw := af av.out fC.out
 have HA := (kA.out _ zi)
 have HZ := aa hz
 clear hz
 have Cs : ∀ b o, B2 = some ⟨b, o, none⟩ → 0 < ls.length → b ≠ w.heap.size + 2 := fun b o e hp => by
  obtain ⟨g3, e3, h3⟩ := hgz hp
  rw [e] at e3
  cases e3
  omega
 have U3 : ∀ b o, B2 = some ⟨b, o, none⟩ → 0 < ls.length → w.heap.size ≤ b := fun b o e hp => by
  obtain ⟨g3, e3, h3⟩ := hgz hp
  rw [e] at e3
  cases e3
  omega
 clear hgz
 go_wp2
 refine bodyPost_ret (v := .tuple #[jR (some ⟨g, 0, none⟩) bn cap c B2 ln c2, .int .i64 0]) (by simp [results, Tryz.results20, go_sem, xK, BB, BA]) rfl ⟨_, _, _, _, rfl, Ul.out, U3, ?_, ?_, rF dw (by omega) _ _ _⟩
 · exact ((HA.out.set (fun b o e _ => by cases e; exact hga)).set (fun b o e _ => by cases e; exact hga)).set (fun b o e _ => by cases e; exact hga)
 · exact ((HZ.out.set Cs).set Cs).set Cs
def rO (g : FuncId) (caps : Array Value) (p : FT → Bool) (l : List FT) (W : World) : Prop :=
 ∀ k, k < l.length → ∀ w1 : World, Below W.heap.size W w1 → Calls Tryz.prog g (#[fV (l.getD k aY)] ++ caps) w1 (Rt w1 (.bool (p (l.getD k aY))))
def zb (p : FT → Bool) (l : List FT) (w : World) (e : Ending) (w' : World) : Prop := ∃ i : Int, e = .returned (.int .i64 i) ∧ ((i = -1 ∧ ∀ j, j < l.length → p (l.getD j aY) = false) ∨ ∃ k : Nat, k < l.length ∧ i = k ∧ p (l.getD k aY) = true ∧ ∀ j, j < k → p (l.getD j aY) = false) ∧ Below w.heap.size w w'
theorem LY (a0 : Value) (a1 : Value) (p : FT → Bool) (L : Option Addr) (l : List FT) (n c : Nat) (hn : Hid (l.length = n)) (hbig : n < 9223372036854775808) (w : World) (hs : Hid (GL w L l)) (hp : Hid (rO 61 #[a0, a1] p l w)) :
  Calls Tryz.prog 69 #[.slice L n c, .func (.func 61) #[] #[a0, a1]] w (zb p l w) := by
 go_in
 go_wp2
 go_loopw [8] (fun i wr => ∃ k : Nat, k ≤ n ∧ i = .int .i64 k ∧ Hid (∀ j, j < k → p (l.getD j aY) = false) ∧ Hid (Below w.heap.size w wr)) (fun i _ => n - (intOf i).toNat)
 case atStart => exact ⟨0, by omega, rfl, aa (fun j hj => by omega), aa (Below.refl _ _)⟩
 case round =>
  obtain ⟨k, hk, rfl, HR, aF⟩ := hrel
  by_cases hlt : k < n
  case neg =>
   obtain rfl : k = n := by omega
   go_wp2
   go_ret
   exact ⟨-1, rfl, .inl ⟨rfl, fun j hj => HR.out j (by rw [← hn.out]; exact hj)⟩, aF.out⟩
  have hkl : k < l.length := by rw [hn.out]; exact hlt
  obtain ⟨b, o, hA, i0, i1, i2, i3⟩ := hs.out.below aF.out k hkl
  subst hA
  have sV := hp.out k hkl wr aF.out
  obtain ⟨q, hq⟩ : ∃ z, p (l.getD k aY) = z := ⟨_, rfl⟩
  rw [hq] at sV
  have HQ := aa hq
  obtain ⟨x, hx⟩ : ∃ x, l.getD k aY = x := ⟨_, rfl⟩
  rw [hx] at i0 i1 i2 i3 sV
  have HC := aa sV
  clear hx hkl hq sV
  obtain ⟨xk, xY, jL, jM, xys, xB, jN, jO, fE, xL, jm, jo, xl⟩ := x
  dsimp only at i0 i1 i2 i3
  go_wp2_with fail
  refine HC.out.mono ?_
  rintro e w2 ⟨rfl, hb0⟩
  have HB2 := aa (af aF.out hb0)
  clear hb0 i0 i1 i2 i3
  cases q with
  | false =>
   have HN : Hid (∀ j, j < k + 1 → p (l.getD j aY) = false) := aa (fun j hj => by
    by_cases e : j = k
    · subst e; exact HQ.out
    · exact HR.out j (by omega))
   go_wp2
   go_roundw
   case rel => exact ⟨k + 1, by omega, by go_num, HN, HB2⟩
   case measure => simp [intOf]; omega
  | true =>
   go_wp2
   go_ret
   exact ⟨k, rfl, .inr ⟨k, by rw [hn.out]; exact hlt, rfl, HQ.out, HR.out⟩, HB2.out⟩
theorem OX (a0 : Value) (a1 : Value) (p : FT → Bool) (r : Bool) (L : Option Addr) (l : List FT) (n c : Nat) (hr : Hid (l.any p = r)) (hn : Hid (l.length = n)) (hbig : n < 9223372036854775808) (w : World) (hs : Hid (GL w L l)) (hp : Hid (rO 61 #[a0, a1] p l w)) :
  Calls Tryz.prog 63 #[.slice L n c, .func (.func 61) #[] #[a0, a1]] w (Rt w (.bool r)) := by
 go_in
 go_wp2_with fail
 refine (LY a0 a1 p L l n c hn hbig _ hs hp).mono ?_
 rintro e w1 ⟨i, rfl, hi, hb1⟩
 have hd : decide ((0 : Int) ≤ i) = r := by
  rw [← hr.out]
  rcases hi with ⟨rfl, h⟩ | ⟨k, hk, rfl, h, -⟩
  ·
   symm
   rw [show decide ((0 : Int) ≤ -1) = false from rfl, List.any_eq_false]
   intro x hx
   obtain ⟨j, hj, rfl⟩ := List.mem_iff_getElem.1 hx
   have := h j hj
   rw [List.getD_eq_getElem?_getD, List.getElem?_eq_getElem hj] at this
   simpa using this
  ·
   symm
   rw [show decide ((0 : Int) ≤ (k : Int)) = true by simp, List.any_eq_true]
   rw [List.getD_eq_getElem?_getD, List.getElem?_eq_getElem hk] at h
   exact ⟨_, List.getElem_mem hk, h⟩
 clear hi
 go_wp2
 go_ret
 exact ⟨by first | rfl | (rw [← hd]) | simp [hd], hb1⟩
theorem LX (a0 : Value) (p : FT → Bool) (L : Option Addr) (l : List FT) (n c : Nat) (hn : Hid (l.length = n)) (hbig : n < 9223372036854775808) (w : World) (hs : Hid (GL w L l)) (hp : Hid (rO 64 #[a0] p l w)) :
  Calls Tryz.prog 69 #[.slice L n c, .func (.func 64) #[] #[a0]] w (zb p l w) := by
 go_in
 go_wp2
 go_loopw [8] (fun i wr => ∃ k : Nat, k ≤ n ∧ i = .int .i64 k ∧ Hid (∀ j, j < k → p (l.getD j aY) = false) ∧ Hid (Below w.heap.size w wr)) (fun i _ => n - (intOf i).toNat)
 case atStart => exact ⟨0, by omega, rfl, aa (fun j hj => by omega), aa (Below.refl _ _)⟩
 case round =>
  obtain ⟨k, hk, rfl, HR, aF⟩ := hrel
  by_cases hlt : k < n
  case neg =>
   obtain rfl : k = n := by omega
   go_wp2
   go_ret
   exact ⟨-1, rfl, .inl ⟨rfl, fun j hj => HR.out j (by rw [← hn.out]; exact hj)⟩, aF.out⟩
  have hkl : k < l.length := by rw [hn.out]; exact hlt
  obtain ⟨b, o, hA, i0, i1, i2, i3⟩ := hs.out.below aF.out k hkl
  subst hA
  have sV := hp.out k hkl wr aF.out
  obtain ⟨q, hq⟩ : ∃ z, p (l.getD k aY) = z := ⟨_, rfl⟩
  rw [hq] at sV
  have HQ := aa hq
  obtain ⟨x, hx⟩ : ∃ x, l.getD k aY = x := ⟨_, rfl⟩
  rw [hx] at i0 i1 i2 i3 sV
  have HC := aa sV
  clear hx hkl hq sV
  obtain ⟨xk, xY, jL, jM, xys, xB, jN, jO, fE, xL, jm, jo, xl⟩ := x
  dsimp only at i0 i1 i2 i3
  go_wp2_with fail
  refine HC.out.mono ?_
  rintro e w2 ⟨rfl, hb0⟩
  have HB2 := aa (af aF.out hb0)
  clear hb0 i0 i1 i2 i3
  cases q with
  | false =>
   have HN : Hid (∀ j, j < k + 1 → p (l.getD j aY) = false) := aa (fun j hj => by
    by_cases e : j = k
    · subst e; exact HQ.out
    · exact HR.out j (by omega))
   go_wp2
   go_roundw
   case rel => exact ⟨k + 1, by omega, by go_num, HN, HB2⟩
   case measure => simp [intOf]; omega
  | true =>
   go_wp2
   go_ret
   exact ⟨k, rfl, .inr ⟨k, by rw [hn.out]; exact hlt, rfl, HQ.out, HR.out⟩, HB2.out⟩
theorem OW (a0 : Value) (p : FT → Bool) (r : Bool) (L : Option Addr) (l : List FT) (n c : Nat) (hr : Hid (l.any p = r)) (hn : Hid (l.length = n)) (hbig : n < 9223372036854775808) (w : World) (hs : Hid (GL w L l)) (hp : Hid (rO 64 #[a0] p l w)) :
  Calls Tryz.prog 63 #[.slice L n c, .func (.func 64) #[] #[a0]] w (Rt w (.bool r)) := by
 go_in
 go_wp2_with fail
 refine (LX a0 p L l n c hn hbig _ hs hp).mono ?_
 rintro e w1 ⟨i, rfl, hi, hb1⟩
 have hd : decide ((0 : Int) ≤ i) = r := by
  rw [← hr.out]
  rcases hi with ⟨rfl, h⟩ | ⟨k, hk, rfl, h, -⟩
  ·
   symm
   rw [show decide ((0 : Int) ≤ -1) = false from rfl, List.any_eq_false]
   intro x hx
   obtain ⟨j, hj, rfl⟩ := List.mem_iff_getElem.1 hx
   have := h j hj
   rw [List.getD_eq_getElem?_getD, List.getElem?_eq_getElem hj] at this
   simpa using this
  ·
   symm
   rw [show decide ((0 : Int) ≤ (k : Int)) = true by simp, List.any_eq_true]
   rw [List.getD_eq_getElem?_getD, List.getElem?_eq_getElem hk] at h
   exact ⟨_, List.getElem_mem hk, h⟩
 clear hi
 go_wp2
 go_ret
 exact ⟨by first | rfl | (rw [← hd]) | simp [hd], hb1⟩
theorem LZ (a0 : Value) (a1 : Value) (p : FT → Bool) (L : Option Addr) (l : List FT) (n c : Nat) (hn : Hid (l.length = n)) (hbig : n < 9223372036854775808) (w : World) (hs : Hid (GL w L l)) (hp : Hid (rO 70 #[a0, a1] p l w)) :
  Calls Tryz.prog 69 #[.slice L n c, .func (.func 70) #[] #[a0, a1]] w (zb p l w) := by
 go_in
 go_wp2
 go_loopw [8] (fun i wr => ∃ k : Nat, k ≤ n ∧ i = .int .i64 k ∧ Hid (∀ j, j < k → p (l.getD j aY) = false) ∧ Hid (Below w.heap.size w wr)) (fun i _ => n - (intOf i).toNat)
 case atStart => exact ⟨0, by omega, rfl, aa (fun j hj => by omega), aa (Below.refl _ _)⟩
 case round =>
  obtain ⟨k, hk, rfl, HR, aF⟩ := hrel
  by_cases hlt : k < n
  case neg =>
   obtain rfl : k = n := by omega
   go_wp2
   go_ret
   exact ⟨-1, rfl, .inl ⟨rfl, fun j hj => HR.out j (by rw [← hn.out]; exact hj)⟩, aF.out⟩
  have hkl : k < l.length := by rw [hn.out]; exact hlt
  obtain ⟨b, o, hA, i0, i1, i2, i3⟩ := hs.out.below aF.out k hkl
  subst hA
  have sV := hp.out k hkl wr aF.out
  obtain ⟨q, hq⟩ : ∃ z, p (l.getD k aY) = z := ⟨_, rfl⟩
  rw [hq] at sV
  have HQ := aa hq
  obtain ⟨x, hx⟩ : ∃ x, l.getD k aY = x := ⟨_, rfl⟩
  rw [hx] at i0 i1 i2 i3 sV
  have HC := aa sV
  clear hx hkl hq sV
  obtain ⟨xk, xY, jL, jM, xys, xB, jN, jO, fE, xL, jm, jo, xl⟩ := x
  dsimp only at i0 i1 i2 i3
  go_wp2_with fail
  refine HC.out.mono ?_
  rintro e w2 ⟨rfl, hb0⟩
  have HB2 := aa (af aF.out hb0)
  clear hb0 i0 i1 i2 i3
  cases q with
  | false =>
   have HN : Hid (∀ j, j < k + 1 → p (l.getD j aY) = false) := aa (fun j hj => by
    by_cases e : j = k
    · subst e; exact HQ.out
    · exact HR.out j (by omega))
   go_wp2
   go_roundw
   case rel => exact ⟨k + 1, by omega, by go_num, HN, HB2⟩
   case measure => simp [intOf]; omega
  | true =>
   go_wp2
   go_ret
   exact ⟨k, rfl, .inr ⟨k, by rw [hn.out]; exact hlt, rfl, HQ.out, HR.out⟩, HB2.out⟩
mutual
def FT.hld (P Q G : Int) (xs : List Int) : FT → Bool
 | ⟨kind, _, _, _, ys, _, _, _, rows, _, _, _, l⟩ => if kind = 1 then lS P Q G ys rows (xs.take (aU rows)) else if kind = 2 then Jc P Q G xs l else Jb P Q G xs l
def Jc (P Q G : Int) (xs : List Int) : List FT → Bool
 | [] => true
 | f :: l => f.hld P Q G xs && Jc P Q G xs l
def Jb (P Q G : Int) (xs : List Int) : List FT → Bool
 | [] => false
 | f :: l => f.hld P Q G xs || Jb P Q G xs l
end
theorem D7 {P Q G : Int} {xs : List Int} : ∀ (l : List FT), Jc P Q G xs l = l.all (FT.hld P Q G xs)
 | [] => by rw [Jc]; rfl
 | f :: l => by rw [Jc, D7 l, List.all_cons]
theorem D6 {P Q G : Int} {xs : List Int} : ∀ (l : List FT), Jb P Q G xs l = l.any (FT.hld P Q G xs)
 | [] => by rw [Jb]; rfl
 | f :: l => by rw [Jb, D6 l, List.any_cons]
theorem FT.hld_eq {P Q G : Int} {xs : List Int} (f : FT) : f.hld P Q G xs = if f.kind = 1 then lS P Q G f.ys f.rows (xs.take (aU f.rows)) else if f.kind = 2 then f.l.all (FT.hld P Q G xs) else f.l.any (FT.hld P Q G xs) := by
 cases f; rw [FT.hld, D7, D6]
theorem dU.fls {w : World} {f : FT} (h : dU w f) : GL w f.L f.l := by cases f; rw [dU] at h; exact h.2.2.2.1
theorem Sl.takeF {w : World} {X : Option Addr} {xs : List Int} (n : Nat) (h : Sl w X xs) : Sl w X (xs.take n) := fun k hk => by
 rw [List.length_take] at hk
 obtain ⟨b, o, h1, h2⟩ := h k (by omega)
 refine ⟨b, o, h1, ?_⟩
 rw [h2, List.getD_eq_getElem?_getD, List.getD_eq_getElem?_getD, List.getElem?_take, if_pos (by omega)]
theorem uV {p : FT → Bool} : ∀ (l : List FT), l.all p = !(l.any fun x => !p x)
 | [] => rfl
 | x :: l => by rw [List.all_cons, List.any_cons, uV l, Bool.not_or, Bool.not_not]
abbrev XT (gb xb : Nat) : Value := .func (.func 61) #[] #[.pointer (some ⟨gb, 0, none⟩), .pointer (some ⟨xb, 0, none⟩)]
theorem OP (P Q G : Int) (X : Option Addr) (xn xc : Nat) (x : FT) (b : Bool) (u : World) (gb xb : Nat) (hg : eO u gb P Q G) (hx : u.cell? ⟨xb, 0, none⟩ = some (.slice X xn xc))
  (HC : Hid (∀ u2 : World, Below u.heap.size u u2 → Calls Tryz.prog 27 #[gv P Q G, fV x, .slice X xn xc] u2 (Rt u2 (.bool b)))) :
  Calls Tryz.prog 61 #[fV x, .pointer (some ⟨gb, 0, none⟩), .pointer (some ⟨xb, 0, none⟩)] u (Rt u (.bool b)) := by
 obtain ⟨kind, Y, yn, yc, ys, B, bn, bc, rows, L, ln, lc, l⟩ := x
 obtain ⟨w0, HW, av, kC⟩ := st1 (fO kind Y yn yc B bn bc L ln lc) qQ u
 have aA := dS w0
 obtain ⟨g0, g1, g2⟩ := hg.below av.out
 have x0 := cell_below hx av.out
 clear hg hx
 go_in
 go_upto_region 1 with (fail)
 rw [show u.alloc (fO kind Y yn yc B bn bc L ln lc) = w0 from HW.out]
 obtain ⟨c0, c1, c2, c3⟩ := kC.out _ aA
 go_wp2_with fail
 refine (HC.out _ av.out).mono ?_
 rintro e w2 ⟨rfl, hb2⟩
 have HB2 := cZ aA hb2
 clear hb2 c0 c1 c2 c3 g0 g1 g2 x0
 go_wp2
 go_ret
 exact ⟨rfl, gN av HB2⟩
theorem OO (x : FT) (b : Bool) (u : World) (pb gb xb : Nat) (hp : u.cell? ⟨pb, 0, none⟩ = some (XT gb xb))
  (HC : Hid (∀ u2 : World, Below u.heap.size u u2 → Calls Tryz.prog 61 #[fV x, .pointer (some ⟨gb, 0, none⟩), .pointer (some ⟨xb, 0, none⟩)] u2 (Rt u2 (.bool b)))) :
  Calls Tryz.prog 64 #[fV x, .pointer (some ⟨pb, 0, none⟩)] u (Rt u (.bool (!b))) := by
 obtain ⟨kind, Y, yn, yc, ys, B, bn, bc, rows, L, ln, lc, l⟩ := x
 obtain ⟨w0, HW, av, kC⟩ := st1 (fO kind Y yn yc B bn bc L ln lc) qQ u
 have aA := dS w0
 have x0 := cell_below hp av.out
 clear hp
 go_in
 go_upto_region 1 with (fail)
 rw [show u.alloc (fO kind Y yn yc B bn bc L ln lc) = w0 from HW.out]
 obtain ⟨c0, c1, c2, c3⟩ := kC.out _ aA
 go_wp2_with fail
 refine (HC.out _ av.out).mono ?_
 rintro e w2 ⟨rfl, hb2⟩
 have HB2 := cZ aA hb2
 clear hb2 c0 c1 c2 c3 x0
 go_wp2
 go_ret
 exact ⟨rfl, gN av HB2⟩
theorem wL (P Q G : Int) (hQ : Q < 9223372036854775808) (hG : Hid (aJ P Q G = true)) (X : Option Addr) (xs : List Int) (xn xc : Nat) (mq : Hid (xs.length = xn)) (qp : xn ≤ xc) (hxb : xn ≤ 1000) :
  ∀ (d : Nat) (f : FT) (w : World), f.dp ≤ d → Hid (Vars w) → Hid (dU w f) → Hid (Sl w X xs) → f.sh → f.at_ P Q G → f.unk ≤ xn → Calls Tryz.prog 27 #[gv P Q G, fV f, .slice X xn xc] w (Rt w (.bool (f.hld P Q G xs))) := by
 intro d
 induction d with
 | zero => intro f _ h; have := f.dp_eq; omega
 | succ d ih =>
  intro f w hd hv hF hX hs ha hu
  have ih := aa ih
  have HU := aa (fun u hF => mU P Q G f.dp f u (Nat.le_refl _) hF ha)
  have HH := aa (f.hld_eq (P := P) (Q := Q) (G := G) (xs := xs))
  have Qi := aa f.unk_eq
  have HS := aa (f.sh_eq.1 hs)
  have HA := aa (f.at_eq.1 ha)
  obtain ⟨hb, Gv⟩ : ∃ z, f.hld P Q G xs = z := ⟨_, rfl⟩
  obtain ⟨un, hun⟩ : ∃ z, f.unk = z := ⟨_, rfl⟩
  rw [Gv] at HH ⊢
  rw [hun] at HU Qi hu
  have HDK : Hid (∀ k, k < f.l.length → (f.l.getD k aY).dp ≤ d) := aa (fun k hk => FT.kid_dp hd hk)
  clear Gv hun hs ha hd
  obtain ⟨kind, Y, yn, yc, ys, B, bn, bc, rows, L, ln, lc, l⟩ := f
  obtain ⟨hyn, hbn, hln, hlb⟩ := hF.out.lens
  dsimp only at hyn hbn hln hlb HH Qi HS HA HDK
  obtain ⟨w0, HW, av, kC⟩ := xQ (aN P Q G) vw (fO kind Y yn yc B bn bc L ln lc) KN (.cells #[.slice X xn xc] 24) Nv w
  have kF := sM av hF
  have kV := mkV av hv
  have kX := mkS av hX
  have aA := dS w0
  clear hF hv hX
  go_in
  go_upto_region 1 with (fail)
  rw [show ((w.alloc (aN P Q G)).alloc (fO kind Y yn yc B bn bc L ln lc)).alloc (.cells #[.slice X xn xc] 24) = w0 from HW.out]
  go_upto_region 2 with (fail)
  obtain ⟨w1, hw1, HB1, -, -, kP⟩ := su (.cells #[XT w.heap.size (w.heap.size + 2)] 52) Nv w0
  rw [hw1]
  clear hw1
  have bF := nK aA HB1
  obtain ⟨g0, g1, g2, c0, c1, c2, c3, x0⟩ := kC.out _ bF
  have m0 := kP.out _ (dS w1)
  by_cases hk1 : kind = 1
  ·
   have d1 : (kind == 1) = true := by simp [hk1]
   have kr : aP P Q G ys rows = true := by
    rcases HA.out with ⟨-, h⟩ | ⟨h, -⟩
    · exact h
    · omega
   have e1 : aU rows = un := by rw [Qi.out, if_pos hk1]
   have HE : Hid (lS P Q G ys rows (xs.take un) = hb) := aa (by rw [HH.out, if_pos hk1, e1])
   have Ze := (ak kr).2.2.2.2.2.2.1
   have HLH := aa (fun (u : World) hv hY hB hL => Ch P Q G Y ys yn yc B rows bn bc X (xs.take un) un xc hb HE (aa hyn) (aa hbn) (aa (by rw [List.length_take]; have := mq.out; omega)) (by omega) hQ u hv hY hB hL)
   have Xh : un ≤ xc := by omega
   have Mc : un ≤ 12 := by omega
   clear HH Qi HS HA HDK kr e1 Ze hk1
   go_wp2_with fail
   have hO := aa (fun (u : World) (hu : Hid (Below w1.heap.size w1 u)) => And.intro (cell_below g0 hu.out) (And.intro (cell_below g1 hu.out) (And.intro (cell_below g2 hu.out) (And.intro (cell_below c0 hu.out) (And.intro (cell_below c1 hu.out) (And.intro (cell_below c2 hu.out) (And.intro (cell_below c3 hu.out) (cell_below x0 hu.out))))))))
   clear g0 g1 g2 c0 c1 c2 c3 x0
   refine je [] (dS w1) (fun hHeld => ?_)
   refine aX 0 1 2 3 ?_
   refine aQ 4 ?_
   refine dO 5 fun K hK => ?_
   go_simp
   refine (HU.out _ (kF.out _ (nK bF hHeld))).mono ?_
   rintro e wA ⟨rfl, bA⟩
   refine hK.out _ _ (cZ hHeld bA) (fun hHeld => ?_)
   clear hK K
   refine aQ 6 ?_
   refine dO 7 fun K hK => ?_
   go_simp
   refine (HLH.out _ (kV.out _ (nK bF hHeld)) (aa (kF.out _ (nK bF hHeld)).out.rel.1) (aa (kF.out _ (nK bF hHeld)).out.rel.2) (aa ((kX.out _ (nK bF hHeld)).out.takeF un))).mono ?_
   rintro e wA ⟨rfl, bA⟩
   refine hK.out _ _ (cZ hHeld bA) (fun hHeld => ?_)
   clear hK K
   refine aQ 8 ?_
   refine jf ?_
   clear hO
   have WO := nK (dS w1) hHeld
   clear hHeld
   clear d1
   go_wp2
   go_ret
   exact ⟨rfl, gN av (nK bF WO)⟩
  have d1 : (kind == 1) = false := by simp [hk1]
  have Gp : Hid (∀ k, k < l.length → (l.getD k aY).sh ∧ (l.getD k aY).at_ P Q G ∧ (l.getD k aY).unk ≤ xn ∧ (l.getD k aY).dp ≤ d) := aa (fun k hk => by
   rcases HS.out with ⟨k1, k2⟩ | ⟨k1, k2, k3, k4, k5⟩
   · omega
   ·
    rcases HA.out with ⟨m1, _⟩ | ⟨_, m2⟩
    · omega
    ·
     refine ⟨k5 k hk, m2 k hk, ?_, HDK.out k hk⟩
     have h1 := tH hk
     have h2 := Qi.out
     rw [if_neg hk1] at h2
     omega)
  have Uj : Hid (hb = if kind = 2 then l.all (FT.hld P Q G xs) else l.any (FT.hld P Q G xs)) := aa (by rw [HH.out, if_neg hk1])
  have Sa : Hid (∀ (k : Nat), k < l.length → ∀ u : World, Below w1.heap.size w1 u → Calls Tryz.prog 61 #[fV (l.getD k aY), .pointer (some ⟨w.heap.size, 0, none⟩), .pointer (some ⟨w.heap.size + 2, 0, none⟩)] u (Rt u (.bool ((l.getD k aY).hld P Q G xs)))) := aa (fun k hk u hbu => by
   obtain ⟨h1, h2, h3, h4⟩ := Gp.out k hk
   have nG := cZ bF hbu
   obtain ⟨g0, g1, g2, -, -, -, -, x0⟩ := kC.out _ nG
   refine OP P Q G X xn xc _ _ u _ _ ⟨g0, g1, g2⟩ x0 (aa fun u2 hb2 => ?_)
   have vo := cZ nG hb2
   obtain ⟨-, -, -, -, -, -, -, hX⟩ := (kF.out _ vo).out.kid (k := k) (by dsimp only; omega)
   exact ih.out _ u2 h4 (kV.out _ vo) (aa hX) (kX.out _ vo) h1 h2 h3)
  have PL : Hid (GL w1 L l) := aa (kF.out _ bF).out.fls
  clear HH Qi HS HA HDK Gp HU
  by_cases hk2 : kind = 2
  ·
   have d2 : (kind == 2) = true := by simp [hk2]
   obtain ⟨r, hr⟩ : ∃ z, (l.any fun x => !x.hld P Q G xs) = z := ⟨_, rfl⟩
   have hbr : hb = !r := by
    rw [Uj.out, if_pos hk2, ← hr]
    exact uV l
   subst hbr
   have HS2 : Hid (rO 64 #[.pointer (some ⟨w0.heap.size, 0, none⟩)] (fun x => !x.hld P Q G xs) l w1) := aa (fun k hk u hbu =>
    OO _ _ u _ _ _ (kP.out _ (aa hbu)) (aa fun u2 hb2 => Sa.out k hk u2 (af hbu hb2)))
   clear Uj hk1 hk2
   go_wp2_with fail
   refine (OW _ (fun x => !x.hld P Q G xs) r L l ln lc (aa hr) (aa hln) hlb _ PL HS2).mono ?_
   rintro e w2 ⟨rfl, hb2⟩
   have HB2 := cZ bF hb2
   clear hb2 g0 g1 g2 c0 c1 c2 c3 x0 m0 d1 d2
   go_wp2
   go_ret
   exact ⟨rfl, gN av HB2⟩
  ·
   have d2 : (kind == 2) = false := by simp [hk2]
   have hr : l.any (FT.hld P Q G xs) = hb := by rw [Uj.out, if_neg hk2]
   have MX : Hid (rO 61 #[.pointer (some ⟨w.heap.size, 0, none⟩), .pointer (some ⟨w.heap.size + 2, 0, none⟩)] (FT.hld P Q G xs) l w1) := Sa
   have HR := aa hr
   clear Uj hk1 hk2 hr
   go_wp2_with fail
   refine (OX _ _ (FT.hld P Q G xs) hb L l ln lc HR (aa hln) hlb _ PL MX).mono ?_
   rintro e w2 ⟨rfl, hb2⟩
   have HB2 := cZ bF hb2
   clear hb2 g0 g1 g2 c0 c1 c2 c3 x0 m0 d1 d2
   go_wp2
   go_ret
   exact ⟨rfl, gN av HB2⟩
def jb (q : Int) : Int := IntKind.u64.wrap (IntKind.u64.wrap (2 ^ min (Lib.bitLen (q - 1).toNat) 64) - 1)
def gQ (h : List Int) (q m : Int) : Nat → Int → Int → Int × Int × Bool
 | 0, c, x => (x.tmod q, c, false)
 | k + 1, c, x => if c = 1099511627776 then (0, c, true) else if bits BinOp.and IntKind.u64 (nJ (oG h c)) m < q then (bits BinOp.and IntKind.u64 (nJ (oG h c)) m, c + 1, false) else gQ h q m k (c + 1) (bits BinOp.and IntKind.u64 (nJ (oG h c)) m)
theorem yt {h : List Int} {q m : Int} (hq : 1 ≤ q) : ∀ (k : Nat) (c x : Int), 0 ≤ x → 0 ≤ (gQ h q m k c x).1 ∧ (gQ h q m k c x).1 < q
 | 0, c, x, hx => by
  simp only [gQ]
  rw [Int.tmod_eq_emod_of_nonneg hx]
  exact ⟨Int.emod_nonneg _ (by omega), Int.emod_lt_of_pos _ (by omega)⟩
 | k + 1, c, x, hx => by
  have hb := bits_lo_u64 BinOp.and (nJ (oG h c)) m
  simp only [gQ]
  by_cases hc : c = 1099511627776
  · rw [if_pos hc]; exact ⟨Int.le_refl _, by show (0 : Int) < q; omega⟩
  ·
   rw [if_neg hc]
   by_cases hy : bits BinOp.and IntKind.u64 (nJ (oG h c)) m < q
   · rw [if_pos hy]; exact ⟨hb, hy⟩
   · rw [if_neg hy]; exact yt hq k _ _ hb
theorem uo {h : List Int} {q m : Int} : ∀ (k : Nat) (c x : Int), c ≤ 1099511627776 → c ≤ (gQ h q m k c x).2.1 ∧ (gQ h q m k c x).2.1 ≤ 1099511627776
 | 0, c, x, hc => ⟨Int.le_refl _, hc⟩
 | k + 1, c, x, hc => by
  simp only [gQ]
  by_cases he : c = 1099511627776
  · rw [if_pos he]; exact ⟨Int.le_refl _, hc⟩
  ·
   rw [if_neg he]
   by_cases hy : bits BinOp.and IntKind.u64 (nJ (oG h c)) m < q
   · rw [if_pos hy]; exact ⟨by show c ≤ c + 1; omega, by show c + 1 ≤ 1099511627776; omega⟩
   ·
    rw [if_neg hy]
    have h2 := uo (h := h) (q := q) (m := m) k (c + 1) (bits BinOp.and IntKind.u64 (nJ (oG h c)) m) (by omega)
    exact ⟨by omega, h2.2⟩
theorem rC (h : List Int) (hl : Hid (h.length = 32)) (hb : Hid (aH h = true)) (q : Int) (hq1 : 1 ≤ q) (hq2 : q < 2305843009213693952) (c : Int) (hc0 : 0 ≤ c) (hc1 : c ≤ 1099511627776) (b : Nat) (w0 : World) (hv : Hid (bX w0)) (w : World) (hB0 : Hid (Below w0.heap.size w0 w)) (hB : w0.heap.size ≤ b) (f0 : Bool) (hf0 : f0 = true → c = 1099511627776) (hS : Hid (fP w b h c f0)) (n c2 : Int) (f : Bool) (hN : Kp (gQ h q (jb q) 256 c 0 = (n, c2, f))) :
  Calls Tryz.prog 138 #[.pointer (some ⟨b, 0, none⟩), .int .i64 q] w fun e w' => e = .returned (.int .i64 n) ∧ fP w' b h c2 f ∧ w.grownBy w' (some b) := by
 have q0 : IntKind.i64.wrap (q - 1) = q - 1 := IntWalk.i64_in _ (by omega)
 have q2 : IntKind.u64.wrap (q - 1) = q - 1 := by simp [IntKind.wrap, IntKind.bits, IntKind.signed]; omega
 have q3 : IntKind.u64.wrap q = q := by simp [IntKind.wrap, IntKind.bits, IntKind.signed]; omega
 go_in
 go_wp2_with fail
 refine (Tryz.bits_Len64 (q - 1) _ (by omega) (by omega)).mono ?_
 rintro e w1 ⟨rfl, rfl⟩
 obtain ⟨ln, hln⟩ : ∃ n, Lib.bitLen (q - 1).toNat = n := ⟨_, rfl⟩
 obtain ⟨m1, hm1⟩ : ∃ m, IntKind.u64.wrap (2 ^ min ln 64) = m := ⟨_, rfl⟩
 obtain ⟨m, hm⟩ : ∃ m, IntKind.u64.wrap (m1 - 1) = m := ⟨_, rfl⟩
 have HN : Kp (gQ h q m 256 c 0 = (n, c2, f)) := ⟨by rw [← hN.1, jb, hln, hm1, hm]⟩
 rw [hln]
 go_wp2
 clear hln hm hm1 hN
 go_loopw [6, 14] (fun x i u => ∃ (k : Nat) (y cc : Int) (ff : Bool), k ≤ 256 ∧ i = .int .i64 k ∧ x = .int .u64 y ∧ Hid (0 ≤ y) ∧ Hid (0 ≤ cc ∧ cc ≤ 1099511627776) ∧ Kp (gQ h q m (256 - k) cc y = (n, c2, f)) ∧ Hid (fP u b h cc ff) ∧ Hid ((ff = true → cc = 1099511627776) ∧ (0 < k → ff = false)) ∧ Hid (w1.grownBy u (some b))) (fun _ i _ => 256 - (intOf i).toNat)
 case atStart => exact ⟨0, 0, c, f0, by omega, rfl, rfl, aa (Int.le_refl _), aa ⟨hc0, hc1⟩, HN, hS, aa ⟨hf0, fun h0 => absurd h0 (Nat.lt_irrefl _)⟩, aa (aC (Below.refl _ _) _)⟩
 case round =>
  obtain ⟨k, y, cc, ff, hk, rfl, rfl, HY, HC, qm, Ew, Ws, iq⟩ := hrel
  obtain ⟨U8, Zw⟩ := HC.out
  by_cases hlt : k < 256
  ·
   have OQ : 256 - k = (256 - (k + 1)) + 1 := by omega
   by_cases hcf : cc = 1099511627776
   ·
    subst hcf
    have HE : Kp ((0, 1099511627776, true) = (n, c2, f)) := ⟨by rw [← qm.1, OQ, gQ, if_pos rfl]⟩
    go_wp2_with fail
    refine (AO h hl b ff _ Ew).mono ?_
    rintro e w2 ⟨rfl, hS2, hG2⟩
    have HS2 := aa hS2
    have HG2 := aa (ax iq.out hG2)
    clear hS2 hG2
    go_upto_region 6 with ((with_reducible show wpList _ _ _ (⟨none, _, _, _, _, _⟩ :: _) _ _); refine wpList_store_row rfl 32 _ _ rfl w2.heap.size (arr .u8 (aZ 32)) rfl rfl _ _ (heap_alloc_new _ _) (aW rfl) (fM (l := aZ 32) rfl rfl) (dQ _) ?_)
    rw [World.setRow_alloc_new]
    try simp only [Act.put]
    have zf := aa (HS2.out.below (ai w2 (.cells (arr .u8 (aZ 32)) 32)))
    have Ex := aa (bT HG2.out (.cells (arr .u8 (aZ 32)) 32))
    obtain ⟨W3, hW3⟩ : ∃ u, w2.alloc (.cells (arr .u8 (aZ 32)) 32) = u := ⟨_, rfl⟩
    rw [hW3] at zf Ex ⊢
    clear hW3
    obtain ⟨f1, f2⟩ := zf.out.full hl.out
    have he1 : n = 0 := by have h2 := HE.1; simp only [Prod.mk.injEq] at h2; exact h2.1.symm
    have he2 : c2 = 1099511627776 := by have h2 := HE.1; simp only [Prod.mk.injEq] at h2; exact h2.2.1.symm
    have OB : f = true := by have h2 := HE.1; simp only [Prod.mk.injEq] at h2; exact h2.2.2.symm
    go_wp2
    go_ret
    exact ⟨by rw [he1]; rfl, by rw [he2, OB]; exact zf.out, Ex.out⟩
   ·
    have hcl : cc < 1099511627776 := by omega
    have Al : ff = false := by
     cases hq : ff with
     | false => rfl
     | true => exact absurd (Ws.out.1 hq) hcf
    subst Al
    have TZ := aa (hv.out.below (hB0.out.trans (oD iq.out hB hB0.out.size)))
    go_wp2_with fail
    refine (F6 h hl hb cc U8 hcl b _ TZ Ew).mono ?_
    rintro e w2 ⟨rfl, hS2, hG2⟩
    obtain ⟨R, hR⟩ : ∃ R, oG h cc = R := ⟨_, rfl⟩
    have jl : Hid (R.length = 32) := aa (by rw [← hR]; exact J2 _ _)
    have vT : Hid (aH R = true) := aa (by rw [← hR]; exact Db _ _)
    have Ko : Kp ((if bits BinOp.and IntKind.u64 (nJ R) m < q then (bits BinOp.and IntKind.u64 (nJ R) m, cc + 1, false) else gQ h q m (256 - (k + 1)) (cc + 1) (bits BinOp.and IntKind.u64 (nJ R) m)) = (n, c2, f)) := ⟨by rw [← qm.1, OQ, gQ, if_neg hcf, hR]⟩
    rw [hR]
    have HS2 := aa hS2
    have HG2 := aa (ax iq.out hG2)
    clear hS2 hG2 hR qm OQ
    go_upto_region 6 with ((with_reducible show wpList _ _ _ (⟨none, _, _, _, _, _⟩ :: _) _ _); refine wpList_store_row rfl 32 _ _ rfl w2.heap.size (arr .u8 R) rfl rfl _ _ (heap_alloc_new _ _) (aW jl.out) (fM (l := aZ 32) rfl jl.out) (dQ _) ?_)
    rw [World.setRow_alloc_new]
    try simp only [Act.put]
    have KT : Hid (cK .u8 32 (w2.alloc (.cells (arr .u8 R) 32)) w2.heap.size R) := aa (cK.new _ _)
    have zf := aa (HS2.out.below (ai w2 (.cells (arr .u8 R) 32)))
    have Ex := aa (bT HG2.out (.cells (arr .u8 R) 32))
    obtain ⟨W3, hW3⟩ : ∃ u, w2.alloc (.cells (arr .u8 R) 32) = u := ⟨_, rfl⟩
    rw [hW3] at zf Ex KT ⊢
    clear hW3
    obtain ⟨f1, f2⟩ := zf.out.full hl.out
    go_wp2_with ((with_reducible show wpList _ _ _ (⟨some 22, _, _, _, _, _⟩ :: _) _ _); refine wpList_load_row rfl 32 _ rfl w2.heap.size rfl _ _ _ _ KT.out Tryz.underlying32 rfl (aW jl.out) ?_)
    clear f1 f2
    refine (CV R jl vT _).mono ?_
    rintro e w4 ⟨rfl, hb4⟩
    have vS := aa (zf.out.below hb4)
    have GH := aa (ax Ex.out (aC hb4 _))
    have hz0 := bits_lo_u64 BinOp.and (nJ R) m
    obtain ⟨z, hz⟩ : ∃ z, bits BinOp.and IntKind.u64 (nJ R) m = z := ⟨_, rfl⟩
    rw [hz] at hz0 Ko
    obtain ⟨fr, hfr⟩ : ∃ z, nJ R = z := ⟨_, rfl⟩
    rw [hfr] at hz ⊢
    clear hb4 hfr
    by_cases UI : z < q
    ·
     have HE : Kp ((z, cc + 1, false) = (n, c2, f)) := ⟨by rw [← Ko.1, if_pos UI]⟩
     have d1 : decide (z < q) = true := by simp [UI]
     have z1 : IntKind.i64.wrap z = z := IntWalk.i64_in _ (by omega)
     have he1 : n = z := by have h2 := HE.1; simp only [Prod.mk.injEq] at h2; exact h2.1.symm
     have he2 : c2 = cc + 1 := by have h2 := HE.1; simp only [Prod.mk.injEq] at h2; exact h2.2.1.symm
     have OB : f = false := by have h2 := HE.1; simp only [Prod.mk.injEq] at h2; exact h2.2.2.symm
     have Dr := aa he1
     have HE2 := aa he2
     have Wx := aa OB
     clear Ko he1 he2 OB
     go_wp2
     go_ret
     exact ⟨by rw [Dr.out]; rfl, by rw [HE2.out, Wx.out]; exact vS.out, GH.out⟩
    ·
     have HE : Kp (gQ h q m (256 - (k + 1)) (cc + 1) z = (n, c2, f)) := ⟨by rw [← Ko.1, if_neg UI]⟩
     have d1 : decide (z < q) = false := by simp; omega
     have HZ0 := aa hz0
     have PR : Hid (0 ≤ cc + 1 ∧ cc + 1 ≤ 1099511627776) := aa (by omega)
     clear Ko
     go_wp2
     go_roundw
     case rel => exact ⟨k + 1, z, cc + 1, false, by omega, by go_num, rfl, HZ0, PR, HE, vS, aa ⟨(fun h0 => absurd h0 (by decide)), (fun _ => rfl)⟩, GH⟩
     case measure => simp [intOf]; omega
  ·
   obtain rfl : k = 256 := by omega
   obtain rfl : ff = false := Ws.out.2 (by omega)
   have hy := HY.out
   have HE : Kp ((y.tmod q, cc, false) = (n, c2, f)) := ⟨by rw [← qm.1]; rfl⟩
   obtain ⟨z, hz⟩ : ∃ z, y.tmod q = z := ⟨_, rfl⟩
   have hz0 : 0 ≤ z ∧ z < q := by
    rw [← hz, Int.tmod_eq_emod_of_nonneg hy]
    exact ⟨Int.emod_nonneg _ (by omega), Int.emod_lt_of_pos _ (by omega)⟩
   have z1 : IntKind.i64.wrap z = z := IntWalk.i64_in _ (by omega)
   have qz : ((q : Int) == 0) = false := by simp; omega
   have qz2 : ¬ (q = 0) := by omega
   have he1 : n = z := by have h2 := HE.1; simp only [Prod.mk.injEq] at h2; rw [← hz]; exact h2.1.symm
   have he2 : c2 = cc := by have h2 := HE.1; simp only [Prod.mk.injEq] at h2; exact h2.2.1.symm
   have OB : f = false := by have h2 := HE.1; simp only [Prod.mk.injEq] at h2; exact h2.2.2.symm
   have Dr := aa he1
   have HE2 := aa he2
   have Wx := aa OB
   clear HE he1 he2 OB hlt qm
   go_wp2
   go_ret
   exact ⟨by rw [Dr.out]; rfl, by rw [HE2.out, Wx.out]; exact Ew.out, iq.out⟩
end Go.Proofs.YtbljkkpnpcgjfaaGreatDoor