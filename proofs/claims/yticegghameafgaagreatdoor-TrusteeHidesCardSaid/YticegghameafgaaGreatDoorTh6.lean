/- Contracts and lemmas: HdH, HdT. -/
import Derived.Deep.QuietTactic
import Derived.BigQuiet
import Derived.Test.YticegghameafgaaGreatDoorTh5
set_option linter.unusedVariables false
set_option linter.unusedSimpArgs false
set_option maxRecDepth 100000
set_option maxHeartbeats 25600000
namespace Go.Proofs.YticegghameafgaaGreatDoor
open Go.RowKit jk
theorem EK (P : Int) (q : Nat) (G need n : Int) (h : List Int) (c bs : Int) (hl : Hid (h.length = 32)) (tL : Hid (ax h = true)) (jR : Hid (au P (q : Int) G = true)) (hq : q ≤ 11) (Q4 : need ≤ 3) (b0 : 0 ≤ bs) (b1 : bs < 256) (w : World) (hV : Hid (Vars w)) (hd : Hid (dx w)) :
  Calls Tryz.prog 4 #[gv P (q : Int) G, .int .i64 need, .int .i64 n, .agg (aC h c), .int .u8 bs] w (Rt w (.bool true)) := by
 have hQ : (q : Int) < 9223372036854775808 := by omega
 obtain ⟨W, hW⟩ : ∃ W, (w.alloc (aM P q G)).alloc (.cells (aC h c) 27) = W := ⟨_, rfl⟩
 have HI0 : Hid (CR w P q G h c W) := aa (by rw [← hW]; exact CR.start w P q G h c)
 have HW := aa hW
 have d1 : decide ((11 : Int) < (q : Int)) = false := by simp; omega
 have d2 : decide ((3 : Int) < need) = false := by simp; omega
 clear hW
 go_in
 go_upto_region 1 with (fail)
 rw [HW.out]
 clear HW
 go_wp2_with fail
 refine (yt _ (aa (hV.out.below HI0.out.b))).mono ?_
 rintro e w1 ⟨rfl, hb1⟩
 have HI1 := aa (HI0.out.below hb1)
 clear hb1 HI0
 obtain ⟨g0, g1, g2⟩ := HI1.out.gb
 go_wp2_with fail
 clear g0 g1 g2
 refine (iV P q G true jR hQ _).mono ?_
 rintro e w2 ⟨rfl, hb2⟩
 have HI2 := aa (HI1.out.below hb2)
 clear hb2 HI1
 obtain ⟨g0, g1, g2⟩ := HI2.out.gb
 go_wp2_with ((with_reducible show wpList _ _ _ (⟨some 46, _, _, _, _, _⟩ :: _) _ _); refine wpList_load_row rfl 27 _ rfl (w.heap.size + 1) rfl _ _ _ _ HI2.out.d Tryz.underlying27 rfl (aj hl.out) ?_)
 clear g0 g1 g2
 refine (Cu P q G need n h c hl tL hQ _ (aa (hV.out.below HI2.out.b)) (aa (hd.out.below HI2.out.b))).mono ?_
 intro e wD hD
 rcases hD with ⟨_, x, hx, rfl, hbD⟩ | ⟨m1, nn, f, c2, _, F5, hnn, hfl, hfs, hf0, hmn, EI, hnq, hok⟩
 ·
  have Qk := aa (HI2.out.below hbD)
  have d3 : (x != 0) = true := by simp [hx]
  have d4 : (x == 0) = false := by simp [hx]
  obtain ⟨Ko, hD1, LU, hb2⟩ := tN wD 0 (.slice none 0 0) (.slice none 0 0) (aH 32) 0
  have Mt := aa Ko
  have HD1 := aa hD1
  have HI3 := aa (Qk.out.below hb2)
  clear hbD Ko hD1 LU hb2 Qk
  go_upto_region 6 with (first
   | ((with_reducible show wpList _ _ _ (⟨none, Op.store _ (Operand.tmp 11) _, _, _, _, _⟩ :: _) _ _); refine wpList_store_row rfl 32 _ _ rfl wD.heap.size j_ rfl rfl _ _ Mt.out aU rfl (dP 0 rfl rfl) ?_)
   | ((with_reducible show wpList _ _ _ (⟨none, Op.store _ (Operand.tmp 13) _, _, _, _, _⟩ :: _) _ _); refine wpList_store_row rfl 27 _ _ rfl (wD.heap.size + 1) (aC (aH 32) 0) rfl rfl _ _ HD1.out (aj rfl) rfl (aF _ _) ?_))
  go_wp2
  go_ret
  exact ⟨rfl, HI3.out.b⟩
 ·
  obtain ⟨m, hm⟩ : ∃ m, m1 + 1 = m := ⟨_, rfl⟩
  rw [hm] at F5 hfl hmn hok
  subst F5 hnn
  obtain ⟨A, ca, B, cb, S, cS, rfl, hC, hK, hS, hbD⟩ := hok
  obtain ⟨Ko, hD1, LU, hb2⟩ := tN wD (m : Int) (.slice A m ca) (.slice B nn cb) h c2
  have Mt := aa Ko
  have HD1 := aa hD1
  have HI3 := aa ((HI2.out.below hbD).below hb2)
  have Mr := aa LU
  have OL := aa (hC.below hb2)
  have FD := aa (hK.below hb2)
  have oU := aa (hS.below hb2)
  clear hbD Ko hD1 LU hb2 hC hK hS HI2
  go_upto_region 6 with (first
   | ((with_reducible show wpList _ _ _ (⟨none, Op.store _ (Operand.tmp 11) _, _, _, _, _⟩ :: _) _ _); refine wpList_store_row rfl 32 _ _ rfl wD.heap.size (oq (m : Int) (.slice A m ca) (.slice B nn cb)) rfl rfl _ _ Mt.out aU rfl (dP _ rfl rfl) ?_)
   | ((with_reducible show wpList _ _ _ (⟨none, Op.store _ (Operand.tmp 13) _, _, _, _, _⟩ :: _) _ _); refine wpList_store_row rfl 27 _ _ rfl (wD.heap.size + 1) (aC h c2) rfl rfl _ _ HD1.out (aj hl.out) (dK rfl hl.out) (aF _ _) ?_))
  obtain ⟨bt, hbt⟩ : ∃ b, wD.heap.size = b := ⟨_, rfl⟩
  obtain ⟨w3, hw3⟩ : ∃ u, hd2 wD (m : Int) (.slice A m ca) (.slice B nn cb) h c2 = u := ⟨_, rfl⟩
  rw [hw3] at HI3 Mr OL FD oU
  rw [show ((((wD.alloc (.cells j_ 32)).alloc (.cells #[.int .u8 0, .int .u8 0, .int .u8 0, .int .u8 0, .int .u8 0, .int .u8 0, .int .u8 0, .int .u8 0, .int .u8 0, .int .u8 0, .int .u8 0, .int .u8 0, .int .u8 0, .int .u8 0, .int .u8 0, .int .u8 0, .int .u8 0, .int .u8 0, .int .u8 0, .int .u8 0, .int .u8 0, .int .u8 0, .int .u8 0, .int .u8 0, .int .u8 0, .int .u8 0, .int .u8 0, .int .u8 0, .int .u8 0, .int .u8 0, .int .u8 0, .int .u8 0, .int .i64 0] 27)).setRow wD.heap.size (oq (m : Int) (.slice A m ca) (.slice B nn cb))).setRow (wD.heap.size + 1) (aC h c2)) = w3 from hw3]
  rw [hbt] at Mr ⊢
  clear hw3 hbt Mt HD1
  go_wp2_with fail
  refine (wE S (ko q f nn) nn cS (aa (EU _ _ _)) EI bs b0 b1 _ oU).mono ?_
  rintro e w4 ⟨L, cL, rfl, hL, hb4⟩
  have Du := aa (D8 (gK bs) (q : Int) f nn)
  obtain ⟨l, hll⟩ : ∃ l, dD (gK bs) (ko (q : Int) f nn) nn = l := ⟨_, rfl⟩
  rw [hll] at hL Du ⊢
  obtain ⟨ln, hln⟩ : ∃ x, l.length = x := ⟨_, rfl⟩
  have Oy := aa hL
  have HI4 := aa (HI3.out.below hb4)
  have Mq := aa (Mr.out.below hb4)
  have Qv := aa (OL.out.below hb4)
  have MH := aa (FD.out.below hb4)
  rw [hln]
  have ic := aa hln
  have Q8 : ln ≤ 8 := by
   have h1 := mP (gK bs) (ko (q : Int) f nn) nn
   rw [hll, hln] at h1
   omega
  have PX : Hid (Ah P (q : Int) G (m : Int) (kR P q G f) (rQ P q G f nn) = true) := aa (Ck jR.out (by omega) hfs hfl hf0 (by omega) hmn EI hnq)
  have IL : Hid (jB (q : Int) m nn l = 0 ∧ jA (q : Int) m nn l = if ln ≤ m then (q : Int) ^ (m - ln) else 1) := aa (by
   have h1 := Du.out.ply (m := m) (bX jR.out) (by omega) EI hnq (by omega) (by omega)
   rwa [hln] at h1)
  have K7 : Hid (∀ k, k < ln → GJ (l.getD k (0, 0))) := aa (fun k hk => by
   have h1 := Du.out.rng k (by omega)
   have h2 : 1 ≤ (l.getD k (0, 0)).1 := h1.1
   have h3 : (l.getD k (0, 0)).1 ≤ nn := h1.2.1
   exact ⟨by omega, by omega⟩)
  obtain ⟨g0, g1, g2⟩ := HI4.out.gb
  obtain ⟨⟨c0, f0⟩, ⟨c1, f1⟩, ⟨c2', f2⟩⟩ := And.intro Mq.out.c0 (And.intro Mq.out.c1 Mq.out.c2)
  clear hL hb4 hll hln HI3 Mr OL FD oU
  go_wp2_with fail
  clear g0 g1 g2 c0 f0 c1 f1 c2' f2
  refine (GR P q G m A (kR P q G f) m ca B (rQ P q G f nn) nn cb (aa (by rw [x9, hfl])) (aa (qV _ _ _ _ _)) L l ln cL ic (by omega) K7 PX hQ _ (aa (hV.out.below HI4.out.b)) Qv MH Oy).mono ?_
  rintro e w5 ⟨rfl, hb5⟩
  have lS := aa (HI4.out.below hb5)
  have SX := aa (Oy.out.below hb5)
  rw [IL.out.1, IL.out.2]
  obtain ⟨MV, NI⟩ : ∃ z, (if ln ≤ m then (q : Int) ^ (m - ln) else 1) = z := ⟨_, rfl⟩
  rw [NI]
  have Qc := aa NI
  clear NI hb5 HI4 Oy Mq Qv MH PX IL K7
  obtain ⟨g0, g1, g2⟩ := lS.out.gb
  have Nn := fun W => run_make_row' (P := Tryz.prog) 30 3 (.int .i64 0) 8 Tryz.underlying30 fD rfl .i64 .i64 q (by omega) (by omega) W
  have Nl := fun W => run_make_row' (P := Tryz.prog) 30 3 (.int .i64 0) 8 Tryz.underlying30 fD rfl .i64 .i64 m (by omega) (by omega) W
  go_wp2
  have hq3 : 3 ≤ q := by have := (aD jR.out).2.2.1; omega
  have hm1 : 1 ≤ m := by omega
  have hr1 := kG w5 3 q
  have hb6 := af w5 (.cells (madeCells #[.int .i64 0] q) 3)
  have hs6 : (w5.alloc (.cells (madeCells #[.int .i64 0] q) 3)).heap.size = w5.heap.size + 1 := by simp
  obtain ⟨w6, O_⟩ : ∃ u, w5.alloc (.cells (madeCells #[.int .i64 0] q) 3) = u := ⟨_, rfl⟩
  rw [O_] at hr1 hb6 hs6 ⊢
  have hr2 := kG w6 3 m
  have Ib := af w6 (.cells (madeCells #[.int .i64 0] m) 3)
  obtain ⟨w7, hw7⟩ : ∃ u, w6.alloc (.cells (madeCells #[.int .i64 0] m) 3) = u := ⟨_, rfl⟩
  rw [hw7] at hr2 Ib ⊢
  rw [hs6] at hr2
  have HR1 := aa (ay hr1 (by omega) Ib)
  have HR2 := aa hr2
  have Tw := aa (ag hb6 Ib)
  clear hr1 hr2 hb6 Ib O_ hw7 hs6 g0 g1 g2 Nn Nl
  have CX : Hid (0 < q ^ m) := aa (Nat.pow_pos (by omega))
  go_loopw [24] (fun i u => ∃ t : Nat, t < q ^ m ∧ Hid (bY u w5.heap.size q (fun c => (cnt (fT q l m c) t : Int))) ∧ Hid (bY u (w5.heap.size + 1) m (fun i => (aP q m t).getD i 0)) ∧ Hid (Below w5.heap.size w5 u)) (fun _ u => q ^ m - sQ q (J2 u (w5.heap.size + 1) m))
  case atStart => exact ⟨0, CX.out, aa (bn HR1.out (fun j _ => rfl)), aa (bn HR2.out (fun j _ => (t_ q m j).symm)), Tw⟩
  case round =>
   obtain ⟨t, ht, HC, HF, aB⟩ := hrel
   obtain ⟨wo, rfl⟩ : ∃ u, u = wr := ⟨_, rfl⟩
   have Qq := HF
   have Gv : Hid ((aP q m t).length = m) := aa (eG _ _ _)
   have UH : Hid ((aP q m t).all (aQ (q : Int)) = true) := aa (nO (by omega) m t)
   have SL := aa (SX.out.below aB.out)
   have Tc := aa (lS.out.below aB.out)
   go_wp2
   go_loopw [19, 76] (fun fv i u => ∃ k : Nat, k ≤ ln ∧ i = .int .i64 k ∧ Hid (fv = .bool (dY (q : Int) (l.take k) (aP q m t))) ∧ Hid (Below wo.heap.size wo u)) (fun _ i _ => ln - (intOf i).toNat)
   case atStart => exact ⟨0, by omega, rfl, aa rfl, aa (Below.refl _ _)⟩
   case round =>
    obtain ⟨k, hk, rfl, JB, uE⟩ := hrel
    by_cases hlt : k < ln
    ·
     obtain ⟨bL, oL, hA, s1, s2⟩ := (SL.out.below uE.out) k (by rw [ic.out]; exact hlt)
     subst hA
     have Gp := aa (Du.out.rng k (by rw [ic.out]; exact hlt))
     have JC := aa (zh (Q := (q : Int)) (f := aP q m t) (l := l) (k := k) (by rw [ic.out]; exact hlt))
     obtain ⟨px, hpx⟩ : ∃ x, l.getD k (0, 0) = x := ⟨_, rfl⟩
     obtain ⟨ix, vx⟩ := px
     rw [hpx] at s1 s2 JC
     rw [show bM l k = (ix, vx) from hpx] at Gp
     dsimp only at s1 s2 JC Gp
     have r1 := Gp.out.1
     have r2 := Gp.out.2.1
     obtain ⟨w8, hw8, Oi, Sa, UG, kS⟩ := Jm (kg ix vx) Dm wr
     have Lf := aa ((Tc.out.below uE.out).below Oi.out)
     have Ti := aa (ay (ay HF.out (by omega) uE.out) (by omega) Oi.out)
     clear hpx
     go_wp2
     clear s1 s2
     go_loopw [22, 82] (fun yv i u => ∃ k2 : Nat, k2 ≤ m ∧ i = .int .i64 k2 ∧ Hid (yv = .int .i64 (hv (q : Int) ((aP q m t).drop (m - k2)) ix)) ∧ Hid (Below w8.heap.size w8 u)) (fun _ i _ => m - (intOf i).toNat)
     case atStart => exact ⟨0, by omega, rfl, aa (by rw [Nat.sub_zero, List.drop_of_length_le (by rw [Gv.out]; exact Nat.le_refl _)]; rfl), aa (Below.refl _ _)⟩
     case round =>
      obtain ⟨k2, hk2, rfl, HY, HB2⟩ := hrel
      obtain ⟨y0, y1⟩ := kP (q := (q : Int)) (by omega) ((aP q m t).drop (m - k2)) ix
      by_cases hlt2 : k2 < m
      ·
       have HST := aa (BV (q := q) (by omega) (x := ix) Gv.out hlt2)
       have hcd := (ay Ti.out (by omega) HB2.out).1 (m - 1 - k2) (by omega)
       obtain ⟨e0, e1⟩ := dig_lo (q := q) (by omega) (m := m) (t := t) (x := m - 1 - k2) (by omega)
       dsimp only at hcd
       obtain ⟨Y, hY⟩ : ∃ z, hv (q : Int) ((aP q m t).drop (m - k2)) ix = z := ⟨_, rfl⟩
       obtain ⟨dd, hdd⟩ : ∃ z, (aP q m t).getD (m - 1 - k2) 0 = z := ⟨_, rfl⟩
       obtain ⟨jj, hjj⟩ : ∃ z, m - 1 - k2 = z := ⟨_, rfl⟩
       rw [hY] at y0 y1 HST HY
       rw [hdd] at e0 e1 hcd HST
       rw [hjj] at hcd
       obtain ⟨Z, hZ⟩ : ∃ z, (Y * ix + dd) % (q : Int) = z := ⟨_, rfl⟩
       rw [hZ] at HST
       have TU : 0 ≤ Y * ix := Int.mul_nonneg y0 (by omega)
       have TT : Y * ix ≤ 11 * 8 := Int.mul_le_mul (by omega) (by omega) (by omega) (by omega)
       have q1 : IntKind.i64.wrap (Y * ix) = Y * ix := IntWalk.i64_in _ (by omega)
       have q2 : IntKind.i64.wrap ((m : Int) - 1) = (m : Int) - 1 := IntWalk.i64_in _ (by omega)
       have q3 : IntKind.i64.wrap ((m : Int) - 1 - (k2 : Int)) = (jj : Int) := by rw [show (m : Int) - 1 - (k2 : Int) = (jj : Int) by omega]; exact IntWalk.i64_in _ (by omega)
       have q4 : IntKind.i64.wrap (Y * ix + dd) = Y * ix + dd := IntWalk.i64_in _ (by omega)
       have q5 : (Y * ix + dd).tmod (q : Int) = Z := by rw [Int.tmod_eq_emod_of_nonneg (by omega)]; exact hZ
       have jl : (jj : Int) < (m : Int) := by omega
       have Gt := aa (Lf.out.below HB2.out)
       obtain ⟨g0, g1, g2⟩ := Gt.out.gb
       have zs := kS.out _ HB2
       obtain rfl := HY.out
       clear hY hdd hjj hZ HY
       have Tq := aa (fun nq => ah HB2.out nq)
       go_wp2
       go_quiet (fail)
       go_wp2
       go_roundw
       case rel => exact ⟨k2 + 1, by omega, by go_num, aa (by rw [HST.out]), aa (Tq.out _)⟩
       case measure => simp [intOf]; omega
      ·
       have hke : m = k2 := by omega
       subst hke
       have Ml := aa HY.out
       rw [Nat.sub_self, List.drop_zero, FX (by omega)] at Ml
       obtain ⟨Y, hY⟩ : ∃ z, pv (aP q m t) ix % (q : Int) = z := ⟨_, rfl⟩
       rw [hY] at Ml JC
       have zs := kS.out _ HB2
       have Qy := aa (ag (ag uE.out Oi.out) HB2.out)
       obtain ⟨fb, Pj⟩ : ∃ z, dY (q : Int) (l.take k) (aP q m t) = z := ⟨_, rfl⟩
       rw [Pj] at JB JC
       obtain rfl := Ml.out
       obtain rfl := JB.out
       clear HY Ml JB hY Pj
       cases fb with
       | false =>
        go_wp2
        go_roundw
        case rel => exact ⟨k + 1, by omega, by go_num, aa (by rw [JC.out]; rfl), Qy⟩
        case measure => simp [intOf]; omega
       | true =>
        go_wp2
        go_roundw
        case rel => exact ⟨k + 1, by omega, by go_num, aa (by rw [JC.out]; rfl), Qy⟩
        case measure => simp [intOf]; omega
    ·
     have hke : ln = k := by omega
     subst hke
     have I4 := aa JB.out
     rw [List.take_of_length_le (by rw [ic.out]; exact Nat.le_refl _)] at I4
     have hD0 : (aP q m t).getD 0 0 = ((t % q : Nat) : Int) := by rw [← hm]; rfl
     have MP := aa (ag aB.out uE.out)
     have Gw := aa (ay HC.out (by omega) uE.out)
     have I5 := aa (ay HF.out (by omega) uE.out)
     have K_ : Hid (q ^ m ≤ 1331) := aa (Nat.le_trans (Nat.pow_le_pow_left hq m) (Nat.le_trans (Nat.pow_le_pow_right (by decide) (show m ≤ 3 by omega)) (by decide)))
     have q6 : IntKind.i64.wrap ((q : Int) - 1) = (q : Int) - 1 := IntWalk.i64_in _ (by omega)
     cases hfit : dY (q : Int) l (aP q m t) with
     | true =>
      rw [hfit] at I4
      obtain rfl := I4.out
      have hf0 := I5.out.1 0 (by omega)
      dsimp only at hf0
      rw [hD0] at hf0
      have H_ := Nat.mod_lt t (show 0 < q by omega)
      have hc0 := Gw.out.1 (t % q) H_
      have hz0 := Gw.out.2 (t % q)
      dsimp only at hc0
      have hcl := wu (fT q l m (t % q)) t
      have MO : Hid (∀ c, (cnt (fT q l m c) (t + 1) : Int) = if c = t % q then (cnt (fT q l m (t % q)) t : Int) + 1 else (cnt (fT q l m c) t : Int)) := aa (fun c => by
       rw [uk, hfit]
       simp only [true_and]
       by_cases e : c = t % q
       · rw [if_pos e, if_pos e, e]
       · rw [if_neg e, if_neg e])
      obtain ⟨dz, hdz⟩ : ∃ z, t % q = z := ⟨_, rfl⟩
      rw [hdz] at hf0 H_ hc0 hz0 hcl MO
      obtain ⟨C0, hC0⟩ : ∃ z, cnt (fT q l m dz) t = z := ⟨_, rfl⟩
      rw [hC0] at hc0 hcl MO
      have q7 : IntKind.i64.wrap ((C0 : Int) + 1) = (C0 : Int) + 1 := IntWalk.i64_in _ (by have := K_.out; omega)
      have hdi : (dz : Int) < (q : Int) := by omega
      have JE : Hid (bY (wr.setCell ⟨w5.heap.size, dz, none⟩ (.int .i64 ((C0 : Int) + 1))) w5.heap.size q (fun c => (cnt (fT q l m c) (t + 1) : Int))) := aa (bn (gN Gw.out H_ ((C0 : Int) + 1)) (fun j hj => (MO.out j).symm))
      have MN : Hid (bY (wr.setCell ⟨w5.heap.size, dz, none⟩ (.int .i64 ((C0 : Int) + 1))) (w5.heap.size + 1) m (fun i => (aP q m t).getD i 0)) := aa (eZ I5.out (by omega))
      have HB2 : Hid (Below w5.heap.size w5 (wr.setCell ⟨w5.heap.size, dz, none⟩ (.int .i64 ((C0 : Int) + 1)))) := aa (MP.out.setCell (Nat.le_refl _) _)
      clear hdz hC0 Gw I5 MP HC HF JB I4 hfit hD0 MO
      go_wp2
      obtain ⟨wp, hwp⟩ : ∃ u, wr.setCell ⟨w5.heap.size, dz, none⟩ (.int .i64 ((C0 : Int) + 1)) = u := ⟨_, rfl⟩
      rw [hwp] at JE MN HB2 ⊢
      clear hwp hf0 hc0 hz0 hcl q7
      go_loopw [24] (fun i u => ∃ j : Nat, j ≤ m ∧ i = .int .i64 j ∧ Hid (∀ x, x < j → (aP q m t).getD x 0 = (q : Int) - 1) ∧ Hid (bY u (w5.heap.size + 1) m (fun x => if x < j then 0 else (aP q m t).getD x 0)) ∧ Hid (bY u w5.heap.size q (fun c => (cnt (fT q l m c) (t + 1) : Int))) ∧ Hid (Below w5.heap.size w5 u)) (fun i _ => m - (intOf i).toNat)
      case atStart => exact ⟨0, by omega, rfl, aa (fun x hx => absurd hx (by omega)), aa (bn MN.out (fun j _ => (if_neg (by omega)).symm)), JE, HB2⟩
      case round =>
       obtain ⟨j, hj, rfl, HX, w_, zM, lu⟩ := hrel
       have FE := aa (lS.out.below lu.out)
       obtain ⟨g0, g1, g2⟩ := FE.out.gb
       by_cases hlt : j < m
       ·
        have hdj := w_.out.1 j hlt
        have hzj := w_.out.2 j
        dsimp only at hdj
        rw [if_neg (Nat.lt_irrefl _)] at hdj
        obtain ⟨D0, D1⟩ := dig_lo (q := q) (by omega) (m := m) (t := t) (x := j) hlt
        obtain ⟨D, hD⟩ : ∃ z, (aP q m t).getD j 0 = z := ⟨_, rfl⟩
        rw [hD] at hdj D0 D1
        have ji : (j : Int) < (m : Int) := by omega
        by_cases ER : D = (q : Int) - 1
        ·
         have t1 : (D == (q : Int) - 1) = true := by simp [ER]
         have KO : Hid (∀ x, x < j + 1 → (aP q m t).getD x 0 = (q : Int) - 1) := aa (fun x hx => by
          by_cases e : x = j
          · rw [e, hD, ER]
          · exact HX.out x (by omega))
         have Db : Hid (∀ nq, bY ((wr.drewN nq).setCell ⟨w5.heap.size + 1, j, none⟩ (.int .i64 0)) (w5.heap.size + 1) m (fun x => if x < j + 1 then 0 else (aP q m t).getD x 0) ∧ bY ((wr.drewN nq).setCell ⟨w5.heap.size + 1, j, none⟩ (.int .i64 0)) w5.heap.size q (fun c => (cnt (fT q l m c) (t + 1) : Int)) ∧ Below w5.heap.size w5 ((wr.drewN nq).setCell ⟨w5.heap.size + 1, j, none⟩ (.int .i64 0)) ∧ (wr.drewN nq).cell? ⟨w5.heap.size + 1, j, none⟩ = some (.int .i64 D) ∧ (wr.drewN nq).frozen? ⟨w5.heap.size + 1, j, none⟩ = false) := aa (fun nq => by
          have hq := ah (Below.refl wr.heap.size wr) nq
          have r1 := ay w_.out (by omega) hq
          have r2 := ay zM.out (by omega) hq
          refine ⟨bn (gN r1 hlt 0) (fun x hx => ?_), eZ r2 (by omega), (ah lu.out nq).setCell (show w5.heap.size ≤ w5.heap.size + 1 from Nat.le_succ _) _, ?_, r1.2 j⟩
          ·
           try dsimp only
           by_cases e : x = j
           · rw [if_pos e, if_pos (by omega)]
           ·
            rw [if_neg e]
            by_cases e2 : x < j
            · rw [if_pos e2, if_pos (by omega)]
            · rw [if_neg e2, if_neg (by omega)]
          ·
           have h9 := r1.1 j hlt
           dsimp only at h9
           rw [if_neg (Nat.lt_irrefl _), hD] at h9
           exact h9)
         clear hD HX w_ zM lu FE
         go_wp2
         go_quiet (fail)
         obtain ⟨n1, n2, n3, n4, n5⟩ := Db.out nq
         have N1 := aa n1
         have N2 := aa n2
         have N3 := aa n3
         clear n1 n2 n3
         go_wp2
         go_roundw
         case rel => exact ⟨j + 1, by omega, by go_num, KO, N1, N2, N3⟩
         case measure => simp [intOf]; omega
        ·
         have t1 : (D == (q : Int) - 1) = false := by simp [ER]
         have t2 : ((j : Int) == (m : Int)) = false := by simp; omega
         have q8 : IntKind.i64.wrap (D + 1) = D + 1 := IntWalk.i64_in _ (by omega)
         obtain ⟨u1, u2⟩ := nN (q := q) (by omega) m j t hlt ht HX.out (by rw [hD]; exact ER)
         have HT1 := aa u1
         have Db : Hid (∀ nq, bY ((wr.drewN nq).setCell ⟨w5.heap.size + 1, j, none⟩ (.int .i64 (D + 1))) (w5.heap.size + 1) m (fun x => (aP q m (t + 1)).getD x 0) ∧ bY ((wr.drewN nq).setCell ⟨w5.heap.size + 1, j, none⟩ (.int .i64 (D + 1))) w5.heap.size q (fun c => (cnt (fT q l m c) (t + 1) : Int)) ∧ Below w5.heap.size w5 ((wr.drewN nq).setCell ⟨w5.heap.size + 1, j, none⟩ (.int .i64 (D + 1))) ∧ (wr.drewN nq).cell? ⟨w5.heap.size + 1, j, none⟩ = some (.int .i64 D) ∧ (wr.drewN nq).frozen? ⟨w5.heap.size + 1, j, none⟩ = false) := aa (fun nq => by
          have hq := ah (Below.refl wr.heap.size wr) nq
          have r1 := ay w_.out (by omega) hq
          have r2 := ay zM.out (by omega) hq
          refine ⟨bn (gN r1 hlt (D + 1)) (fun x hx => ?_), eZ r2 (by omega), (ah lu.out nq).setCell (show w5.heap.size ≤ w5.heap.size + 1 from Nat.le_succ _) _, ?_, r1.2 j⟩
          ·
           try dsimp only
           rw [u2 x hx, hD]
          ·
           have h9 := r1.1 j hlt
           dsimp only at h9
           rw [if_neg (Nat.lt_irrefl _), hD] at h9
           exact h9)
         clear hD HX w_ zM lu FE u1 u2
         go_wp2
         go_quiet (fail)
         obtain ⟨n1, n2, n3, n4, n5⟩ := Db.out nq
         have N1 := aa n1
         have N2 := aa n2
         have N3 := aa n3
         clear n1 n2 n3
         go_wp2
         go_roundw
         case rel => exact ⟨t + 1, HT1.out, N2, N1, N3⟩
         case measure =>
          rw [lY N1.out, lY Qq.out, gu (by omega) m _ HT1.out, gu (by omega) m t ht]
          have := HT1.out
          omega
       ·
        have hke : m = j := by omega
        subst hke
        have t1 : decide ((m : Int) < (m : Int)) = false := by simp
        have t2 : ((m : Int) == (m : Int)) = true := by simp
        have hT := qX (q := q) (by omega) m t ht HX.out
        have Db : Hid (∀ nq, bY (wr.drewN nq) w5.heap.size q (fun c => (cnt (fT q l m c) (q ^ m) : Int)) ∧ Below w5.heap.size w5 (wr.drewN nq)) := aa (fun nq => by
         have hq := ah (Below.refl wr.heap.size wr) nq
         have r2 := ay zM.out (by omega) hq
         rw [hT] at r2
         exact ⟨r2, ah lu.out nq⟩)
        clear HX w_ zM lu FE hT
        go_wp2
        go_quiet (fail)
        obtain ⟨n1, n2⟩ := Db.out nq
        have N1 := aa n1
        have N2 := aa n2
        clear n1 n2
        go_wp2
        obtain ⟨wz, hwz⟩ : ∃ u, wr.drewN nq = u := ⟨_, rfl⟩
        rw [hwz] at N1 N2 ⊢
        clear hwz
        have wZ : Hid (ln < m → ∀ c, c < q → cnt (fT q l m c) (q ^ m) = q ^ (m - 1 - ln)) := aa (fun hlm c hc => by
         have h1 := qZ (m := m) Du.out (bX jR.out) EI (by omega) (by rw [ic.out]; exact hlm) hc
         rwa [ic.out] at h1)
        have wU : Hid ((fK q l m (q ^ m) q : Int) = MV ∧ (¬ ln < m → (fK q l m (q ^ m) q : Int) = 1)) := aa (by
         rw [← Qc.out]
         by_cases hlm : ln < m
         ·
          have h1 := ql (m := m) Du.out (bX jR.out) EI (by omega) (by rw [ic.out]; exact hlm) q (Nat.le_refl _)
          rw [ic.out] at h1
          rw [h1, if_pos (by omega), show m - ln = (m - 1 - ln) + 1 by omega, Int.pow_succ, Int.natCast_mul, Int.natCast_pow, Int.mul_comm]
          exact ⟨rfl, fun h => absurd hlm h⟩
         ·
          have h1 : fK q l m (q ^ m) q = 1 := by
           rw [qm (by omega)]
           exact yj Du.out (bX jR.out) EI (by omega) (by rw [ic.out]; omega) hfl hfs
          rw [h1]
          by_cases e : ln ≤ m
          · rw [if_pos e, show m - ln = 0 by omega, Int.pow_zero]; exact ⟨rfl, fun _ => rfl⟩
          · rw [if_neg e]; exact ⟨rfl, fun _ => rfl⟩)
        have rE := aa (fun k => uU q l m (q ^ m) k)
        go_loopw [25, 147] (fun sv i u => ∃ k : Nat, k ≤ q ∧ i = .int .i64 k ∧ sv = .int .i64 (fK q l m (q ^ m) k : Int) ∧ Hid (Below wz.heap.size wz u)) (fun _ i _ => q - (intOf i).toNat)
        case atStart => exact ⟨0, by omega, rfl, rfl, aa (Below.refl _ _)⟩
        case round =>
         obtain ⟨k, hk, rfl, rfl, ku⟩ := hrel
         by_cases hkq : k < q
         ·
          have hck := (ay N1.out (by omega) ku.out).1 k hkq
          have hc0 := (ay N1.out (by omega) ku.out).1 0 (by omega)
          dsimp only at hck hc0
          have hsk : fK q l m (q ^ m) (k + 1) = fK q l m (q ^ m) k + cnt (fT q l m k) (q ^ m) := rfl
          have hsl := rE.out (k + 1)
          have hpb : (k + 1) * q ^ m ≤ 11 * 1331 := Nat.mul_le_mul (by omega) K_.out
          have q9 : IntKind.i64.wrap ((fK q l m (q ^ m) k : Int) + (cnt (fT q l m k) (q ^ m) : Int)) = ((fK q l m (q ^ m) (k + 1) : Nat) : Int) := by
           rw [hsk, Int.natCast_add]
           exact IntWalk.i64_in _ (by omega)
          have ki : (k : Int) < (q : Int) := by omega
          have qi : (0 : Int) < (q : Int) := by omega
          by_cases hlm : ln < m
          ·
           have d3 : decide ((ln : Int) < (m : Int)) = true := by simp; omega
           rw [wZ.out hlm k hkq] at hck q9
           rw [wZ.out hlm 0 (by omega)] at hc0
           obtain ⟨N, hN⟩ : ∃ z, q ^ (m - 1 - ln) = z := ⟨_, rfl⟩
           rw [hN] at hck hc0 q9
           have t3 : ((N : Int) != (N : Int)) = false := by simp
           obtain ⟨S1, hS1⟩ : ∃ z, fK q l m (q ^ m) (k + 1) = z := ⟨_, rfl⟩
           rw [hS1] at q9
           have yE := aa hS1
           obtain ⟨S0, hS0⟩ : ∃ z, fK q l m (q ^ m) k = z := ⟨_, rfl⟩
           rw [hS0] at q9 ⊢
           clear hsk hsl hpb hN hS1 hS0
           go_wp2
           go_roundw
           case rel => exact ⟨k + 1, by omega, by go_num, by rw [yE.out], ku⟩
           case measure => simp [intOf]; omega
          ·
           have d3 : decide ((ln : Int) < (m : Int)) = false := by simp; omega
           obtain ⟨N, hN⟩ : ∃ z, cnt (fT q l m k) (q ^ m) = z := ⟨_, rfl⟩
           rw [hN] at hck q9
           obtain ⟨S1, hS1⟩ : ∃ z, fK q l m (q ^ m) (k + 1) = z := ⟨_, rfl⟩
           rw [hS1] at q9
           have yE := aa hS1
           obtain ⟨S0, hS0⟩ : ∃ z, fK q l m (q ^ m) k = z := ⟨_, rfl⟩
           rw [hS0] at q9 ⊢
           clear hsk hsl hpb hN hS1 hS0 hc0
           go_wp2
           go_roundw
           case rel => exact ⟨k + 1, by omega, by go_num, by rw [yE.out], ku⟩
           case measure => simp [intOf]; omega
         ·
          have hke : q = k := by omega
          subst hke
          obtain ⟨S0, hS0⟩ : ∃ z, fK q l m (q ^ m) q = z := ⟨_, rfl⟩
          rw [hS0] at wU ⊢
          obtain ⟨u1, u2⟩ := wU.out
          have t4 : ((S0 : Int) == MV) = true := by simp [u1]
          have eP := (lS.out.below (N2.out.trans (ku.out.mono N2.out.size))).b
          clear hS0 wU rE wZ u1
          by_cases hlm : ln < m
          ·
           have d3 : decide ((ln : Int) < (m : Int)) = true := by simp; omega
           clear u2
           go_wp2
           go_ret
           exact ⟨rfl, eP⟩
          ·
           have d3 : decide ((ln : Int) < (m : Int)) = false := by simp; omega
           have t5 : ((S0 : Int) == 1) = true := by simp [u2 hlm]
           clear u2
           go_wp2
           go_ret
           exact ⟨rfl, eP⟩
     | false =>
      rw [hfit] at I4
      obtain rfl := I4.out
      have JE : Hid (bY wr w5.heap.size q (fun c => (cnt (fT q l m c) (t + 1) : Int))) := aa (bn Gw.out (fun j hj => by rw [uk, hfit]; simp))
      have MN := I5
      have HB2 := MP
      clear Gw I5 MP HC HF JB I4 hfit hD0
      obtain ⟨wp, rfl⟩ : ∃ u, u = wr := ⟨_, rfl⟩
      go_wp2
      go_loopw [24] (fun i u => ∃ j : Nat, j ≤ m ∧ i = .int .i64 j ∧ Hid (∀ x, x < j → (aP q m t).getD x 0 = (q : Int) - 1) ∧ Hid (bY u (w5.heap.size + 1) m (fun x => if x < j then 0 else (aP q m t).getD x 0)) ∧ Hid (bY u w5.heap.size q (fun c => (cnt (fT q l m c) (t + 1) : Int))) ∧ Hid (Below w5.heap.size w5 u)) (fun i _ => m - (intOf i).toNat)
      case atStart => exact ⟨0, by omega, rfl, aa (fun x hx => absurd hx (by omega)), aa (bn MN.out (fun j _ => (if_neg (by omega)).symm)), JE, HB2⟩
      case round =>
       obtain ⟨j, hj, rfl, HX, w_, zM, lu⟩ := hrel
       have FE := aa (lS.out.below lu.out)
       obtain ⟨g0, g1, g2⟩ := FE.out.gb
       by_cases hlt : j < m
       ·
        have hdj := w_.out.1 j hlt
        have hzj := w_.out.2 j
        dsimp only at hdj
        rw [if_neg (Nat.lt_irrefl _)] at hdj
        obtain ⟨D0, D1⟩ := dig_lo (q := q) (by omega) (m := m) (t := t) (x := j) hlt
        obtain ⟨D, hD⟩ : ∃ z, (aP q m t).getD j 0 = z := ⟨_, rfl⟩
        rw [hD] at hdj D0 D1
        have ji : (j : Int) < (m : Int) := by omega
        by_cases ER : D = (q : Int) - 1
        ·
         have t1 : (D == (q : Int) - 1) = true := by simp [ER]
         have KO : Hid (∀ x, x < j + 1 → (aP q m t).getD x 0 = (q : Int) - 1) := aa (fun x hx => by
          by_cases e : x = j
          · rw [e, hD, ER]
          · exact HX.out x (by omega))
         have Db : Hid (∀ nq, bY ((wr.drewN nq).setCell ⟨w5.heap.size + 1, j, none⟩ (.int .i64 0)) (w5.heap.size + 1) m (fun x => if x < j + 1 then 0 else (aP q m t).getD x 0) ∧ bY ((wr.drewN nq).setCell ⟨w5.heap.size + 1, j, none⟩ (.int .i64 0)) w5.heap.size q (fun c => (cnt (fT q l m c) (t + 1) : Int)) ∧ Below w5.heap.size w5 ((wr.drewN nq).setCell ⟨w5.heap.size + 1, j, none⟩ (.int .i64 0)) ∧ (wr.drewN nq).cell? ⟨w5.heap.size + 1, j, none⟩ = some (.int .i64 D) ∧ (wr.drewN nq).frozen? ⟨w5.heap.size + 1, j, none⟩ = false) := aa (fun nq => by
          have hq := ah (Below.refl wr.heap.size wr) nq
          have r1 := ay w_.out (by omega) hq
          have r2 := ay zM.out (by omega) hq
          refine ⟨bn (gN r1 hlt 0) (fun x hx => ?_), eZ r2 (by omega), (ah lu.out nq).setCell (show w5.heap.size ≤ w5.heap.size + 1 from Nat.le_succ _) _, ?_, r1.2 j⟩
          ·
           try dsimp only
           by_cases e : x = j
           · rw [if_pos e, if_pos (by omega)]
           ·
            rw [if_neg e]
            by_cases e2 : x < j
            · rw [if_pos e2, if_pos (by omega)]
            · rw [if_neg e2, if_neg (by omega)]
          ·
           have h9 := r1.1 j hlt
           dsimp only at h9
           rw [if_neg (Nat.lt_irrefl _), hD] at h9
           exact h9)
         clear hD HX w_ zM lu FE
         go_wp2
         go_quiet (fail)
         obtain ⟨n1, n2, n3, n4, n5⟩ := Db.out nq
         have N1 := aa n1
         have N2 := aa n2
         have N3 := aa n3
         clear n1 n2 n3
         go_wp2
         go_roundw
         case rel => exact ⟨j + 1, by omega, by go_num, KO, N1, N2, N3⟩
         case measure => simp [intOf]; omega
        ·
         have t1 : (D == (q : Int) - 1) = false := by simp [ER]
         have t2 : ((j : Int) == (m : Int)) = false := by simp; omega
         have q8 : IntKind.i64.wrap (D + 1) = D + 1 := IntWalk.i64_in _ (by omega)
         obtain ⟨u1, u2⟩ := nN (q := q) (by omega) m j t hlt ht HX.out (by rw [hD]; exact ER)
         have HT1 := aa u1
         have Db : Hid (∀ nq, bY ((wr.drewN nq).setCell ⟨w5.heap.size + 1, j, none⟩ (.int .i64 (D + 1))) (w5.heap.size + 1) m (fun x => (aP q m (t + 1)).getD x 0) ∧ bY ((wr.drewN nq).setCell ⟨w5.heap.size + 1, j, none⟩ (.int .i64 (D + 1))) w5.heap.size q (fun c => (cnt (fT q l m c) (t + 1) : Int)) ∧ Below w5.heap.size w5 ((wr.drewN nq).setCell ⟨w5.heap.size + 1, j, none⟩ (.int .i64 (D + 1))) ∧ (wr.drewN nq).cell? ⟨w5.heap.size + 1, j, none⟩ = some (.int .i64 D) ∧ (wr.drewN nq).frozen? ⟨w5.heap.size + 1, j, none⟩ = false) := aa (fun nq => by
          have hq := ah (Below.refl wr.heap.size wr) nq
          have r1 := ay w_.out (by omega) hq
          have r2 := ay zM.out (by omega) hq
          refine ⟨bn (gN r1 hlt (D + 1)) (fun x hx => ?_), eZ r2 (by omega), (ah lu.out nq).setCell (show w5.heap.size ≤ w5.heap.size + 1 from Nat.le_succ _) _, ?_, r1.2 j⟩
          ·
           try dsimp only
           rw [u2 x hx, hD]
          ·
           have h9 := r1.1 j hlt
           dsimp only at h9
           rw [if_neg (Nat.lt_irrefl _), hD] at h9
           exact h9)
         clear hD HX w_ zM lu FE u1 u2
         go_wp2
         go_quiet (fail)
         obtain ⟨n1, n2, n3, n4, n5⟩ := Db.out nq
         have N1 := aa n1
         have N2 := aa n2
         have N3 := aa n3
         clear n1 n2 n3
         go_wp2
         go_roundw
         case rel => exact ⟨t + 1, HT1.out, N2, N1, N3⟩
         case measure =>
          rw [lY N1.out, lY Qq.out, gu (by omega) m _ HT1.out, gu (by omega) m t ht]
          have := HT1.out
          omega
       ·
        have hke : m = j := by omega
        subst hke
        have t1 : decide ((m : Int) < (m : Int)) = false := by simp
        have t2 : ((m : Int) == (m : Int)) = true := by simp
        have hT := qX (q := q) (by omega) m t ht HX.out
        have Db : Hid (∀ nq, bY (wr.drewN nq) w5.heap.size q (fun c => (cnt (fT q l m c) (q ^ m) : Int)) ∧ Below w5.heap.size w5 (wr.drewN nq)) := aa (fun nq => by
         have hq := ah (Below.refl wr.heap.size wr) nq
         have r2 := ay zM.out (by omega) hq
         rw [hT] at r2
         exact ⟨r2, ah lu.out nq⟩)
        clear HX w_ zM lu FE hT
        go_wp2
        go_quiet (fail)
        obtain ⟨n1, n2⟩ := Db.out nq
        have N1 := aa n1
        have N2 := aa n2
        clear n1 n2
        go_wp2
        obtain ⟨wz, hwz⟩ : ∃ u, wr.drewN nq = u := ⟨_, rfl⟩
        rw [hwz] at N1 N2 ⊢
        clear hwz
        have wZ : Hid (ln < m → ∀ c, c < q → cnt (fT q l m c) (q ^ m) = q ^ (m - 1 - ln)) := aa (fun hlm c hc => by
         have h1 := qZ (m := m) Du.out (bX jR.out) EI (by omega) (by rw [ic.out]; exact hlm) hc
         rwa [ic.out] at h1)
        have wU : Hid ((fK q l m (q ^ m) q : Int) = MV ∧ (¬ ln < m → (fK q l m (q ^ m) q : Int) = 1)) := aa (by
         rw [← Qc.out]
         by_cases hlm : ln < m
         ·
          have h1 := ql (m := m) Du.out (bX jR.out) EI (by omega) (by rw [ic.out]; exact hlm) q (Nat.le_refl _)
          rw [ic.out] at h1
          rw [h1, if_pos (by omega), show m - ln = (m - 1 - ln) + 1 by omega, Int.pow_succ, Int.natCast_mul, Int.natCast_pow, Int.mul_comm]
          exact ⟨rfl, fun h => absurd hlm h⟩
         ·
          have h1 : fK q l m (q ^ m) q = 1 := by
           rw [qm (by omega)]
           exact yj Du.out (bX jR.out) EI (by omega) (by rw [ic.out]; omega) hfl hfs
          rw [h1]
          by_cases e : ln ≤ m
          · rw [if_pos e, show m - ln = 0 by omega, Int.pow_zero]; exact ⟨rfl, fun _ => rfl⟩
          · rw [if_neg e]; exact ⟨rfl, fun _ => rfl⟩)
        have rE := aa (fun k => uU q l m (q ^ m) k)
        go_loopw [25, 147] (fun sv i u => ∃ k : Nat, k ≤ q ∧ i = .int .i64 k ∧ sv = .int .i64 (fK q l m (q ^ m) k : Int) ∧ Hid (Below wz.heap.size wz u)) (fun _ i _ => q - (intOf i).toNat)
        case atStart => exact ⟨0, by omega, rfl, rfl, aa (Below.refl _ _)⟩
        case round =>
         obtain ⟨k, hk, rfl, rfl, ku⟩ := hrel
         by_cases hkq : k < q
         ·
          have hck := (ay N1.out (by omega) ku.out).1 k hkq
          have hc0 := (ay N1.out (by omega) ku.out).1 0 (by omega)
          dsimp only at hck hc0
          have hsk : fK q l m (q ^ m) (k + 1) = fK q l m (q ^ m) k + cnt (fT q l m k) (q ^ m) := rfl
          have hsl := rE.out (k + 1)
          have hpb : (k + 1) * q ^ m ≤ 11 * 1331 := Nat.mul_le_mul (by omega) K_.out
          have q9 : IntKind.i64.wrap ((fK q l m (q ^ m) k : Int) + (cnt (fT q l m k) (q ^ m) : Int)) = ((fK q l m (q ^ m) (k + 1) : Nat) : Int) := by
           rw [hsk, Int.natCast_add]
           exact IntWalk.i64_in _ (by omega)
          have ki : (k : Int) < (q : Int) := by omega
          have qi : (0 : Int) < (q : Int) := by omega
          by_cases hlm : ln < m
          ·
           have d3 : decide ((ln : Int) < (m : Int)) = true := by simp; omega
           rw [wZ.out hlm k hkq] at hck q9
           rw [wZ.out hlm 0 (by omega)] at hc0
           obtain ⟨N, hN⟩ : ∃ z, q ^ (m - 1 - ln) = z := ⟨_, rfl⟩
           rw [hN] at hck hc0 q9
           have t3 : ((N : Int) != (N : Int)) = false := by simp
           obtain ⟨S1, hS1⟩ : ∃ z, fK q l m (q ^ m) (k + 1) = z := ⟨_, rfl⟩
           rw [hS1] at q9
           have yE := aa hS1
           obtain ⟨S0, hS0⟩ : ∃ z, fK q l m (q ^ m) k = z := ⟨_, rfl⟩
           rw [hS0] at q9 ⊢
           clear hsk hsl hpb hN hS1 hS0
           go_wp2
           go_roundw
           case rel => exact ⟨k + 1, by omega, by go_num, by rw [yE.out], ku⟩
           case measure => simp [intOf]; omega
          ·
           have d3 : decide ((ln : Int) < (m : Int)) = false := by simp; omega
           obtain ⟨N, hN⟩ : ∃ z, cnt (fT q l m k) (q ^ m) = z := ⟨_, rfl⟩
           rw [hN] at hck q9
           obtain ⟨S1, hS1⟩ : ∃ z, fK q l m (q ^ m) (k + 1) = z := ⟨_, rfl⟩
           rw [hS1] at q9
           have yE := aa hS1
           obtain ⟨S0, hS0⟩ : ∃ z, fK q l m (q ^ m) k = z := ⟨_, rfl⟩
           rw [hS0] at q9 ⊢
           clear hsk hsl hpb hN hS1 hS0 hc0
           go_wp2
           go_roundw
           case rel => exact ⟨k + 1, by omega, by go_num, by rw [yE.out], ku⟩
           case measure => simp [intOf]; omega
         ·
          have hke : q = k := by omega
          subst hke
          obtain ⟨S0, hS0⟩ : ∃ z, fK q l m (q ^ m) q = z := ⟨_, rfl⟩
          rw [hS0] at wU ⊢
          obtain ⟨u1, u2⟩ := wU.out
          have t4 : ((S0 : Int) == MV) = true := by simp [u1]
          have eP := (lS.out.below (N2.out.trans (ku.out.mono N2.out.size))).b
          clear hS0 wU rE wZ u1
          by_cases hlm : ln < m
          ·
           have d3 : decide ((ln : Int) < (m : Int)) = true := by simp; omega
           clear u2
           go_wp2
           go_ret
           exact ⟨rfl, eP⟩
          ·
           have d3 : decide ((ln : Int) < (m : Int)) = false := by simp; omega
           have t5 : ((S0 : Int) == 1) = true := by simp [u2 hlm]
           clear u2
           go_wp2
           go_ret
           exact ⟨rfl, eP⟩
theorem DZ (P Q G need n : Int) (h : List Int) (c bs : Int) (hl : Hid (h.length = 32)) (tL : Hid (ax h = true)) (b0 : 0 ≤ bs) (b1 : bs < 256) (hQ : Q < 9223372036854775808) (w : World) (hv : Hid (Vars w)) (hd : Hid (dx w)) :
  Calls Tryz.prog 4 #[gv P Q G, .int .i64 need, .int .i64 n, .agg (aC h c), .int .u8 bs] w (Rt w (.bool true)) := by
 cases jR : au P Q G with
 | false => exact xU P Q G need n h c bs hl hQ (.inl jR) w hv
 | true =>
  by_cases h1 : 11 < Q ∨ 3 < need
  · exact xU P Q G need n h c bs hl hQ (.inr ⟨jR, h1⟩) w hv
  ·
   obtain ⟨q, rfl⟩ := Int.eq_ofNat_of_zero_le (show 0 ≤ Q by have := (aD jR).2.2.1; omega)
   exact EK P q G need n h c bs hl tL (aa jR) (by omega) (by omega) b0 b1 w hv hd
end Go.Proofs.YticegghameafgaaGreatDoor