/- Contracts and lemmas: BrM, BrN, BrO, BrP, Msg, BrQ, Awk20, EqN. -/
import Derived.Test.YtgbfhcfhopadaaaGreatDoorBc5
set_option linter.unusedVariables false
set_option linter.unusedSimpArgs false
set_option maxRecDepth 100000
set_option maxHeartbeats 25600000
namespace Go.Proofs.YtgbfhcfhopadaaaGreatDoor
open Go.RowKit ou
abbrev Bh (w : World) (P Q G X B H : Int) (h : List Int) (c : Int) : World := (((w.alloc (bB P Q G X B H)).alloc (.cells (ak h c) 29)).alloc (.cells #[.slice none 0 0, .slice none 0 0] 40)).alloc (.cells #[.int .u8 0, .int .u8 0, .int .u8 0, .int .u8 0, .int .u8 0, .int .u8 0, .int .u8 0, .int .u8 0, .int .u8 0, .int .u8 0, .int .u8 0, .int .u8 0, .int .u8 0, .int .u8 0, .int .u8 0, .int .u8 0, .int .u8 0, .int .u8 0, .int .u8 0, .int .u8 0, .int .u8 0, .int .u8 0, .int .u8 0, .int .u8 0, .int .u8 0, .int .u8 0, .int .u8 0, .int .u8 0, .int .u8 0, .int .u8 0, .int .u8 0, .int .u8 0, .int .i64 0] 29)
theorem qb.start (w : World) (P Q G X B H : Int) (h : List Int) (c : Int) : qb w P Q G X B H h c (Bh w P Q G X B H h c) := by
 have e1 : (w.alloc (bB P Q G X B H)).heap.size = w.heap.size + 1 := by simp
 have e2 : ((w.alloc (bB P Q G X B H)).alloc (.cells (ak h c) 29)).heap.size = w.heap.size + 2 := by simp
 have e3 : (((w.alloc (bB P Q G X B H)).alloc (.cells (ak h c) 29)).alloc (.cells #[.slice none 0 0, .slice none 0 0] 40)).heap.size = w.heap.size + 3 := by simp
 have b1 := af (w.alloc (bB P Q G X B H)) (.cells (ak h c) 29)
 have b2 := af ((w.alloc (bB P Q G X B H)).alloc (.cells (ak h c) 29)) (.cells #[.slice none 0 0, .slice none 0 0] 40)
 have b3 := af (((w.alloc (bB P Q G X B H)).alloc (.cells (ak h c) 29)).alloc (.cells #[.slice none 0 0, .slice none 0 0] 40)) (.cells #[.int .u8 0, .int .u8 0, .int .u8 0, .int .u8 0, .int .u8 0, .int .u8 0, .int .u8 0, .int .u8 0, .int .u8 0, .int .u8 0, .int .u8 0, .int .u8 0, .int .u8 0, .int .u8 0, .int .u8 0, .int .u8 0, .int .u8 0, .int .u8 0, .int .u8 0, .int .u8 0, .int .u8 0, .int .u8 0, .int .u8 0, .int .u8 0, .int .u8 0, .int .u8 0, .int .u8 0, .int .u8 0, .int .u8 0, .int .u8 0, .int .u8 0, .int .u8 0, .int .i64 0] 29)
 refine ⟨(((eP w P Q G X B H).below b1).below b2).below b3, ?_, ?_, ?_, by simp, ag (ag (ag (af w (bB P Q G X B H)) b1) b2) b3⟩
 ·
  have h1 := aD.new (w.alloc (bB P Q G X B H)) h c
  rw [e1] at h1
  exact (h1.below b2).below b3
 ·
  rw [← e2]
  exact (b3.block _ (by simp)).trans (heap_alloc_new _ _)
 ·
  unfold Bh
  rw [← e3, nO]
  exact aD.new _ _ _
theorem bC : (Tryz.prog.info? 40).map (·.size) = some 2 := by kernel_rfl
theorem Fp : (Tryz.prog.info? 63).map (fun i => (i.zero, i.size, i.bytes)) = some (some (.agg #[.slice none 0 0, .slice none 0 0, .slice none 0 0]), 3, 72) := by kernel_rfl
def MZ (P Q G H m r : Int) (n : Nat) (s : ByteArray) (h : List Int) (c : Int) (w : World) (e : Ending) (w' : World) : Prop :=
 ∃ (A L : Option Addr) (ca cl : Nat), e = .returned (.tuple #[Gl A n ca L n cl, .agg (ak h (mK h Q m (mF h Q c (n - 1)) n)), .int .i64 0]) ∧ (∀ u : World, w'.heap.size ≤ u.heap.size → (∀ g, w.heap.size ≤ g → g < w'.heap.size → u.heap[g]? = w'.heap[g]?) → Ev u P Q G H m r n s h c A L) ∧ Below w.heap.size w w'
theorem iw (P Q G X B H m r : Int) (n : Nat) (s : ByteArray) (hs : s.size ≤ 1000) (hr : Hid (cZ (aO s) = true)) (h : List Int) (hl : Hid (h.length = 32)) (n_ : Hid (au h = true)) (c : Int) (c0 : 0 ≤ c) (c1 : c + 32768 ≤ 1099511627776)
  (hval : Hid (aS P Q G X B H = true)) (dP : Hid (fK Q (n : Int) = true)) (m0 : 0 ≤ m) (m1 : m < 2 ^ n) (r0 : 0 ≤ r) (r1 : r < Q) (hQ : Q < 2305843009213693952) (w : World) (hv : Hid (Vars w)) (hd : Hid (bu w)) :
  Calls Tryz.prog 9 #[bv P Q G X B H, .int .i64 m, .int .i64 r, .int .i64 (n : Int), .string s, .agg (ak h c)] w (MZ P Q G H m r n s h c w) := by
 obtain ⟨n', hk, hk1, sF, hpw⟩ := fD dP.out
 obtain rfl : n = n' := by omega
 obtain ⟨hg, _, _, wO, _⟩ := bn hval.out
 obtain ⟨p1, p2, p3, p4⟩ := aJ hg
 have sU := aa hg
 have PZ := aa wO
 have Pz := aa hpw
 have Kb := aa m1
 obtain ⟨i0, hi, hz0, hz1, hz2⟩ := info_parts jM
 have JG := aa hi
 have hdr : Hid (nS c = true) := aa (by simp [nS]; omega)
 clear hk hg wO hpw m1 hi
 have HI0 : Hid (qb w P Q G X B H h c (Bh w P Q G X B H h c)) := aa (qb.start w P Q G X B H h c)
 obtain ⟨W, hW⟩ : ∃ W, Bh w P Q G X B H h c = W := ⟨_, rfl⟩
 rw [hW] at HI0
 have HW := aa hW
 clear hW
 go_in
 go_upto_region 1 with (fail)
 rw [show (((w.alloc (bB P Q G X B H)).alloc (.cells (ak h c) 29)).alloc (.cells #[.slice none 0 0, .slice none 0 0] 40)).alloc (.cells #[.int .u8 0, .int .u8 0, .int .u8 0, .int .u8 0, .int .u8 0, .int .u8 0, .int .u8 0, .int .u8 0, .int .u8 0, .int .u8 0, .int .u8 0, .int .u8 0, .int .u8 0, .int .u8 0, .int .u8 0, .int .u8 0, .int .u8 0, .int .u8 0, .int .u8 0, .int .u8 0, .int .u8 0, .int .u8 0, .int .u8 0, .int .u8 0, .int .u8 0, .int .u8 0, .int .u8 0, .int .u8 0, .int .u8 0, .int .u8 0, .int .u8 0, .int .u8 0, .int .i64 0] 29) = W from HW.out]
 clear HW
 obtain ⟨⟨g0, g1, g2⟩, g3, g4, g5⟩ := HI0.out.g
 go_wp2_with fail
 clear g0 g1 g2 g3 g4 g5
 refine (bS P Q G X B H true hval (by omega) _ (aa (hv.out.below HI0.out.b))).mono ?_
 rintro e w1 ⟨rfl, hb1⟩
 have HI1 := aa (HI0.out.below hb1)
 clear hb1 HI0
 go_wp2_with fail
 refine (jH s hs true hr _).mono ?_
 rintro e w2 ⟨rfl, hb2⟩
 have HI2 := aa (HI1.out.below hb2)
 clear hb2 HI1
 go_wp2_with ((with_reducible show wpList _ _ _ (⟨some 40, _, _, _, _, _⟩ :: _) _ _); refine az (by rfl) 29 _ rfl (w.heap.size + 1) rfl _ _ _ _ HI2.out.d Tryz.underlying29 rfl (ai hl.out) ?_)
 refine (eH h hl c true hdr _).mono ?_
 rintro e w3 ⟨rfl, hb3⟩
 have HI3 := aa (HI2.out.below hb3)
 clear hb3 HI2
 obtain ⟨⟨g0, g1, g2⟩, g3, g4, g5⟩ := HI3.out.g
 have d1 : decide (r < (0 : Int)) = false := by simp; omega
 have d2 : decide (Q ≤ r) = false := by simp; omega
 go_wp2_with fail
 clear g0 g1 g2 g3 g4 g5
 refine (dH P Q G X B H n true dP _).mono ?_
 rintro e w4 ⟨rfl, hb4⟩
 have HI4 := aa (HI3.out.below hb4)
 clear hb4 HI3
 obtain ⟨⟨g0, g1, g2⟩, g3, g4, g5⟩ := HI4.out.g
 go_wp2_with fail
 clear g0 g1 g2 g3 g4 g5 d1 d2
 refine (zT m n hk1 sF m0 Kb.out _).mono ?_
 rintro e w5 ⟨bb, rfl, hbc, hb5⟩
 have nN := aa (HI4.out.below hb5)
 have JQ : Hid (Sl w5 (some ⟨bb, 0, none⟩) (dI m n)) := aa (fA hbc)
 clear hb5 HI4 hbc
 obtain ⟨⟨g0, g1, g2⟩, g3, g4, g5⟩ := nN.out.g
 have hmk := fun W => run_make_row' (P := Tryz.prog) 37 3 (.int .i64 0) 8 Tryz.underlying37 jM rfl .i64 .i64 n (by omega) (by omega) W
 have ni : (0 : Int) < (n : Int) := by omega
 go_upto_region 10 with (fail)
 have hfz : w.heap.size + 4 ≤ w5.heap.size := nN.out.z
 have hbl : (dI m n).length = n := ek m n
 have OD : bb < w5.heap.size := BS JQ.out (by omega)
 have IL : bb ≠ w.heap.size + 1 := Hw JQ.out (by omega) nN.out.d hl.out
 have hrm := jG w5 3 n
 have hrf := hrm.1 0 (by omega)
 have hrz := hrm.2 0
 have El := af w5 (.cells (madeCells #[.int .i64 0] n) 3)
 obtain ⟨wm, QG⟩ : ∃ u, w5.alloc (.cells (madeCells #[.int .i64 0] n) 3) = u := ⟨_, rfl⟩
 obtain ⟨fb, K8⟩ : ∃ z, w5.heap.size = z := ⟨_, rfl⟩
 rw [QG] at hrm hrf hrz El ⊢
 have Sg := aa (nN.out.below El)
 have p_ := aa (JQ.out.below El)
 rw [K8] at hrm hrf hrz hfz OD ⊢
 clear QG K8 El nN JQ hbl
 have IK : bb ≠ fb := by omega
 have HRW : Hid (fF (wm.setCell ⟨fb, 0, none⟩ (.int .i64 r)) fb n (fun j => if j = 0 then jU Q r (wR h Q c) (1 - 1) else if j < 1 then wR h Q c j else 0)) := aa (di (g_ hrm (by omega) r) (fun j hj => by
  by_cases e : j = 0
  · rw [if_pos e, if_pos e]; rfl
  · rw [if_neg e, if_neg e, if_neg (by omega)]))
 have tu : Hid (qb w P Q G X B H h (mF h Q c (1 - 1)) (wm.setCell ⟨fb, 0, none⟩ (.int .i64 r))) := aa (Sg.out.grown (aZ fb 0 (.int .i64 r)) hfz)
 have MP : Hid (Sl (wm.setCell ⟨fb, 0, none⟩ (.int .i64 r)) (some ⟨bb, 0, none⟩) (dI m n)) := aa (bE p_.out (Go.Deep.blk_setCell_other _ _ _ _ IK))
 dsimp only at hrf
 clear hrm hmk
 go_upto_region 11 with (fail)
 obtain ⟨w6, QJ⟩ : ∃ u, wm.setCell ⟨fb, 0, none⟩ (.int .i64 r) = u := ⟨_, rfl⟩
 rw [QJ] at HRW tu MP ⊢
 clear QJ hrf hrz Sg p_ g0 g1 g2 g3 g4 g5
 go_wp2
 go_loopw [19] (fun v u => ∃ i : Nat, 1 ≤ i ∧ i ≤ n ∧ v = .int .i64 i ∧ Hid (qb w P Q G X B H h (mF h Q c (i - 1)) u) ∧ Hid (fF u fb n (fun j => if j = 0 then jU Q r (wR h Q c) (i - 1) else if j < i then wR h Q c j else 0)) ∧ Hid (Sl u (some ⟨bb, 0, none⟩) (dI m n))) (fun v _ => n - (intOf v).toNat)
 case atStart => exact ⟨1, by omega, by omega, rfl, tu, HRW, MP⟩
 case round =>
  obtain ⟨i, hi1, hi2, rfl, HI, Ny, aG⟩ := hrel
  have hfc := sG (h := h) (q := Q) (c := c) (i - 1) (by omega)
  by_cases hlt : i < n
  ·
   obtain ⟨cnt, hcnt⟩ : ∃ z, mF h Q c (i - 1) = z := ⟨_, rfl⟩
   rw [hcnt] at HI hfc
   have hdc := kK (h := h) (q := Q) (c := cnt) (by omega)
   have hdv := gN (h := h) (q := Q) (c := cnt) (by omega)
   have D_ : Kp (fE h Q (gI Q) 256 cnt 0 = (tL h Q cnt, qB h Q cnt, false)) := ⟨Dp (by omega)⟩
   have P8 : Hid (wR h Q c i = tL h Q cnt) := aa (by rw [wR, hcnt])
   have NI : Hid (mF h Q c (i + 1 - 1) = qB h Q cnt) := aa (by rw [Nat.add_sub_cancel]; obtain ⟨k, rfl⟩ : ∃ k, i = k + 1 := ⟨i - 1, by omega⟩; rw [Nat.add_sub_cancel] at hcnt; rw [mF, hcnt])
   obtain ⟨x, hx⟩ : ∃ z, tL h Q cnt = z := ⟨_, rfl⟩
   obtain ⟨rc, hrc⟩ : ∃ z, qB h Q cnt = z := ⟨_, rfl⟩
   rw [hx, hrc] at D_
   rw [hx] at P8 hdv
   rw [hrc] at NI hdc
   have K_ : Hid (nS cnt = true) := aa (by simp [nS]; omega)
   clear hx hrc hcnt
   have ii : (i : Int) < (n : Int) := by omega
   go_wp2_with ((with_reducible show wpList _ _ _ (⟨some 91, _, _, _, _, _⟩ :: _) _ _); refine wpList_load_row rfl 29 _ rfl (w.heap.size + 1) rfl _ _ _ _ HI.out.d Tryz.underlying29 rfl (ai hl.out) ?_)
   refine (mR h hl n_ cnt K_ Q (by omega) hQ x rc false D_ h rc 0 (aa rfl) hl _ (aa (hd.out.below HI.out.b))).mono ?_
   rintro e u1 ⟨rfl, hb1⟩
   rw [show Hf h rc x 0 = .tuple #[.agg (ak h rc), .int .i64 x, .int .i64 0] from rfl]
   have gU := aa (HI.out.below hb1)
   have RU := aa (dm Ny.out (by omega) hb1)
   have tV := aa (aG.out.below hb1)
   have iW := aa (gU.out.src rc)
   have NA : Hid (fF (u1.setRow (w.heap.size + 1) (ak h rc)) fb n (fun j => if j = 0 then jU Q r (wR h Q c) (i - 1) else if j < i then wR h Q c j else 0)) := aa (aL RU.out (setRow_other _ _ _ _ (by omega)))
   have SB : Hid (Sl (u1.setRow (w.heap.size + 1) (ak h rc)) (some ⟨bb, 0, none⟩) (dI m n)) := aa (bE tV.out (setRow_other _ _ _ _ IL))
   have La := NA.out.1 i hlt
   have Ox := NA.out.2 i
   dsimp only at La
   rw [if_neg (by omega), if_neg (by omega)] at La
   have Nz := aa (g_ NA.out hlt x)
   have dW := aa (iW.out.grown (aZ fb i (.int .i64 x)) hfz)
   have qf : Hid (Sl ((u1.setRow (w.heap.size + 1) (ak h rc)).setCell ⟨fb, i, none⟩ (.int .i64 x)) (some ⟨bb, 0, none⟩) (dI m n)) := aa (bE SB.out (Go.Deep.blk_setCell_other _ _ _ _ IK))
   clear hb1 HI Ny aG
   go_upto_region 17 with ((with_reducible show wpList _ _ _ (⟨none, Op.store _ (Operand.tmp 11) _, _, _, _, _⟩ :: _) _ _); refine wpList_store_row rfl 29 _ _ rfl (w.heap.size + 1) (ak h rc) rfl rfl _ _ gU.out.d (ai hl.out) (aH hl.out hl.out) (ay _ _) ?_)
   obtain ⟨uz, QK⟩ : ∃ u, (u1.setRow (w.heap.size + 1) (ak h rc)).setCell ⟨fb, i, none⟩ (.int .i64 x) = u := ⟨_, rfl⟩
   rw [QK] at Nz dW qf ⊢
   clear QK La Ox gU RU tV iW NA SB D_ K_
   have hcx := Nz.out.1 i hlt
   dsimp only at hcx
   rw [if_pos rfl] at hcx
   obtain ⟨q1, q2⟩ := lH (n := i) (by omega)
   have Iw := zx hlt Pz.out
   have KV : (2 : Int) ^ i % Q = 2 ^ i := Int.emod_eq_of_lt (by omega) Iw
   obtain ⟨pr, hpr⟩ : ∃ z, x * 2 ^ i % Q = z := ⟨_, rfl⟩
   have R3 := aa hpr
   have KY : 0 ≤ pr ∧ pr < Q := by rw [← hpr]; exact ⟨Int.emod_nonneg _ (by omega), Int.emod_lt_of_pos _ (by omega)⟩
   clear hpr
   go_quiet ((go_at_call 28; exact Calls.quiet_of (zh x (2 ^ i) Q pr R3 hQ hdv.1 hdv.2 (by omega) Iw _)))
   have hbq := ax (Below.refl uz.heap.size uz) nq
   have L6 := aa (dm Nz.out (by omega) hbq)
   have PY := aa (dW.out.below hbq)
   have Kj := aa (qf.out.below hbq)
   obtain ⟨uq, QL⟩ : ∃ u, uz.drewN nq = u := ⟨_, rfl⟩
   rw [QL] at L6 PY Kj ⊢
   clear QL hbq Nz dW qf hcx
   have hc0 := L6.out.1 0 (by omega)
   have hf0 := L6.out.2 0
   dsimp only at hc0
   rw [if_neg (by omega), if_pos rfl] at hc0
   have hfin := sH (Q := Q) (r := r) (f := wR h Q c) (by omega) r0 r1 (i - 1)
   obtain ⟨f0, Fz⟩ : ∃ z, jU Q r (wR h Q c) (i - 1) = z := ⟨_, rfl⟩
   rw [Fz] at hc0 hfin
   obtain ⟨f1, II⟩ : ∃ z, (f0 - pr + Q) % Q = z := ⟨_, rfl⟩
   have UT := aa II
   have UR : Hid (jU Q r (wR h Q c) (i + 1 - 1) = f1) := aa (by
    obtain ⟨k, rfl⟩ : ∃ k, i = k + 1 := ⟨i - 1, by omega⟩
    rw [Nat.add_sub_cancel] at Fz ⊢
    rw [jU, Fz, P8.out, KV, R3.out, ← II, Int.add_emod_right])
   have RQ : Hid (fF (uq.setCell ⟨fb, 0, none⟩ (.int .i64 f1)) fb n (fun j => if j = 0 then jU Q r (wR h Q c) (i + 1 - 1) else if j < i + 1 then wR h Q c j else 0)) := aa (di (g_ L6.out (show 0 < n by omega) f1) (fun j hj => by
    by_cases e : j = 0
    · rw [if_pos e, if_pos e, UR.out]
    ·
     simp only [if_neg e]
     by_cases e2 : j = i
     · rw [if_pos e2, e2, if_pos (by omega), P8.out]
     ·
      rw [if_neg e2]
      by_cases e3 : j < i
      · rw [if_pos e3, if_pos (by omega)]
      · rw [if_neg e3, if_neg (by omega)]))
   have Sd : Hid (qb w P Q G X B H h (mF h Q c (i + 1 - 1)) (uq.setCell ⟨fb, 0, none⟩ (.int .i64 f1))) := aa (by rw [NI.out]; exact PY.out.grown (aZ fb 0 (.int .i64 f1)) hfz)
   have SA : Hid (Sl (uq.setCell ⟨fb, 0, none⟩ (.int .i64 f1)) (some ⟨bb, 0, none⟩) (dI m n)) := aa (bE Kj.out (Go.Deep.blk_setCell_other _ _ _ _ IK))
   clear Fz II KV q1 q2 Iw L6 PY Kj
   have Vy : (0 : Int) < (n : Int) := by omega
   go_wp2_with fail
   refine (tX f0 pr Q f1 UT hQ hfin.1 hfin.2 KY.1 KY.2 _).mono ?_
   rintro e Vi ⟨rfl, rfl⟩
   go_wp2
   obtain ⟨un, hun⟩ : ∃ u, uq.setCell ⟨fb, 0, none⟩ (.int .i64 f1) = u := ⟨_, rfl⟩
   rw [hun] at RQ Sd SA ⊢
   clear hun
   go_roundw
   case rel => exact ⟨i + 1, by omega, by omega, by go_num, Sd, RQ, SA⟩
   case measure => simp [intOf]; omega
  ·
   have hke : n = i := by omega
   subst hke
   have Mw : Hid (fF wr fb n (gM h Q r c n)) := aa (di Ny.out (fun j hj => by
    rw [gM, qy]
    by_cases e : j = 0
    · rw [if_pos e, if_pos e]
    · rw [if_neg e, if_neg e, if_pos hj]))
   obtain ⟨c2, hc2⟩ : ∃ z, mF h Q c (n - 1) = z := ⟨_, rfl⟩
   rw [hc2] at HI hfc
   have yY := aa hc2
   have OC : bb < wr.heap.size := BS aG.out (by rw [ek]; omega)
   have Ow : fb < wr.heap.size := lq Mw.out (by omega)
   clear hc2 Ny hlt hi1 hi2
   have hnb : (dI m n).length = n := ek m n
   have R9 := aa hnb
   have rz := af wr (.cells #[.slice none 0 0, .slice none 0 0] 40)
   have M7 : (wr.alloc (.cells #[.slice none 0 0, .slice none 0 0] 40)).heap[wr.heap.size]? = some (.cells #[.slice none 0 0, .slice none 0 0] 40 (0, 0)) := heap_alloc_new _ _
   have Gr : (wr.alloc (.cells #[.slice none 0 0, .slice none 0 0] 40)).heap.size = wr.heap.size + 1 := by simp
   go_upto_region 20 with (fail)
   obtain ⟨w7, hw7⟩ : ∃ u, wr.alloc (.cells #[.slice none 0 0, .slice none 0 0] 40) = u := ⟨_, rfl⟩
   obtain ⟨pb, hpb⟩ : ∃ z, wr.heap.size = z := ⟨_, rfl⟩
   rw [hw7] at rz M7 Gr ⊢
   rw [hpb] at M7 Gr OC Ow ⊢
   have tq := aa (HI.out.below rz)
   have Sr := aa (dm Mw.out (by omega) rz)
   have MQ := aa (aG.out.below rz)
   have R5 := aa M7
   have hpz : w.heap.size + 4 ≤ pb := by rw [← hpb]; exact HI.out.z
   clear hw7 hpb rz M7 hnb HI Mw aG
   obtain ⟨B2, hB2⟩ : ∃ z, w7.heap.size = z := ⟨_, rfl⟩
   have IV : pb < B2 ∧ bb < B2 ∧ fb < B2 := by omega
   have Ru : Hid (B2 ≤ w7.heap.size) := aa (by omega)
   clear hB2 Gr
   have K3 : bb ≠ pb := by omega
   have KZ : fb ≠ pb := by omega
   obtain ⟨es, hes⟩ : ∃ z, vz P Q G H h m r c n = z := ⟨_, rfl⟩
   have NL := aa hes
   have wL : Hid (es.length = n) := aa (by rw [← hes]; exact lV _ _ _ _ _ _ _ _ _)
   clear hes
   go_wp2
   have NP : Hid (Hg w fb bb pb B2) := aa ⟨hfz, hpz, IL, IV.2.2, IV.2.1, IV.1, KZ, K3⟩
   have Py : Hid (Gg w P Q G X B H h c2 fb bb pb B2 n (gM h Q r c n) (dI m n) none 0 0 (es.take 0) w7) := aa ⟨tq.out, Sr.out, MQ.out, R5.out, World.ownsRow_nil _ _ _ _, Ru.out⟩
   clear tq Sr MQ R5 Ru
   go_loopw [129] (fun v u => ∃ (k : Nat) (A : Option Addr) (ca : Nat), k ≤ n ∧ v = .int .i64 k ∧ Hid (Gg w P Q G X B H h c2 fb bb pb B2 n (gM h Q r c n) (dI m n) A k ca (es.take k) u)) (fun v _ => n - (intOf v).toNat)
   case atStart => exact ⟨0, none, 0, by omega, rfl, Py⟩
   case round =>
    obtain ⟨k, A, ca, hk, rfl, HQ⟩ := hrel
    have HI := aa HQ.out.bk
    have HF := aa HQ.out.f
    have aG := aa HQ.out.i
    by_cases hlt : k < n
    ·
     obtain ⟨b2, o2, he, hbc⟩ := aG.out k (by rw [R9.out]; exact hlt)
     obtain ⟨rfl, rfl⟩ : bb = b2 ∧ 0 = o2 := by injection he with e1; injection e1 with e1 e2; exact ⟨e1, e2⟩
     rw [mY m n k hlt, Nat.zero_add] at hbc
     have Gz : 0 ≤ m / 2 ^ k % 2 := Int.emod_nonneg _ (by decide)
     have Gy : m / 2 ^ k % 2 < 2 := Int.emod_lt_of_pos _ (by decide)
     have hEk := lW P Q G H h m r c hlt
     rw [NL.out] at hEk
     have J2 := oh (h := h) (q := Q) (r := r) (c := c) (by omega) r0 r1 n k
     have xM := HF.out.1 k hlt
     obtain ⟨bit, hbit⟩ : ∃ z, m / 2 ^ k % 2 = z := ⟨_, rfl⟩
     obtain ⟨fk, Dc⟩ : ∃ z, gM h Q r c n k = z := ⟨_, rfl⟩
     rw [hbit] at hbc Gz Gy hEk
     rw [Dc] at hEk J2 xM
     have hsc1 : bH Q bit = true := by simp [bH]; omega
     have hsc2 : bH Q fk = true := by simp [bH]; omega
     have Oe : Cz P Q G X B H [bit, fk] = 0 := by rw [Cz, if_pos hval.out, if_pos (by simp [hsc1, hsc2])]
     have R4 := aa Oe
     obtain ⟨V, hV⟩ : ∃ z, es.getD k 0 = z := ⟨_, rfl⟩
     have RZ : Hid (H_ P Q G X B H bit fk = V) := aa (by rw [H_, if_pos Oe, uD p1, ← hEk, hV])
     have GR : Hid (es.take (k + 1) = es.take k ++ [V]) := aa (by
      rw [List.take_add_one, List.getElem?_eq_getElem (by rw [wL.out]; exact hlt)]
      rw [List.getD_eq_getElem?_getD, List.getElem?_eq_getElem (by rw [wL.out]; exact hlt)] at hV
      simp only [Option.getD_some] at hV
      rw [hV]; rfl)
     have Mv := aa xM
     have hO : Hid (∀ u : World, Hid (Below wr.heap.size wr u) → (u.cell? ⟨w.heap.size, 0, none⟩ = some (.int .i64 P) ∧ u.cell? ⟨w.heap.size, 1, none⟩ = some (.int .i64 Q) ∧ u.cell? ⟨w.heap.size, 2, none⟩ = some (.int .i64 G) ∧ u.cell? ⟨w.heap.size, 3, none⟩ = some (.int .i64 X) ∧ u.cell? ⟨w.heap.size, 4, none⟩ = some (.int .i64 B) ∧ u.cell? ⟨w.heap.size, 5, none⟩ = some (.int .i64 H) ∧ u.cell? ⟨fb, k, none⟩ = some (.int .i64 fk))) := aa (fun u hu => by
      obtain ⟨⟨q0, q1, q2⟩, q3, q4, q5⟩ := HI.out.g.below hu.out
      exact ⟨q0, q1, q2, q3, q4, q5, cell_below Mv.out hu.out⟩)
     have ki : (k : Int) < (n : Int) := by omega
     go_upto_region 23 with (fail)
     clear hbc xM hEk hsc1 hsc2 Oe hV hbit Dc
     refine uB [] (jQ wr) (fun hHeld => ?_)
     refine dN 0 1 2 3 ?_
     refine dY 4 ?_
     refine dY 5 ?_
     refine dK 6 fun K hK => ?_
     go_simp
     refine (ny P Q G X B H bit fk V 0 R4 RZ (by omega) _ (aa (hv.out.below (HI.out.below hHeld.out).b))).mono ?_
     rintro e u1 ⟨rfl, hb1⟩
     refine hK.out _ _ (vT hHeld hb1) (fun hHeld => ?_)
     clear hK K hb1
     try simp only [qq]
     refine dN 7 8 9 10 ?_
     refine dY 11 ?_
     refine kT ?_
     clear hO HI HF aG Mv RZ R4 Gz Gy J2
     have Ma := aa (HQ.out.below NP.out hHeld.out)
     have c0 : u1.cell? ⟨pb, 0, none⟩ = some (.slice A k ca) := aj Ma.out.p 0
     have h1z := Ma.out.z
     go_upto_region 27 with (at_builtin; refine _root_.Go.wpList_append_lies _ rfl _ _ 37 rfl B2 3 i0 (.int .i64 0) 1 8 Tryz.underlying37 JG.out hz0 hz1 hz2 rfl (by decide) (.slice A k ca) k _ rfl (Ma.out.a.alloc _) ⟨u1.heap.size, 0, none⟩ 1 1 [.int .i64 V] rfl rfl (cell_one_new _ _ _) (ints_oneCell .i64 [V]) (by decide) (by unfold maxLen; omega) (by omega) (by simp; omega) (u1.heap.size + 1) (by simp) ?_; intro gs cs w9 nC jv AL Db; have EA := (Ma.out.below NP.out (af u1 (.cells #[.int .i64 V] 3))).app NP.out nC jv; obtain ⟨c9, f9⟩ := EA.2)
     have L_ : Hid (Gg w P Q G X B H h c2 fb bb pb B2 n (gM h Q r c n) (dI m n) (some ⟨gs, 0, none⟩) (k + 1) cs (es.take (k + 1)) (w9.setCell ⟨pb, 0, none⟩ (.slice (some ⟨gs, 0, none⟩) (k + 1) cs))) := aa (by rw [GR.out]; exact EA.1)
     obtain ⟨un, hun⟩ : ∃ u, w9.setCell ⟨pb, 0, none⟩ (.slice (some ⟨gs, 0, none⟩) (k + 1) cs) = u := ⟨_, rfl⟩
     rw [hun] at L_ ⊢
     clear hun EA c9 f9 Db AL jv nC h1z c0 Ma
     go_wp2
     go_roundw
     case rel => exact ⟨k + 1, some ⟨gs, 0, none⟩, cs, by omega, by go_num, L_⟩
     case measure => simp [intOf]; omega
    ·
     have hke : n = k := by omega
     subst hke
     clear hlt hk HI HF aG
     rw [show es.take n = es from List.take_of_length_le (by have := wL.out; omega)] at HQ
     obtain ⟨gA, rfl, hgA, K6, Nb⟩ := Av HQ.out.a wL.out (by omega)
     obtain ⟨B3, hB3⟩ : ∃ z, wr.heap.size = z := ⟨_, rfl⟩
     rw [hB3] at K6
     obtain ⟨al, hal⟩ : ∃ z, Jj P Q G H h m c2 es = z := ⟨_, rfl⟩
     obtain ⟨cl, hcl⟩ : ∃ z, Lt P Q G H s h m c2 es = z := ⟨_, rfl⟩
     obtain ⟨zl, hzl⟩ : ∃ z, Km P Q G H s h m c2 es (gM h Q r c n) = z := ⟨_, rfl⟩
     have Ej : Hid (Hg w fb bb pb B3) := aa ⟨hfz, hpz, IL, by omega, by omega, by omega, KZ, K3⟩
     have HL2 : ∀ j, (al j).length = 2 ∧ (cl j).length = 2 ∧ (zl j).length = 2 := fun j => by
      rw [← hal, ← hcl, ← hzl]
      exact ⟨sK _ _ _ _ _ _ _ _, by rw [Lt, List.length_set]; exact l6 _ _ _ _ _, by rw [Km, List.length_set]; exact oq _ _ _ _ _⟩
     have Py : Hid (za w P Q G X B H h (mK h Q m c2 0) fb bb pb B3 n (gM h Q r c n) (dI m n) gA ca es al cl zl none 0 0 [] wr) := aa ⟨HQ.out.bk, HQ.out.f, HQ.out.i, HQ.out.p, Nb, World.ownsRow_nil _ _ _ _, BA.nil _ _ _ _ _ _, HL2, by omega⟩
     have ED := aa hal
     have ME := aa hcl
     have LF := aa hzl
     have Ep : gA ≠ pb ∧ gA ≠ w.heap.size + 1 ∧ gA < B3 := by omega
     have hg4 : w.heap.size + 4 ≤ gA := by omega
     clear hal hcl hzl HL2 Nb hB3 K6 hgA HQ NP
     go_wp2
     go_loopw [158] (fun v u => ∃ (k : Nat) (L : Option Addr) (cap : Nat) (vs : List Value), k ≤ n ∧ v = .int .i64 k ∧ Hid (za w P Q G X B H h (mK h Q m c2 k) fb bb pb B3 n (gM h Q r c n) (dI m n) gA ca es al cl zl L k cap vs u)) (fun v _ => n - (intOf v).toNat)
     case atStart => exact ⟨0, none, 0, [], by omega, rfl, Py⟩
     case round =>
      obtain ⟨k, L, cap, vs, hk, rfl, HQ⟩ := hrel
      by_cases hlt : k < n
      ·
       obtain ⟨b2, o2, he, hbc⟩ := HQ.out.i k (by rw [R9.out]; exact hlt)
       obtain ⟨rfl, rfl⟩ : bb = b2 ∧ 0 = o2 := by injection he with e1; injection e1 with e1 e2; exact ⟨e1, e2⟩
       rw [mY m n k hlt, Nat.zero_add] at hbc
       obtain ⟨b2, o2, he, M9⟩ := HQ.out.a k (by rw [wL.out]; exact hlt)
       obtain ⟨rfl, rfl⟩ : gA = b2 ∧ 0 = o2 := by injection he with e1; injection e1 with e1 e2; exact ⟨e1, e2⟩
       rw [Nat.zero_add] at M9
       have xM := HQ.out.f.1 k hlt
       have J2 := oh (h := h) (q := Q) (r := r) (c := c) (by omega) r0 r1 n k
       have hpc := oU (h := h) (q := Q) (m := m) (c := c2) k (by omega)
       have hEk := lW P Q G H h m r c hlt
       rw [NL.out] at hEk
       have hmem : av P Q (es.getD k 0) = true := by rw [hEk]; exact lF p1 (by omega) (dA sU.out) PZ.out (Int.emod_nonneg _ (by decide)) J2.1
       have hys := zf (P := P) (Q := Q) (G := G) (H := H) (f := gM h Q r c n k) (m := m) (k := k) p1 (by omega) (dA sU.out) PZ.out J2.1
       rw [← hEk] at hys
       rw [← yH m k] at hbc
       have hwl := yG m k
       have KT : av P Q (qm P Q G (es.getD k 0)) = true := jI p1 (by omega) hmem (fI p1 (by omega) (Int.emod_nonneg _ (by omega)) (dA sU.out))
       obtain ⟨cnt, hcnt⟩ : ∃ z, mK h Q m c2 k = z := ⟨_, rfl⟩
       rw [hcnt] at HQ hpc
       obtain ⟨Nl, FD⟩ : ∃ z, FO P Q G H s h m c2 es k = z := ⟨_, rfl⟩
       have Qe : Hid (mK h Q m c2 (k + 1) = iQ h Q cnt (nI m k) 2) := aa (by rw [mK, hcnt])
       have HA1 : Hid (al k = qE P Q H (Br P Q G (es.getD k 0)) h cnt (nI m k) 2) := aa (by rw [← ED.out, Jj, hcnt])
       have yZ : Hid (cl k = (vR h Q cnt (nI m k) 2).set (nI m k) (mW h Q cnt (nI m k) 2 Nl)) := aa (by rw [← ME.out, Lt, FD, hcnt])
       have HZ1 : Hid (zl k = (GG h Q cnt (nI m k) 2).set (nI m k) (rR h Q cnt (nI m k) 2 Nl (gM h Q r c n k))) := aa (by rw [← LF.out, Km, FD, hcnt])
       have NM : Kp (nE P Q G H (aO s) (Br P Q G (es.getD k 0)) (qE P Q H (Br P Q G (es.getD k 0)) h cnt (nI m k) 2) = Nl) := ⟨by rw [← FD, FO, Jj, hcnt]⟩
       have J6 : Hid ([es.getD k 0, qm P Q G (es.getD k 0)] = Br P Q G (es.getD k 0)) := aa rfl
       have P6 : Hid (iJ P Q G H (Br P Q G (es.getD k 0)) = 0) := aa (by
        rw [iJ, if_pos sU.out, if_pos ⟨by show 1 ≤ 2; omega, by show 2 ≤ 16; omega⟩, if_pos PZ.out, if_pos (by simp only [Br, List.all_cons, List.all_nil, hmem, KT, Bool.and_self])])
       have O9 : Hid ((Br P Q G (es.getD k 0)).length = 2) := aa rfl
       obtain ⟨wh, QH⟩ : ∃ z, nI m k = z := ⟨_, rfl⟩
       obtain ⟨fk, Dc⟩ : ∃ z, gM h Q r c n k = z := ⟨_, rfl⟩
       obtain ⟨e0, he0⟩ : ∃ z, es.getD k 0 = z := ⟨_, rfl⟩
       obtain ⟨ys, KM⟩ : ∃ z, Br P Q G (es.getD k 0) = z := ⟨_, rfl⟩
       rw [KM] at HA1 NM J6 P6 O9 hys
       rw [he0] at J6 hmem M9
       rw [QH] at Qe HA1 yZ HZ1 NM hys hbc hwl
       rw [Dc] at HZ1 J2 xM hys
       have NC := aa hmem
       have Rx := aa hys
       have Nu : Hid (bH Q fk = true) := aa (by simp [bH]; omega)
       clear KM he0 Dc QH FD hcnt KT hEk hmem hys
       have ki : (k : Int) < (n : Int) := by omega
       have y9 := af wr (.cells #[.slice none 0 0, .slice none 0 0, .slice none 0 0] 63)
       have mG : Hid ((wr.alloc (.cells #[.slice none 0 0, .slice none 0 0, .slice none 0 0] 63)).heap[wr.heap.size]? = some (.cells #[.slice none 0 0, .slice none 0 0, .slice none 0 0] 63 (0, 0))) := aa (heap_alloc_new wr _)
       have KJ : (wr.alloc (.cells #[.slice none 0 0, .slice none 0 0, .slice none 0 0] 63)).heap.size = wr.heap.size + 1 := by simp
       have Mh : Hid (∀ j, (Value.slice L k cap).ownBlock = some j → j < wr.heap.size) := aa (fun j e => (World.ownsRow.lt HQ.out.lo j e).2)
       have hB3 := HQ.out.z
       go_upto_region 32 with (fail)
       have G6 := aa (HQ.out.below Ej.out Ep.2.2 y9)
       obtain ⟨wt, hwt⟩ : ∃ u, wr.alloc (.cells #[.slice none 0 0, .slice none 0 0, .slice none 0 0] 63) = u := ⟨_, rfl⟩
       obtain ⟨tb, htb⟩ : ∃ z, wr.heap.size = z := ⟨_, rfl⟩
       rw [hwt] at G6 mG KJ ⊢
       rw [hwt, htb] at y9
       rw [htb] at mG KJ Mh hB3 ⊢
       have UU : Hid (wt.cell? ⟨gA, k, none⟩ = some (.int .i64 e0)) := aa (by rw [← htb] at y9; exact cell_below M9 y9)
       have V5 : Hid (wt.cell? ⟨bb, k, none⟩ = some (.int .i64 (wh : Int))) := aa (by rw [← htb] at y9; exact cell_below hbc y9)
       have NI : Hid (wt.cell? ⟨fb, k, none⟩ = some (.int .i64 fk)) := aa (by rw [← htb] at y9; exact cell_below xM y9)
       clear hwt htb y9 HQ M9 hbc xM
       have hO : Hid (∀ u : World, Hid (Below wt.heap.size wt u) → (u.cell? ⟨w.heap.size, 0, none⟩ = some (.int .i64 P) ∧ u.cell? ⟨w.heap.size, 1, none⟩ = some (.int .i64 Q) ∧ u.cell? ⟨w.heap.size, 2, none⟩ = some (.int .i64 G) ∧ u.cell? ⟨w.heap.size, 3, none⟩ = some (.int .i64 X) ∧ u.cell? ⟨w.heap.size, 4, none⟩ = some (.int .i64 B) ∧ u.cell? ⟨w.heap.size, 5, none⟩ = some (.int .i64 H) ∧ u.cell? ⟨pb, 0, none⟩ = some (.slice (some ⟨gA, 0, none⟩) n ca) ∧ u.cell? ⟨gA, k, none⟩ = some (.int .i64 e0) ∧ u.cell? ⟨fb, k, none⟩ = some (.int .i64 fk))) := aa (fun u hu => by
        have hq := G6.out.below Ej.out Ep.2.2 hu.out
        obtain ⟨⟨q0, q1, q2⟩, q3, q4, q5⟩ := hq.bk.g
        exact ⟨q0, q1, q2, q3, q4, q5, aj hq.p 0, cell_below UU.out hu.out, cell_below NI.out hu.out⟩)
       refine uB [19, 20, 21, 22, 23, 24, 25] (jQ wt) (fun hHeld => ?_)
       refine dN 0 1 2 3 ?_
       refine dN 4 5 6 7 ?_
       refine dN 8 9 11 12 ?_
       refine dN 13 14 15 16 ?_
       refine ql 17 (.agg (ak h cnt)) rfl (aV 29 _ rfl (w.heap.size + 1) rfl 29 (ak h cnt) (0, 0) _ (fun u hu => (G6.out.below Ej.out Ep.2.2 hu.out).bk.d) Tryz.underlying29 rfl (ai hl.out)) ?_
       refine dK 10 fun K hK => ?_
       go_simp
       refine (jY P Q G X B H e0 hval NC (by omega) _ (aa (hv.out.below (ag G6.out.bk.b hHeld.out)))).mono ?_
       rintro e u1 ⟨gS, rfl, hSS, hb1⟩
       rw [J6.out] at hSS
       have Ez := aa hSS
       refine hK.out _ _ (vT hHeld hb1) (fun hHeld => ?_)
       clear hK K hb1 hSS
       try simp only [qq]
       refine dK 18 fun K hK => ?_
       go_simp
       refine (A8 P Q G H (some ⟨gS, 0, none⟩) ys 2 2 wh fk s hs hr h hl n_ cnt (by omega) (by omega) O9 P6 hwl Nu Rx Nl NM (by omega) _ (aa (hv.out.below (ag G6.out.bk.b hHeld.out))) (aa (hd.out.below (ag G6.out.bk.b hHeld.out))) Ez).mono ?_
       rintro e u2 ⟨A, C, Z, bN, cc, cz, rfl, hsA, QT, QS, hb2, Oi, Oh, Og⟩
       refine hK.out _ _ (vT hHeld hb2) (fun jw => ?_)
       have hsz := hHeld.out.size
       have LY := aa (Sp.new (B := B3) (lb := (Value.slice L k cap).ownBlock) hsA (by rw [sK]; omega) Oi (by omega) (fun j e => by have := Mh.out j e; omega))
       have J_ := aa (Sp.new (B := B3) (lb := (Value.slice L k cap).ownBlock) QT (by rw [List.length_set, l6]; omega) Oh (by omega) (fun j e => by have := Mh.out j e; omega))
       have rJ := aa (Sp.new (B := B3) (lb := (Value.slice L k cap).ownBlock) QS (by rw [List.length_set, oq]; omega) Og (by omega) (fun j e => by have := Mh.out j e; omega))
       rw [← HA1.out] at LY
       rw [← yZ.out] at J_
       rw [← HZ1.out] at rJ
       have J4 : Hid ((∀ a, A = some a → tb < a.block) ∧ (∀ a, C = some a → tb < a.block) ∧ (∀ a, Z = some a → tb < a.block)) := aa ⟨fun a e => by have := Oi a e; omega, fun a e => by have := Oh a e; omega, fun a e => by have := Og a e; omega⟩
       clear hK K hb2 hsA QT QS Oi Oh Og hsz hHeld Ez O9 P6 Nu Rx NM NC J6
       have EA := aa (G6.out.below Ej.out Ep.2.2 jw.out)
       have Nt : Hid (u2.heap[tb]? = some (.cells #[.slice none 0 0, .slice none 0 0, .slice none 0 0] 63 (0, 0))) := aa ((jw.out.block tb (by omega)).trans mG.out)
       try simp only [qq]
       clear hO
       have hO : Hid (∀ u : World, Hid True → True) := aa (fun u _ => trivial)
       have Q5 : Hid True := aa trivial
       refine BD (fun _ => Hid True) [] ?_
       refine dN 19 20 21 22 ?_
       refine dK 23 fun K hK => ?_
       rw [show (if Region.wanted _ _ = true then _ else _ : Prop) = _ from if_pos rfl]
       refine wp_store_row 63 _ _ rfl tb #[.slice A 2 bN, .slice C 2 cc, .slice Z 2 cz] rfl rfl 63 _ Nt.out jN rfl (by simp [Value.oneCell']) ?_
       refine hK.out _ _ Q5 (fun _ => ?_)
       clear hK K
       try simp only [qq]
       have Q4 : ∀ o v, u2.cell? ⟨tb, o, none⟩ ≠ some (.int .i64 v) := fun o v e => by
        rw [cell_of_row u2 tb o _ _ _ Nt.out] at e
        match o, e with
        | 0, e => cases e
        | 1, e => cases e
        | 2, e => cases e
        | o + 3, e => simp at e
       have hLn : (Value.slice L k cap).ownBlock ≠ some tb := fun e => by have := Mh.out _ e; omega
       have NB := aa (EA.out.own Ej.out Ep.2.2 (dD u2 tb #[.slice A 2 bN, .slice C 2 cc, .slice Z 2 cz]) hB3 hLn Q4)
       have OJ := setRow_heap u2 tb _ #[.slice A 2 bN, .slice C 2 cc, .slice Z 2 cz] _ _ Nt.out
       have JC : Hid (Sp (u2.setRow tb #[.slice A 2 bN, .slice C 2 cc, .slice Z 2 cz]) B3 (Value.slice L k cap).ownBlock A (al k)) := aa (LY.out.keepN J4.out.1 (by rw [setRow_size]; exact Nat.le_refl _) (fun g hg => setRow_other _ _ _ _ (by omega)))
       have JA : Hid (Sp (u2.setRow tb #[.slice A 2 bN, .slice C 2 cc, .slice Z 2 cz]) B3 (Value.slice L k cap).ownBlock C (cl k)) := aa (J_.out.keepN J4.out.2.1 (by rw [setRow_size]; exact Nat.le_refl _) (fun g hg => setRow_other _ _ _ _ (by omega)))
       have Jy : Hid (Sp (u2.setRow tb #[.slice A 2 bN, .slice C 2 cc, .slice Z 2 cz]) B3 (Value.slice L k cap).ownBlock Z (zl k)) := aa (rJ.out.keepN J4.out.2.2 (by rw [setRow_size]; exact Nat.le_refl _) (fun g hg => setRow_other _ _ _ _ (by omega)))
       obtain ⟨u3, hu3⟩ : ∃ u, u2.setRow tb #[.slice A 2 bN, .slice C 2 cc, .slice Z 2 cz] = u := ⟨_, rfl⟩
       rw [hu3] at NB OJ JC JA Jy ⊢
       clear hu3 Q4 Nt EA LY J_ rJ jw hHeld
       obtain ⟨rc, hrc⟩ : ∃ z, iQ h Q cnt wh 2 = z := ⟨_, rfl⟩
       rw [hrc] at Qe ⊢
       refine dK 24 fun K hK => ?_
       rw [show (if Region.wanted _ _ = true then _ else _ : Prop) = _ from if_pos rfl]
       refine wp_store_row 29 _ _ rfl (w.heap.size + 1) (ak h rc) rfl rfl 29 _ NB.out.bk.d (ai hl.out) (aH hl.out hl.out) (ay _ _) ?_
       refine hK.out _ _ Q5 (fun _ => ?_)
       clear hK K
       try simp only [qq]
       have Gt : w.heap.size + 1 < B3 := by have := Ej.out.p4; have := Ej.out.lp; omega
       have Ka := aa (NB.out.src Ej.out Ep.2.1 rc)
       have Ph : Hid ((u3.setRow (w.heap.size + 1) (ak h rc)).heap[tb]? = some (.cells #[.slice A 2 bN, .slice C 2 cc, .slice Z 2 cz] 63 (0, 0))) := aa ((setRow_other _ _ _ _ (by omega)).trans OJ)
       have JB : Hid (Sp (u3.setRow (w.heap.size + 1) (ak h rc)) B3 (Value.slice L k cap).ownBlock A (al k)) := aa (JC.out.keepN J4.out.1 (by rw [setRow_size]; exact Nat.le_refl _) (fun g hg => setRow_other _ _ _ _ (by omega)))
       have Jz : Hid (Sp (u3.setRow (w.heap.size + 1) (ak h rc)) B3 (Value.slice L k cap).ownBlock C (cl k)) := aa (JA.out.keepN J4.out.2.1 (by rw [setRow_size]; exact Nat.le_refl _) (fun g hg => setRow_other _ _ _ _ (by omega)))
       have Jw : Hid (Sp (u3.setRow (w.heap.size + 1) (ak h rc)) B3 (Value.slice L k cap).ownBlock Z (zl k)) := aa (Jy.out.keepN J4.out.2.2 (by rw [setRow_size]; exact Nat.le_refl _) (fun g hg => setRow_other _ _ _ _ (by omega)))
       obtain ⟨u4, QO⟩ : ∃ u, u3.setRow (w.heap.size + 1) (ak h rc) = u := ⟨_, rfl⟩
       rw [QO] at Ka Ph JB Jz Jw ⊢
       clear QO OJ NB JC JA Jy G6 mG hrc
       refine dY 25 ?_
       refine kT ?_
       have hzb := Ka.out.z
       have SY : u4.cell? ⟨pb, 1, none⟩ = some (.slice L k cap) := aj Ka.out.p 1
       obtain ⟨i1, hi1, hy0, hy1, hy2⟩ := info_parts Fp
       have mD := af u4 (.cells #[.slice A 2 bN, .slice C 2 cc, .slice Z 2 cz] 63)
       go_upto_region 36 with (first | ((with_reducible show wpList _ _ _ (⟨some 193, _, _, _, _, _⟩ :: _) _ _); refine wpList_load_row rfl 63 _ rfl tb rfl _ _ _ _ Ph.out Tryz.underlying63 rfl jN ?_) | (at_builtin; refine _root_.Go.wpList_append_lies _ rfl _ _ 38 rfl B3 63 i1 (.agg #[.slice none 0 0, .slice none 0 0, .slice none 0 0]) 3 72 Tryz.underlying38 hi1 hy0 hy1 hy2 rfl (by decide) (.slice L k cap) k vs rfl (Ka.out.lo.alloc _) ⟨u4.heap.size, 0, none⟩ 1 1 [.slice A 2 bN, .slice C 2 cc, .slice Z 2 cz] rfl rfl (World.news_of_block (cs := #[.slice A 2 bN, .slice C 2 cc, .slice Z 2 cz]) (t := 63) (fr := (0, 0)) (heap_alloc_new u4 _)) (by simp [Value.oneCell']) (by decide) (by unfold maxLen; omega) (by omega) (by simp; omega) (u4.heap.size + 1) (by simp) ?_; intro gs cs w9 nC jv AL Db; have EA := (Ka.out.below Ej.out Ep.2.2 mD).app Ej.out Ep.2.2 Ep.1 (JB.out.below mD) (Jz.out.below mD) (Jw.out.below mD) nC jv (AL.imp id (fun e => by simp; omega)); obtain ⟨c9, f9⟩ := EA.2))
       have L_ : Hid (za w P Q G X B H h (mK h Q m c2 (k + 1)) fb bb pb B3 n (gM h Q r c n) (dI m n) gA ca es al cl zl (some ⟨gs, 0, none⟩) (k + 1) cs (vs ++ [.slice A 2 bN, .slice C 2 cc, .slice Z 2 cz]) (w9.setCell ⟨pb, 1, none⟩ (.slice (some ⟨gs, 0, none⟩) (k + 1) cs))) := aa (by rw [Qe.out]; exact EA.1)
       obtain ⟨un, hun⟩ : ∃ u, w9.setCell ⟨pb, 1, none⟩ (.slice (some ⟨gs, 0, none⟩) (k + 1) cs) = u := ⟨_, rfl⟩
       rw [hun] at L_ ⊢
       clear hun EA c9 f9 Db AL jv nC mD SY hzb Ka Ph JB Jz Jw
       go_wp2
       go_roundw
       case rel => exact ⟨k + 1, some ⟨gs, 0, none⟩, cs, _, by omega, by go_num, L_⟩
       case measure => simp [intOf]; omega
      ·
       have hke : n = k := by omega
       subst hke
       clear hlt hk
       obtain ⟨cnt, hcnt⟩ : ∃ z, mK h Q m c2 n = z := ⟨_, rfl⟩
       rw [hcnt] at HQ
       have JK : Hid (mK h Q m (mF h Q c (n - 1)) n = cnt) := aa (by rw [yY.out]; exact hcnt)
       clear hcnt
       go_upto_region 37 with (fail)
       have yS := aa (HQ.out.below Ej.out Ep.2.2 ((Below.refl wr.heap.size wr).drew))
       have hO : Hid (∀ u : World, Hid (u.heap[pb]? = some (.cells #[.slice (some ⟨gA, 0, none⟩) n ca, .slice L n cap] 40 (0, 0)) ∧ aD u (w.heap.size + 1) h cnt) → True) := aa (fun u hu => trivial)
       refine Co (fun u => u.heap[pb]? = some (.cells #[.slice (some ⟨gA, 0, none⟩) n ca, .slice L n cap] 40 (0, 0)) ∧ aD u (w.heap.size + 1) h cnt) [] (aa ⟨yS.out.p, yS.out.bk.d⟩) (fun hHeld => ?_)
       refine ql 0 (.agg #[.slice (some ⟨gA, 0, none⟩) n ca, .slice L n cap]) rfl (aV 40 _ rfl pb rfl 40 #[.slice (some ⟨gA, 0, none⟩) n ca, .slice L n cap] (0, 0) _ (fun u hu => hu.out.1) Tryz.underlying40 rfl bC) ?_
       refine ql 1 (.agg (ak h cnt)) rfl (aV 29 _ rfl (w.heap.size + 1) rfl 29 (ak h cnt) (0, 0) _ (fun u hu => hu.out.2) Tryz.underlying29 rfl (ai hl.out)) ?_
       obtain ⟨ug, zI⟩ : ∃ v, wr.drew = v := ⟨_, rfl⟩
       rw [zI] at yS hHeld ⊢
       clear zI hHeld
       refine dK 2 fun K hK => ?_
       rw [show (if Region.wanted _ _ = true then _ else _ : Prop) = _ from if_pos rfl]
       refine wp_store_row 40 _ _ rfl (w.heap.size + 2) #[.slice (some ⟨gA, 0, none⟩) n ca, .slice L n cap] rfl rfl 40 _ yS.out.bk.p bC rfl (by simp [Value.oneCell']) ?_
       refine hK.out _ _ (aa ⟨(setRow_other _ _ _ _ (by omega)).trans yS.out.p, (setRow_other _ _ _ _ (by omega)).trans yS.out.bk.d⟩) (fun hHeld => ?_)
       clear hK K
       try simp only [qq]
       have L8 : Hid (aD (ug.setRow (w.heap.size + 2) #[.slice (some ⟨gA, 0, none⟩) n ca, .slice L n cap]) (w.heap.size + 3) (aR 32) 0) := aa ((setRow_other _ _ _ _ (by omega)).trans yS.out.bk.r)
       refine dK 3 fun K hK => ?_
       rw [show (if Region.wanted _ _ = true then _ else _ : Prop) = _ from if_pos rfl]
       refine wp_store_row 29 _ _ rfl (w.heap.size + 3) (ak h cnt) rfl rfl 29 _ L8.out (ai hl.out) (aH rfl hl.out) (ay _ _) ?_
       refine hK.out _ _ (aa ⟨(setRow_other _ _ _ _ (by omega)).trans hHeld.out.1, (setRow_other _ _ _ _ (by omega)).trans hHeld.out.2⟩) (fun hHeld => ?_)
       clear hK K
       try simp only [qq]
       refine dY 4 ?_
       refine kT ?_
       clear hO
       have yU := setRow_heap ug (w.heap.size + 2) _ #[.slice (some ⟨gA, 0, none⟩) n ca, .slice L n cap] _ _ yS.out.bk.p
       have yT : ((ug.setRow (w.heap.size + 2) #[.slice (some ⟨gA, 0, none⟩) n ca, .slice L n cap]).setRow (w.heap.size + 3) (ak h cnt)).heap[w.heap.size + 2]? = some (.cells #[.slice (some ⟨gA, 0, none⟩) n ca, .slice L n cap] 40 (0, 0)) := (setRow_other _ _ _ _ (by omega)).trans yU
       have Ga : aD ((ug.setRow (w.heap.size + 2) #[.slice (some ⟨gA, 0, none⟩) n ca, .slice L n cap]).setRow (w.heap.size + 3) (ak h cnt)) (w.heap.size + 3) h cnt := L8.out.setRow
       have hk : ∀ g, w.heap.size + 4 ≤ g → ((ug.setRow (w.heap.size + 2) #[.slice (some ⟨gA, 0, none⟩) n ca, .slice L n cap]).setRow (w.heap.size + 3) (ak h cnt)).heap[g]? = ug.heap[g]? := fun g hg => (setRow_other _ _ _ _ (by omega)).trans (setRow_other _ _ _ _ (by omega))
       have Gt : w.heap.size + 4 ≤ B3 := by omega
       have UN := h_ (h_ yS.out.lo (dD ug (w.heap.size + 2) #[.slice (some ⟨gA, 0, none⟩) n ca, .slice L n cap]) (by omega)) (dD _ (w.heap.size + 3) (ak h cnt)) (by omega)
       have Ki := yS.out.ch.keep (u' := (ug.setRow (w.heap.size + 2) #[.slice (some ⟨gA, 0, none⟩) n ca, .slice L n cap]).setRow (w.heap.size + 3) (ak h cnt)) (lb' := (Value.slice L n cap).ownBlock) yS.out.l2 (by rw [setRow_size, setRow_size]; exact Nat.le_refl _) (fun g o xs _ hB _ hne _ => ⟨hk g (by omega), hne⟩)
       have Qo : Sl ((ug.setRow (w.heap.size + 2) #[.slice (some ⟨gA, 0, none⟩) n ca, .slice L n cap]).setRow (w.heap.size + 3) (ak h cnt)) (some ⟨gA, 0, none⟩) es := bE yS.out.a (hk gA hg4)
       have fO : Below w.heap.size w ((ug.setRow (w.heap.size + 2) #[.slice (some ⟨gA, 0, none⟩) n ca, .slice L n cap]).setRow (w.heap.size + 3) (ak h cnt)) := ah (ah yS.out.bk.b (Nat.le_add_right _ _)) (Nat.le_add_right _ _)
       have hz2 : B3 ≤ ((ug.setRow (w.heap.size + 2) #[.slice (some ⟨gA, 0, none⟩) n ca, .slice L n cap]).setRow (w.heap.size + 3) (ak h cnt)).heap.size := by rw [setRow_size, setRow_size]; exact yS.out.z
       have UB : ∀ u : World, ((ug.setRow (w.heap.size + 2) #[.slice (some ⟨gA, 0, none⟩) n ca, .slice L n cap]).setRow (w.heap.size + 3) (ak h cnt)).heap.size ≤ u.heap.size → (∀ g, w.heap.size ≤ g → g < ((ug.setRow (w.heap.size + 2) #[.slice (some ⟨gA, 0, none⟩) n ca, .slice L n cap]).setRow (w.heap.size + 3) (ak h cnt)).heap.size → u.heap[g]? = ((ug.setRow (w.heap.size + 2) #[.slice (some ⟨gA, 0, none⟩) n ca, .slice L n cap]).setRow (w.heap.size + 3) (ak h cnt)).heap[g]?) → Ev u P Q G H m r n s h c (some ⟨gA, 0, none⟩) L := fun u hz hu => by
        refine ⟨?_, ?_⟩
        ·
         rw [NL.out]
         exact bE Qo (hu gA (by omega) (by omega))
        ·
         rw [yY.out, NL.out, ED.out, ME.out, LF.out]
         exact (Ki.keep (lb' := (Value.slice L n cap).ownBlock) yS.out.l2 hz (fun g o xs _ hB hl hne _ => ⟨hu g (by omega) hl, hne⟩)).lc (CE UN (fun g hB hl => hu g (by omega) hl))
       go_wp2
       exact bodyPost_ret (v := .tuple #[.agg #[.slice (some ⟨gA, 0, none⟩) n ca, .slice L n cap], .agg (ak h cnt), .int .i64 0]) (cu (p := 12) (q := 13) (r := 14) (ty := 40) (ty2 := 29) rfl _ _ ⟨w.heap.size + 2, 0, none⟩ ⟨w.heap.size + 3, 0, none⟩ _ _ _ rfl rfl rfl (run_loadVar_row _ _ _ _ _ _ _ yT Tryz.underlying40 rfl bC) (run_loadVar_row _ _ _ _ _ _ _ Ga Tryz.underlying29 rfl (ai hl.out))) rfl ⟨some ⟨gA, 0, none⟩, L, ca, cap, by rw [JK.out], UB, fO⟩
theorem yI (P Q G X B H m r n : Int) (s : ByteArray) (hs : s.size ≤ 1000) (hr : Hid (cZ (aO s) = true)) (h : List Int) (hl : Hid (h.length = 32)) (c : Int) (c0 : 0 ≤ c) (c1 : c + 32768 ≤ 1099511627776)
  (hval : Hid (aS P Q G X B H = true)) (hbad : fK Q n = false ∨ 2 ^ n.toNat ≤ m) (m0 : 0 ≤ m) (r0 : 0 ≤ r) (r1 : r < Q) (hQ : Q < 2305843009213693952) (w : World) (hv : Hid (Vars w)) :
  Calls Tryz.prog 9 #[bv P Q G X B H, .int .i64 m, .int .i64 r, .int .i64 n, .string s, .agg (ak h c)] w (Rt w (.tuple #[Gl none 0 0 none 0 0, .agg (ak (aR 32) 0), .int .i64 2])) := by
 have hdr : Hid (nS c = true) := aa (by simp [nS]; omega)
 have HI0 : Hid (qb w P Q G X B H h c (Bh w P Q G X B H h c)) := aa (qb.start w P Q G X B H h c)
 obtain ⟨W, hW⟩ : ∃ W, Bh w P Q G X B H h c = W := ⟨_, rfl⟩
 rw [hW] at HI0
 have HW := aa hW
 clear hW
 go_in
 go_upto_region 1 with (fail)
 rw [show (((w.alloc (bB P Q G X B H)).alloc (.cells (ak h c) 29)).alloc (.cells #[.slice none 0 0, .slice none 0 0] 40)).alloc (.cells #[.int .u8 0, .int .u8 0, .int .u8 0, .int .u8 0, .int .u8 0, .int .u8 0, .int .u8 0, .int .u8 0, .int .u8 0, .int .u8 0, .int .u8 0, .int .u8 0, .int .u8 0, .int .u8 0, .int .u8 0, .int .u8 0, .int .u8 0, .int .u8 0, .int .u8 0, .int .u8 0, .int .u8 0, .int .u8 0, .int .u8 0, .int .u8 0, .int .u8 0, .int .u8 0, .int .u8 0, .int .u8 0, .int .u8 0, .int .u8 0, .int .u8 0, .int .u8 0, .int .i64 0] 29) = W from HW.out]
 clear HW
 obtain ⟨⟨g0, g1, g2⟩, g3, g4, g5⟩ := HI0.out.g
 go_wp2_with fail
 clear g0 g1 g2 g3 g4 g5
 refine (bS P Q G X B H true hval (by omega) _ (aa (hv.out.below HI0.out.b))).mono ?_
 rintro e w1 ⟨rfl, hb1⟩
 have HI1 := aa (HI0.out.below hb1)
 clear hb1 HI0
 go_wp2_with fail
 refine (jH s hs true hr _).mono ?_
 rintro e w2 ⟨rfl, hb2⟩
 have HI2 := aa (HI1.out.below hb2)
 clear hb2 HI1
 go_wp2_with ((with_reducible show wpList _ _ _ (⟨some 40, _, _, _, _, _⟩ :: _) _ _); refine az (by rfl) 29 _ rfl (w.heap.size + 1) rfl _ _ _ _ HI2.out.d Tryz.underlying29 rfl (ai hl.out) ?_)
 refine (eH h hl c true hdr _).mono ?_
 rintro e w3 ⟨rfl, hb3⟩
 have HI3 := aa (HI2.out.below hb3)
 clear hb3 HI2
 obtain ⟨⟨g0, g1, g2⟩, g3, g4, g5⟩ := HI3.out.g
 have d1 : decide (r < (0 : Int)) = false := by simp; omega
 have d2 : decide (Q ≤ r) = false := by simp; omega
 go_wp2_with fail
 clear g0 g1 g2 g3 g4 g5
 by_cases hp : fK Q n = true
 ·
  obtain ⟨n', hn, hk1, sF, hpw⟩ := fD hp
  subst hn
  have dP := aa hp
  have hm : (2 : Int) ^ n' ≤ m := by
   rcases hbad with hb | hb
   · rw [hp] at hb; cases hb
   · exact hb
  clear hp hbad hpw
  refine (dH P Q G X B H n' true dP _).mono ?_
  rintro e w4 ⟨rfl, hb4⟩
  have HI4 := aa (HI3.out.below hb4)
  clear hb4 HI3
  obtain ⟨⟨g0, g1, g2⟩, g3, g4, g5⟩ := HI4.out.g
  go_wp2_with fail
  clear g0 g1 g2 g3 g4 g5 d1 d2
  refine (Bi m n' hk1 sF m0 hm _).mono ?_
  rintro e w5 ⟨rfl, hb5⟩
  have jW := aa (HI4.out.below hb5)
  clear hb5 HI4
  go_wp2_with (first | ((with_reducible show wpList _ _ _ (⟨none, Op.store _ (Operand.tmp 12) _, _, _, _, _⟩ :: _) _ _); refine wpList_store_row rfl 40 _ _ rfl (w.heap.size + 2) #[.slice none 0 0, .slice none 0 0] rfl rfl _ _ jW.out.p bC rfl (by simp [Value.oneCell']) ?_) | ((with_reducible show wpList _ _ _ (⟨none, Op.store _ (Operand.tmp 13) _, _, _, _, _⟩ :: _) _ _); refine wpList_store_row rfl 29 _ _ rfl (w.heap.size + 3) (ak (aR 32) 0) rfl rfl _ _ ((setRow_other _ _ _ _ (by omega)).trans jW.out.r) (ai rfl) (aH rfl rfl) (ay _ _) ?_))
  exact bodyPost_ret (v := .tuple #[.agg #[.slice none 0 0, .slice none 0 0], .agg (ak (aR 32) 0), .int .i64 2]) (cu (p := 12) (q := 13) (r := 14) (ty := 40) (ty2 := 29) rfl _ _ ⟨w.heap.size + 2, 0, none⟩ ⟨w.heap.size + 3, 0, none⟩ _ _ _ rfl rfl rfl (run_loadVar_row _ _ _ _ _ _ _ ((setRow_other _ _ _ _ (by omega)).trans (setRow_heap _ _ _ #[.slice none 0 0, .slice none 0 0] _ _ jW.out.p)) Tryz.underlying40 rfl bC) (run_loadVar_row _ _ _ _ _ _ _ (aD.setRow (h := aR 32) (c := 0) ((setRow_other _ _ _ _ (by omega)).trans jW.out.r)) Tryz.underlying29 rfl (ai rfl))) rfl ⟨rfl, ah (ah jW.out.b (Nat.le_add_right _ _)) (Nat.le_add_right _ _)⟩
 ·
  have dP : Hid (fK Q n = false) := aa (by simpa using hp)
  clear hp hbad
  refine (dH P Q G X B H n false dP _).mono ?_
  rintro e w4 ⟨rfl, hb4⟩
  have jW := aa (HI3.out.below hb4)
  clear hb4 HI3
  go_wp2_with (first | ((with_reducible show wpList _ _ _ (⟨none, Op.store _ (Operand.tmp 12) _, _, _, _, _⟩ :: _) _ _); refine wpList_store_row rfl 40 _ _ rfl (w.heap.size + 2) #[.slice none 0 0, .slice none 0 0] rfl rfl _ _ jW.out.p bC rfl (by simp [Value.oneCell']) ?_) | ((with_reducible show wpList _ _ _ (⟨none, Op.store _ (Operand.tmp 13) _, _, _, _, _⟩ :: _) _ _); refine wpList_store_row rfl 29 _ _ rfl (w.heap.size + 3) (ak (aR 32) 0) rfl rfl _ _ ((setRow_other _ _ _ _ (by omega)).trans jW.out.r) (ai rfl) (aH rfl rfl) (ay _ _) ?_))
  exact bodyPost_ret (v := .tuple #[.agg #[.slice none 0 0, .slice none 0 0], .agg (ak (aR 32) 0), .int .i64 2]) (cu (p := 12) (q := 13) (r := 14) (ty := 40) (ty2 := 29) rfl _ _ ⟨w.heap.size + 2, 0, none⟩ ⟨w.heap.size + 3, 0, none⟩ _ _ _ rfl rfl rfl (run_loadVar_row _ _ _ _ _ _ _ ((setRow_other _ _ _ _ (by omega)).trans (setRow_heap _ _ _ #[.slice none 0 0, .slice none 0 0] _ _ jW.out.p)) Tryz.underlying40 rfl bC) (run_loadVar_row _ _ _ _ _ _ _ (aD.setRow (h := aR 32) (c := 0) ((setRow_other _ _ _ _ (by omega)).trans jW.out.r)) Tryz.underlying29 rfl (ai rfl))) rfl ⟨rfl, ah (ah jW.out.b (Nat.le_add_right _ _)) (Nat.le_add_right _ _)⟩
theorem dx {P : Program} {fn : Func} {p q r : Tmp} {ty : TypeId} (h : fn.results = #[.tmp p, .cell q ty, .tmp r]) (tmps : Array Value) (w : World) (a : Addr) (v u x : Value)
  (hp : tmps.getD p undef = u) (hq : tmps.getD q undef = .pointer (some a)) (hr : tmps.getD r undef = x) (hl : (loadVar ty a).run P w = .ok v w) : (results fn tmps).run P w = .ok (.tuple #[u, v, x]) w := by
 have hp' : tmps[p]?.getD undef = u := by simpa using hp
 have hq' : tmps[q]?.getD undef = .pointer (some a) := by simpa using hq
 have hr' : tmps[r]?.getD undef = x := by simpa using hr
 simp [results, h, hp', hq', hr', asAddr, hl]
theorem zG {low high Q : Int} (hb : iy Q low high = true) (hQ : Q < 2305843009213693952) : 1 ≤ tJ low high ∧ high - low < 2 ^ tJ low high := by
 simp only [iy, Bool.and_eq_true, decide_eq_true_eq] at hb
 exact ⟨CQ _ _ _, Gp (high - low) 61 1 (by show high - low < 2 ^ 62; omega)⟩
structure y_ (w : World) (P Q G X B H : Int) (h : List Int) (cnt : Int) (u : World) : Prop where
 g : qI u w.heap.size P Q G X B H
 d : aD u (w.heap.size + 1) h cnt
 r : aD u (w.heap.size + 2) (aR 32) 0
 z : w.heap.size + 3 ≤ u.heap.size
 b : Below w.heap.size w u
theorem y_.below {w u u' : World} {P Q G X B H : Int} {h : List Int} {cnt : Int} (K : y_ w P Q G X B H h cnt u) (hb : Below u.heap.size u u') : y_ w P Q G X B H h cnt u' :=
 ⟨K.g.below hb, K.d.below hb, K.r.below hb, Nat.le_trans K.z hb.size, ag K.b hb⟩
theorem y_.src {w u : World} {P Q G X B H : Int} {h : List Int} {cnt : Int} (K : y_ w P Q G X B H h cnt u) (cnt' : Int) : y_ w P Q G X B H h cnt' (u.setRow (w.heap.size + 1) (ak h cnt')) := by
 have hk : ∀ k, k ≠ w.heap.size + 1 → (u.setRow (w.heap.size + 1) (ak h cnt')).heap[k]? = u.heap[k]? := fun k hne => setRow_other _ _ _ _ hne
 have hc : ∀ k j, k ≠ w.heap.size + 1 → (u.setRow (w.heap.size + 1) (ak h cnt')).cell? ⟨k, j, none⟩ = u.cell? ⟨k, j, none⟩ := fun k j hl => World.cell?_of_block (w := u) (a := ⟨k, j, none⟩) (hk k hl)
 refine ⟨?_, K.d.setRow, (hk _ (by omega)).trans K.r, by rw [setRow_size]; exact K.z, ah K.b (Nat.le_succ _)⟩
 obtain ⟨⟨c0, c1, c2⟩, c3, c4, c5⟩ := K.g
 exact ⟨⟨(hc _ 0 (by omega)).trans c0, (hc _ 1 (by omega)).trans c1, (hc _ 2 (by omega)).trans c2⟩, (hc _ 3 (by omega)).trans c3, (hc _ 4 (by omega)).trans c4, (hc _ 5 (by omega)).trans c5⟩
def zW (a b u : World) : Prop := b.heap.size ≤ u.heap.size ∧ ∀ g, a.heap.size ≤ g → g < b.heap.size → u.heap[g]? = b.heap[g]?
theorem zW.refl (a b : World) : zW a b b := ⟨Nat.le_refl _, fun _ _ _ => rfl⟩
theorem zW.below {a b u u' : World} (h : zW a b u) (hb : Below u.heap.size u u') : zW a b u' := ⟨Nat.le_trans h.1 hb.size, fun g h1 h2 => (hb.block g (Nat.lt_of_lt_of_le h2 h.1)).trans (h.2 g h1 h2)⟩
theorem zW.row {a b u : World} (h : zW a b u) (k : Nat) (xs : Array Value) (hk : k < a.heap.size ∨ b.heap.size ≤ k) : zW a b (u.setRow k xs) := ⟨by rw [setRow_size]; exact h.1, fun g h1 h2 => (setRow_other _ _ _ _ (by omega)).trans (h.2 g h1 h2)⟩
theorem y_.row {w u : World} {P Q G X B H : Int} {h : List Int} {cnt : Int} (K : y_ w P Q G X B H h cnt u) (k : Nat) (xs : Array Value) (hk : w.heap.size + 3 ≤ k) : y_ w P Q G X B H h cnt (u.setRow k xs) := by
 have hk : ∀ g, g ≠ k → (u.setRow k xs).heap[g]? = u.heap[g]? := fun g hne => setRow_other _ _ _ _ hne
 have hc : ∀ g j, g ≠ k → (u.setRow k xs).cell? ⟨g, j, none⟩ = u.cell? ⟨g, j, none⟩ := fun g j hl => World.cell?_of_block (w := u) (a := ⟨g, j, none⟩) (hk g hl)
 refine ⟨?_, (hk _ (by omega)).trans K.d, (hk _ (by omega)).trans K.r, by rw [setRow_size]; exact K.z, ah K.b (by omega)⟩
 obtain ⟨⟨c0, c1, c2⟩, c3, c4, c5⟩ := K.g
 exact ⟨⟨(hc _ 0 (by omega)).trans c0, (hc _ 1 (by omega)).trans c1, (hc _ 2 (by omega)).trans c2⟩, (hc _ 3 (by omega)).trans c3, (hc _ 4 (by omega)).trans c4, (hc _ 5 (by omega)).trans c5⟩
abbrev Bf (w : World) (P Q G X B H : Int) (h : List Int) (c : Int) : World := ((w.alloc (bB P Q G X B H)).alloc (.cells (ak h c) 29)).alloc (.cells #[.int .u8 0, .int .u8 0, .int .u8 0, .int .u8 0, .int .u8 0, .int .u8 0, .int .u8 0, .int .u8 0, .int .u8 0, .int .u8 0, .int .u8 0, .int .u8 0, .int .u8 0, .int .u8 0, .int .u8 0, .int .u8 0, .int .u8 0, .int .u8 0, .int .u8 0, .int .u8 0, .int .u8 0, .int .u8 0, .int .u8 0, .int .u8 0, .int .u8 0, .int .u8 0, .int .u8 0, .int .u8 0, .int .u8 0, .int .u8 0, .int .u8 0, .int .u8 0, .int .i64 0] 29)
theorem y_.start (w : World) (P Q G X B H : Int) (h : List Int) (c : Int) : y_ w P Q G X B H h c (Bf w P Q G X B H h c) := by
 have e1 : (w.alloc (bB P Q G X B H)).heap.size = w.heap.size + 1 := by simp
 have e2 : ((w.alloc (bB P Q G X B H)).alloc (.cells (ak h c) 29)).heap.size = w.heap.size + 2 := by simp
 have b1 := af (w.alloc (bB P Q G X B H)) (.cells (ak h c) 29)
 have b2 := af ((w.alloc (bB P Q G X B H)).alloc (.cells (ak h c) 29)) (.cells #[.int .u8 0, .int .u8 0, .int .u8 0, .int .u8 0, .int .u8 0, .int .u8 0, .int .u8 0, .int .u8 0, .int .u8 0, .int .u8 0, .int .u8 0, .int .u8 0, .int .u8 0, .int .u8 0, .int .u8 0, .int .u8 0, .int .u8 0, .int .u8 0, .int .u8 0, .int .u8 0, .int .u8 0, .int .u8 0, .int .u8 0, .int .u8 0, .int .u8 0, .int .u8 0, .int .u8 0, .int .u8 0, .int .u8 0, .int .u8 0, .int .u8 0, .int .u8 0, .int .i64 0] 29)
 refine ⟨((eP w P Q G X B H).below b1).below b2, ?_, ?_, by simp, ag (ag (af w (bB P Q G X B H)) b1) b2⟩
 ·
  have h1 := aD.new (w.alloc (bB P Q G X B H)) h c
  rw [e1] at h1
  exact h1.below b2
 ·
  unfold Bf
  rw [← e2, nO]
  exact aD.new _ _ _
theorem gK (P Q G X B H m r low high : Int) (s : ByteArray) (hs : s.size ≤ 1000) (hr : Hid (cZ (aO s) = true)) (h : List Int) (hl : Hid (h.length = 32)) (n_ : Hid (au h = true)) (c : Int) (c0 : 0 ≤ c) (c1 : c + 65536 ≤ 1099511627776)
  (hval : Hid (aS P Q G X B H = true)) (m0 : 0 ≤ m) (mQ : m < Q) (r0 : 0 ≤ r) (r1 : r < Q) (hQ : Q < 2305843009213693952) (hbad : uP Q low high = 0 ∨ m < low ∨ high < m) (w : World) (hv : Hid (Vars w)) :
  Calls Tryz.prog 12 #[bv P Q G X B H, .int .i64 m, .int .i64 r, .int .i64 low, .int .i64 high, .string s, .agg (ak h c)] w (Rt w (.tuple #[.slice none 0 0, .agg (ak (aR 32) 0), .int .i64 2])) := by
 have hdr : Hid (nS c = true) := aa (by simp [nS]; omega)
 have HI0 : Hid (y_ w P Q G X B H h c (Bf w P Q G X B H h c)) := aa (y_.start w P Q G X B H h c)
 obtain ⟨W, hW⟩ : ∃ W, Bf w P Q G X B H h c = W := ⟨_, rfl⟩
 rw [hW] at HI0
 have HW := aa hW
 clear hW
 go_in
 go_upto_region 1 with (fail)
 rw [show ((w.alloc (bB P Q G X B H)).alloc (.cells (ak h c) 29)).alloc (.cells #[.int .u8 0, .int .u8 0, .int .u8 0, .int .u8 0, .int .u8 0, .int .u8 0, .int .u8 0, .int .u8 0, .int .u8 0, .int .u8 0, .int .u8 0, .int .u8 0, .int .u8 0, .int .u8 0, .int .u8 0, .int .u8 0, .int .u8 0, .int .u8 0, .int .u8 0, .int .u8 0, .int .u8 0, .int .u8 0, .int .u8 0, .int .u8 0, .int .u8 0, .int .u8 0, .int .u8 0, .int .u8 0, .int .u8 0, .int .u8 0, .int .u8 0, .int .u8 0, .int .i64 0] 29) = W from HW.out]
 clear HW
 obtain ⟨⟨g0, g1, g2⟩, g3, g4, g5⟩ := HI0.out.g
 go_wp2_with fail
 clear g0 g1 g2 g3 g4 g5
 refine (bS P Q G X B H true hval (by omega) _ (aa (hv.out.below HI0.out.b))).mono ?_
 rintro e w1 ⟨rfl, hb1⟩
 have HI1 := aa (HI0.out.below hb1)
 clear hb1 HI0
 go_wp2_with fail
 refine (jH s hs true hr _).mono ?_
 rintro e w2 ⟨rfl, hb2⟩
 have HI2 := aa (HI1.out.below hb2)
 clear hb2 HI1
 go_wp2_with ((with_reducible show wpList _ _ _ (⟨some 31, _, _, _, _, _⟩ :: _) _ _); refine az (by rfl) 29 _ rfl (w.heap.size + 1) rfl _ _ _ _ HI2.out.d Tryz.underlying29 rfl (ai hl.out) ?_)
 refine (eH h hl c true hdr _).mono ?_
 rintro e w3 ⟨rfl, hb3⟩
 have HI3 := aa (HI2.out.below hb3)
 clear hb3 HI2
 obtain ⟨⟨g0, g1, g2⟩, g3, g4, g5⟩ := HI3.out.g
 go_wp2_with fail
 clear g0 g1 g2 g3 g4 g5
 by_cases hb : iy Q low high = true
 ·
  have Oq := zG hb hQ
  obtain ⟨wd, hwd⟩ : ∃ z, tJ low high = z := ⟨_, rfl⟩
  obtain ⟨ok, hok⟩ : ∃ z, tK Q wd = z := ⟨_, rfl⟩
  have hbd : ok = true → m < low ∨ high < m := fun e => by
   rcases hbad with h0 | h0
   ·
    rw [uP, if_pos hb, hwd, hok, if_pos e] at h0
    rw [hwd] at Oq
    omega
   · exact h0
  refine (oH P Q G X B H low high (aa hb) hQ wd ok (aa hwd) (aa hok) _).mono ?_
  rintro e w4 ⟨rfl, hb4⟩
  have jW := aa (HI3.out.below hb4)
  clear hb4 HI3
  obtain ⟨⟨g0, g1, g2⟩, g3, g4, g5⟩ := jW.out.g
  obtain rfl | rfl : ok = false ∨ ok = true := by cases ok <;> simp
  ·
   clear hbad hb hok hwd hbd Oq
   go_wp2_with (((with_reducible show wpList _ _ _ (⟨none, Op.store _ (Operand.tmp 15) _, _, _, _, _⟩ :: _) _ _); refine wpList_store_row rfl 29 _ _ rfl (w.heap.size + 2) (ak (aR 32) 0) rfl rfl _ _ jW.out.r (ai rfl) (aH rfl rfl) (ay _ _) ?_))
   exact bodyPost_ret (v := .tuple #[.slice none 0 0, .agg (ak (aR 32) 0), .int .i64 2]) (dx (p := 14) (q := 15) (r := 16) (ty := 29) rfl _ _ ⟨w.heap.size + 2, 0, none⟩ _ _ _ rfl rfl rfl (run_loadVar_row _ _ _ _ _ _ _ (aD.setRow (h := aR 32) (c := 0) jW.out.r) Tryz.underlying29 rfl (ai rfl))) rfl ⟨rfl, ah jW.out.b (Nat.le_add_right _ _)⟩
  ·
   have hbd := hbd rfl
   clear hbad hb hok hwd Oq
   by_cases h1 : m < low
   ·
    have d1 : decide (m < low) = true := by simp; omega
    clear hbd
    go_wp2_with (((with_reducible show wpList _ _ _ (⟨none, Op.store _ (Operand.tmp 15) _, _, _, _, _⟩ :: _) _ _); refine wpList_store_row rfl 29 _ _ rfl (w.heap.size + 2) (ak (aR 32) 0) rfl rfl _ _ jW.out.r (ai rfl) (aH rfl rfl) (ay _ _) ?_))
    exact bodyPost_ret (v := .tuple #[.slice none 0 0, .agg (ak (aR 32) 0), .int .i64 2]) (dx (p := 14) (q := 15) (r := 16) (ty := 29) rfl _ _ ⟨w.heap.size + 2, 0, none⟩ _ _ _ rfl rfl rfl (run_loadVar_row _ _ _ _ _ _ _ (aD.setRow (h := aR 32) (c := 0) jW.out.r) Tryz.underlying29 rfl (ai rfl))) rfl ⟨rfl, ah jW.out.b (Nat.le_add_right _ _)⟩
   ·
    have d1 : decide (m < low) = false := by simp; omega
    have d2 : decide (high < m) = true := by simp; omega
    clear hbd
    go_wp2_with (((with_reducible show wpList _ _ _ (⟨none, Op.store _ (Operand.tmp 15) _, _, _, _, _⟩ :: _) _ _); refine wpList_store_row rfl 29 _ _ rfl (w.heap.size + 2) (ak (aR 32) 0) rfl rfl _ _ jW.out.r (ai rfl) (aH rfl rfl) (ay _ _) ?_))
    exact bodyPost_ret (v := .tuple #[.slice none 0 0, .agg (ak (aR 32) 0), .int .i64 2]) (dx (p := 14) (q := 15) (r := 16) (ty := 29) rfl _ _ ⟨w.heap.size + 2, 0, none⟩ _ _ _ rfl rfl rfl (run_loadVar_row _ _ _ _ _ _ _ (aD.setRow (h := aR 32) (c := 0) jW.out.r) Tryz.underlying29 rfl (ai rfl))) rfl ⟨rfl, ah jW.out.b (Nat.le_add_right _ _)⟩
 ·
  have hb0 : Hid (iy Q low high = false) := aa (by simpa using hb)
  clear hb hbad
  refine (Ad P Q G X B H low high hb0 _).mono ?_
  rintro e w4 ⟨rfl, hb4⟩
  have jW := aa (HI3.out.below hb4)
  clear hb4 HI3
  obtain ⟨⟨g0, g1, g2⟩, g3, g4, g5⟩ := jW.out.g
  go_wp2_with (((with_reducible show wpList _ _ _ (⟨none, Op.store _ (Operand.tmp 15) _, _, _, _, _⟩ :: _) _ _); refine wpList_store_row rfl 29 _ _ rfl (w.heap.size + 2) (ak (aR 32) 0) rfl rfl _ _ jW.out.r (ai rfl) (aH rfl rfl) (ay _ _) ?_))
  exact bodyPost_ret (v := .tuple #[.slice none 0 0, .agg (ak (aR 32) 0), .int .i64 2]) (dx (p := 14) (q := 15) (r := 16) (ty := 29) rfl _ _ ⟨w.heap.size + 2, 0, none⟩ _ _ _ rfl rfl rfl (run_loadVar_row _ _ _ _ _ _ _ (aD.setRow (h := aR 32) (c := 0) jW.out.r) Tryz.underlying29 rfl (ai rfl))) rfl ⟨rfl, ah jW.out.b (Nat.le_add_right _ _)⟩
def MX (P Q G H m r low high : Int) (n : Nat) (s : ByteArray) (h : List Int) (c : Int) (w : World) (e : Ending) (w' : World) : Prop :=
 ∃ (g : Nat) (A1 L1 A2 L2 : Option Addr) (eD eB bN cB : Nat) (c3 : Int), e = .returned (.tuple #[.slice (some ⟨g, 0, none⟩) 2 2, .agg (ak h c3), .int .i64 0]) ∧ w'.heap[g]? = some (.cells #[.slice A1 n eD, .slice L1 n eB, .slice A2 n bN, .slice L2 n cB] 40 (0, 0)) ∧ Ev w' P Q G H (m - low) r n s h c A1 L1 ∧ Ev w' P Q G H (high - m) ((Q - r) % Q) n s h (mK h Q (m - low) (mF h Q c (n - 1)) n) A2 L2 ∧ Below w.heap.size w w'
theorem iT (P Q G X B H m r low high : Int) (s : ByteArray) (hs : s.size ≤ 1000) (hr : Hid (cZ (aO s) = true)) (h : List Int) (hl : Hid (h.length = 32)) (n_ : Hid (au h = true)) (c : Int) (c0 : 0 ≤ c) (c1 : c + 65536 ≤ 1099511627776)
  (hval : Hid (aS P Q G X B H = true)) (m0 : 0 ≤ m) (mQ : m < Q) (r0 : 0 ≤ r) (r1 : r < Q) (hQ : Q < 2305843009213693952) (n : Nat) (hb : Hid (iy Q low high = true)) (hn : Hid (tJ low high = n)) (hwb : Hid (tK Q n = true)) (hml : low ≤ m) (xJ : m ≤ high) (w : World) (hv : Hid (Vars w)) (hd : Hid (bu w)) :
  Calls Tryz.prog 12 #[bv P Q G X B H, .int .i64 m, .int .i64 r, .int .i64 low, .int .i64 high, .string s, .agg (ak h c)] w (MX P Q G H m r low high n s h c w) := by
 have hdr : Hid (nS c = true) := aa (by simp [nS]; omega)
 have HI0 : Hid (y_ w P Q G X B H h c (Bf w P Q G X B H h c)) := aa (y_.start w P Q G X B H h c)
 obtain ⟨W, hW⟩ : ∃ W, Bf w P Q G X B H h c = W := ⟨_, rfl⟩
 rw [hW] at HI0
 have HW := aa hW
 clear hW
 go_in
 go_upto_region 1 with (fail)
 rw [show ((w.alloc (bB P Q G X B H)).alloc (.cells (ak h c) 29)).alloc (.cells #[.int .u8 0, .int .u8 0, .int .u8 0, .int .u8 0, .int .u8 0, .int .u8 0, .int .u8 0, .int .u8 0, .int .u8 0, .int .u8 0, .int .u8 0, .int .u8 0, .int .u8 0, .int .u8 0, .int .u8 0, .int .u8 0, .int .u8 0, .int .u8 0, .int .u8 0, .int .u8 0, .int .u8 0, .int .u8 0, .int .u8 0, .int .u8 0, .int .u8 0, .int .u8 0, .int .u8 0, .int .u8 0, .int .u8 0, .int .u8 0, .int .u8 0, .int .u8 0, .int .i64 0] 29) = W from HW.out]
 clear HW
 obtain ⟨⟨g0, g1, g2⟩, g3, g4, g5⟩ := HI0.out.g
 go_wp2_with fail
 clear g0 g1 g2 g3 g4 g5
 refine (bS P Q G X B H true hval (by omega) _ (aa (hv.out.below HI0.out.b))).mono ?_
 rintro e w1 ⟨rfl, hb1⟩
 have HI1 := aa (HI0.out.below hb1)
 clear hb1 HI0
 go_wp2_with fail
 refine (jH s hs true hr _).mono ?_
 rintro e w2 ⟨rfl, hb2⟩
 have HI2 := aa (HI1.out.below hb2)
 clear hb2 HI1
 go_wp2_with ((with_reducible show wpList _ _ _ (⟨some 31, _, _, _, _, _⟩ :: _) _ _); refine az (by rfl) 29 _ rfl (w.heap.size + 1) rfl _ _ _ _ HI2.out.d Tryz.underlying29 rfl (ai hl.out) ?_)
 refine (eH h hl c true hdr _).mono ?_
 rintro e w3 ⟨rfl, hb3⟩
 have HI3 := aa (HI2.out.below hb3)
 clear hb3 HI2
 obtain ⟨⟨g0, g1, g2⟩, g3, g4, g5⟩ := HI3.out.g
 go_wp2_with fail
 clear g0 g1 g2 g3 g4 g5
 obtain ⟨Oo, K5⟩ := zG hb.out hQ
 rw [hn.out] at Oo K5
 have dP : Hid (fK Q (n : Int) = true) := aa (by
  have h2 := hwb.out
  simp only [tK, Bool.and_eq_true, decide_eq_true_eq] at h2
  have h3 : (2 : Int) ^ (n + 1) = 2 ^ n * 2 := by rw [Int.pow_succ]
  have h4 := (lH (n := n) (by omega)).1
  simp [fK]
  omega)
 have hm1 : Hid (m - low < 2 ^ n) := aa (by omega)
 have hm2 : Hid (high - m < 2 ^ n) := aa (by omega)
 clear K5
 have hlo : 0 ≤ low ∧ high < Q := by have h2 := hb.out; simp only [iy, Bool.and_eq_true, decide_eq_true_eq] at h2; omega
 have hn16 : n ≤ 16 := by have h2 := hwb.out; simp only [tK, Bool.and_eq_true, decide_eq_true_eq] at h2; omega
 refine (oH P Q G X B H low high hb hQ n true hn hwb _).mono ?_
 rintro e w4 ⟨rfl, hb4⟩
 have HI4 := aa (HI3.out.below hb4)
 clear hb4 HI3
 obtain ⟨⟨g0, g1, g2⟩, g3, g4, g5⟩ := HI4.out.g
 have d1 : decide (m < low) = false := by simp; omega
 have d2 : decide (high < m) = false := by simp; omega
 have d3 : decide (r < (0 : Int)) = false := by simp; omega
 have d4 : decide (Q ≤ r) = false := by simp; omega
 go_wp2_with ((with_reducible show wpList _ _ _ (⟨some 75, _, _, _, _, _⟩ :: _) _ _); refine wpList_load_row rfl 29 _ rfl (w.heap.size + 1) rfl _ _ _ _ HI4.out.d Tryz.underlying29 rfl (ai hl.out) ?_)
 clear g0 g1 g2 g3 g4 g5 d1 d2 d3 d4
 refine (iw P Q G X B H (m - low) r n s hs hr h hl n_ c (by omega) (by omega) hval dP (by omega) hm1.out r0 r1 hQ _ (aa (hv.out.below HI4.out.b)) (aa (hd.out.below HI4.out.b))).mono ?_
 rintro e w5 ⟨A1, L1, eD, eB, rfl, og, hb5⟩
 have VB : w.heap.size + 3 ≤ w4.heap.size := HI4.out.z
 have Tj := hb5.size
 have nN := aa (HI4.out.below hb5)
 have Iz := sG (h := h) (q := Q) (c := c) (n - 1) (by omega)
 have Iy := oU (h := h) (q := Q) (m := m - low) (c := mF h Q c (n - 1)) n (by omega)
 obtain ⟨c2, hc2⟩ : ∃ z, mK h Q (m - low) (mF h Q c (n - 1)) n = z := ⟨_, rfl⟩
 have yY := aa hc2
 rw [hc2] at Iy ⊢
 clear hb5 HI4 hc2
 have Pd : Hid ((w5.alloc (.cells #[.slice none 0 0, .slice none 0 0] 40)).heap[w5.heap.size]? = some (.cells #[.slice none 0 0, .slice none 0 0] 40 (0, 0))) := aa (heap_alloc_new _ _)
 have PX := aa ((nN.out.below (af w5 (.cells #[.slice none 0 0, .slice none 0 0] 40))).row w5.heap.size #[.slice A1 n eD, .slice L1 n eB] nN.out.z)
 have RD := setRow_heap _ _ _ #[.slice A1 n eD, .slice L1 n eB] _ _ Pd.out
 have LZ : Hid (zW w4 w5 ((w5.alloc (.cells #[.slice none 0 0, .slice none 0 0] 40)).setRow w5.heap.size #[.slice A1 n eD, .slice L1 n eB])) := aa (((zW.refl w4 w5).below (af w5 (.cells #[.slice none 0 0, .slice none 0 0] 40))).row _ _ (.inr (Nat.le_refl _)))
 have PW := aa (PX.out.src c2)
 have Ex : Hid ((((w5.alloc (.cells #[.slice none 0 0, .slice none 0 0] 40)).setRow w5.heap.size #[.slice A1 n eD, .slice L1 n eB]).setRow (w.heap.size + 1) (ak h c2)).heap[w5.heap.size]? = some (.cells #[.slice A1 n eD, .slice L1 n eB] 40 (0, 0))) := aa ((setRow_other _ _ _ _ (by omega)).trans RD)
 have GY := aa (LZ.out.row (w.heap.size + 1) (ak h c2) (.inl (by omega)))
 have Gr : (((w5.alloc (.cells #[.slice none 0 0, .slice none 0 0] 40)).setRow w5.heap.size #[.slice A1 n eD, .slice L1 n eB]).setRow (w.heap.size + 1) (ak h c2)).heap.size = w5.heap.size + 1 := by rw [setRow_size, setRow_size]; simp
 clear RD LZ
 go_upto_region 7 with (first | ((with_reducible show wpList _ _ _ (⟨none, Op.store _ (Operand.tmp 19) _, _, _, _, _⟩ :: _) _ _); refine wpList_store_row rfl 40 _ _ rfl w5.heap.size #[.slice A1 n eD, .slice L1 n eB] rfl rfl _ _ Pd.out bC rfl (by simp [Value.oneCell']) ?_) | ((with_reducible show wpList _ _ _ (⟨none, Op.store _ (Operand.tmp 13) _, _, _, _, _⟩ :: _) _ _); refine wpList_store_row rfl 29 _ _ rfl (w.heap.size + 1) (ak h c2) rfl rfl _ _ PX.out.d (ai hl.out) (aH hl.out hl.out) (ay _ _) ?_))
 obtain ⟨w7, hw7⟩ : ∃ u, ((w5.alloc (.cells #[.slice none 0 0, .slice none 0 0] 40)).setRow w5.heap.size #[.slice A1 n eD, .slice L1 n eB]).setRow (w.heap.size + 1) (ak h c2) = u := ⟨_, rfl⟩
 obtain ⟨xb, hxb⟩ : ∃ z, w5.heap.size = z := ⟨_, rfl⟩
 rw [hw7] at PW Ex GY Gr ⊢
 rw [hxb] at Ex Gr Tj ⊢
 clear hw7 PX Pd nN
 go_upto_region 9 with (fail)
 have dG := aa (PW.out.below ((Below.refl w7.heap.size w7).drew))
 have kU : Hid (w7.drew.heap[xb]? = some (.cells #[.slice A1 n eD, .slice L1 n eB] 40 (0, 0))) := Ex
 have mI : Hid (zW w4 w5 w7.drew) := aa (GY.out.below ((Below.refl w7.heap.size w7).drew))
 have KJ : xb < w7.drew.heap.size := by have h : w7.drew.heap.size = xb + 1 := Gr; omega
 clear PW Ex GY Gr
 have hO : Hid (∀ u : World, Hid (qI u w.heap.size P Q G X B H) → (u.cell? ⟨w.heap.size, 0, none⟩ = some (.int .i64 P) ∧ u.cell? ⟨w.heap.size, 1, none⟩ = some (.int .i64 Q) ∧ u.cell? ⟨w.heap.size, 2, none⟩ = some (.int .i64 G) ∧ u.cell? ⟨w.heap.size, 3, none⟩ = some (.int .i64 X) ∧ u.cell? ⟨w.heap.size, 4, none⟩ = some (.int .i64 B) ∧ u.cell? ⟨w.heap.size, 5, none⟩ = some (.int .i64 H))) := aa (fun u hu => by
  obtain ⟨⟨q0, q1, q2⟩, q3, q4, q5⟩ := hu.out
  exact ⟨q0, q1, q2, q3, q4, q5⟩)
 refine Co (fun u => qI u w.heap.size P Q G X B H) [] (aa dG.out.g) (fun hHeld => ?_)
 refine dY 0 ?_
 refine dY 1 ?_
 refine dY 2 ?_
 have hw3 : IntKind.i64.wrap (high - m) = high - m := IntWalk.i64_in _ (by omega)
 have hw8 : IntKind.i64.wrap (Q - r) = Q - r := IntWalk.i64_in _ (by omega)
 have hq0 : Q ≠ 0 := by omega
 obtain ⟨rq, Fy⟩ : ∃ z, (Q - r) % Q = z := ⟨_, rfl⟩
 have N9 : (Q - r).tmod Q = rq := by rw [Int.tmod_eq_emod_of_nonneg (by omega), Fy]
 refine ql 3 (.int .i64 (high - m)) rfl (fun u hu => by go_simp) ?_
 refine dN 4 5 6 7 ?_
 refine ql 8 (.int .i64 (Q - r)) rfl (fun u hu => by go_simp) ?_
 refine dY 9 ?_
 refine dY 10 ?_
 refine dY 11 ?_
 refine ql 12 (.int .i64 rq) rfl (fun u hu => by go_simp) ?_
 refine dY 13 ?_
 refine dY 14 ?_
 have hrq : 0 ≤ rq ∧ rq < Q := by rw [← Fy]; exact ⟨Int.emod_nonneg _ (by omega), Int.emod_lt_of_pos _ (by omega)⟩
 have Pv := aa Fy
 clear hw3 hw8 N9 hq0 Fy
 obtain ⟨w8, hw8⟩ : ∃ v, w7.drew = v := ⟨_, rfl⟩
 rw [hw8] at dG kU mI KJ hHeld ⊢
 clear hw8
 refine rU (i1 := 15) (i2 := 21) (by kernel_rfl) rfl rfl (fun K hK => ?_) (fun K hK => ?_)
 ·
  rw [show (if Region.wanted _ _ = true then _ else _ : Prop) = _ from if_pos rfl]
  refine wp_load_row 29 _ rfl (w.heap.size + 1) rfl 29 (ak h c2) (0, 0) _ dG.out.d Tryz.underlying29 rfl (ai hl.out) ?_
  refine hK.out _ _ (aa dG.out.g) (fun hHeld => ?_)
  clear hK K
  try simp only [qq]
  refine rU (i1 := 16) (i2 := 21) (by kernel_rfl) rfl rfl (fun K hK => ?_) (fun K hK => ?_)
  ·
   go_simp
   obtain ⟨wa, Gs⟩ : ∃ v, w8 = v := ⟨_, rfl⟩
   rw [Gs] at dG kU mI hHeld KJ ⊢
   clear Gs
   have hzx : xb < wa.heap.size := by omega
   refine (iw P Q G X B H (high - m) rq n s hs hr h hl n_ c2 (by omega) (by omega) hval dP (by omega) hm2.out hrq.1 hrq.2 hQ _ (aa (hv.out.below dG.out.b)) (aa (hd.out.below dG.out.b))).mono ?_
   rintro e wb ⟨A2, L2, bN, cB, rfl, hR2, mE⟩
   have hzb := mE.size
   have dG := aa (dG.out.below mE)
   have kU := aa ((mE.block xb hzx).trans kU.out)
   have mI := aa (mI.out.below mE)
   have D9 := aa (zW.refl wa wb)
   refine hK.out _ _ (aa dG.out.g) (fun hHeld => ?_)
   clear hK K mE
   try simp only [qq]
   refine dN 17 18 19 20 ?_
   refine dK 21 fun K hK => ?_
   go_simp
   have tV := af wb (.cells #[.slice none 0 0, .slice none 0 0] 40)
   have mG : Hid ((wb.alloc (.cells #[.slice none 0 0, .slice none 0 0] 40)).heap[wb.heap.size]? = some (.cells #[.slice none 0 0, .slice none 0 0] 40 (0, 0))) := aa (heap_alloc_new _ _)
   have hza : wb.heap.size < (wb.alloc (.cells #[.slice none 0 0, .slice none 0 0] 40)).heap.size := by simp
   have dG := aa (dG.out.below tV)
   have kU := aa ((tV.block xb (by omega)).trans kU.out)
   have mI := aa (mI.out.below tV)
   have D9 := aa (D9.out.below tV)
   refine hK.out _ _ (aa dG.out.g) (fun hHeld => ?_)
   clear hK K tV
   obtain ⟨ua, Gu⟩ : ∃ v, wb.alloc (.cells #[.slice none 0 0, .slice none 0 0] 40) = v := ⟨_, rfl⟩
   obtain ⟨tb, htb⟩ : ∃ z, wb.heap.size = z := ⟨_, rfl⟩
   rw [Gu] at mG hza dG kU mI hHeld D9 ⊢
   rw [htb] at mG hza ⊢
   have htx : xb < tb := by omega
   have htc : tb < wa.heap.size ∨ wb.heap.size ≤ tb := .inr (by omega)
   clear Gu htb
   try simp only [qq]
   obtain ⟨c3, hc3⟩ : ∃ z, mK h Q (high - m) (mF h Q c2 (n - 1)) n = z := ⟨_, rfl⟩
   have MG := aa hc3
   rw [hc3] at ⊢
   clear hc3
   have hwx : w.heap.size + 3 ≤ xb := by omega
   refine dK 22 fun K hK => ?_
   rw [show (if Region.wanted _ _ = true then _ else _ : Prop) = _ from if_pos rfl]
   refine wp_store_row 40 _ _ rfl tb #[.slice A2 n bN, .slice L2 n cB] rfl rfl 40 _ mG.out bC rfl (by simp [Value.oneCell']) ?_
   have gU := aa (dG.out.row tb #[.slice A2 n bN, .slice L2 n cB] (by omega))
   have GK : Hid ((ua.setRow tb #[.slice A2 n bN, .slice L2 n cB]).heap[xb]? = some (.cells #[.slice A1 n eD, .slice L1 n eB] 40 (0, 0))) := aa ((setRow_other _ _ _ _ (by omega)).trans kU.out)
   have GN := aa (setRow_heap ua tb _ #[.slice A2 n bN, .slice L2 n cB] _ _ mG.out)
   have GX := aa (mI.out.row tb #[.slice A2 n bN, .slice L2 n cB] (.inr (by omega)))
   have GV := aa (D9.out.row tb #[.slice A2 n bN, .slice L2 n cB] htc)
   refine hK.out _ _ (aa gU.out.g) (fun hHeld => ?_)
   clear hK K dG kU mG mI D9
   try simp only [qq]
   refine dK 23 fun K hK => ?_
   rw [show (if Region.wanted _ _ = true then _ else _ : Prop) = _ from if_pos rfl]
   refine wp_store_row 29 _ _ rfl (w.heap.size + 1) (ak h c3) rfl rfl 29 _ gU.out.d (ai hl.out) (aH hl.out hl.out) (ay _ _) ?_
   have dW := aa (gU.out.src c3)
   have zX : Hid (((ua.setRow tb #[.slice A2 n bN, .slice L2 n cB]).setRow (w.heap.size + 1) (ak h c3)).heap[xb]? = some (.cells #[.slice A1 n eD, .slice L1 n eB] 40 (0, 0))) := aa ((setRow_other _ _ _ _ (by omega)).trans GK.out)
   have zY : Hid (((ua.setRow tb #[.slice A2 n bN, .slice L2 n cB]).setRow (w.heap.size + 1) (ak h c3)).heap[tb]? = some (.cells #[.slice A2 n bN, .slice L2 n cB] 40 (0, 0))) := aa ((setRow_other _ _ _ _ (by omega)).trans GN.out)
   have HSc := aa (GX.out.row (w.heap.size + 1) (ak h c3) (.inl (by omega)))
   have z8 := aa (GV.out.row (w.heap.size + 1) (ak h c3) (.inl (by omega)))
   refine hK.out _ _ (aa dW.out.g) (fun hHeld => ?_)
   clear hK K gU GK GN GX GV
   try simp only [qq]
   obtain ⟨uc, huc⟩ : ∃ v, (ua.setRow tb #[.slice A2 n bN, .slice L2 n cB]).setRow (w.heap.size + 1) (ak h c3) = v := ⟨_, rfl⟩
   rw [huc] at dW zX zY HSc z8 hHeld ⊢
   clear huc
   refine dY 24 ?_
   refine kT ?_
   clear hO hHeld
   go_upto_region 12 with (fail)
   have QD : xb < uc.heap.size ∧ tb < uc.heap.size := ⟨(Array.getElem?_eq_some_iff.1 zX.out).1, (Array.getElem?_eq_some_iff.1 zY.out).1⟩
   have hO : Hid (∀ u : World, Hid (u.heap[xb]? = some (.cells #[.slice A1 n eD, .slice L1 n eB] 40 (0, 0)) ∧ u.heap[tb]? = some (.cells #[.slice A2 n bN, .slice L2 n cB] 40 (0, 0)) ∧ aD u (w.heap.size + 1) h c3) → True) := aa (fun u hu => trivial)
   refine Co (fun u => u.heap[xb]? = some (.cells #[.slice A1 n eD, .slice L1 n eB] 40 (0, 0)) ∧ u.heap[tb]? = some (.cells #[.slice A2 n bN, .slice L2 n cB] 40 (0, 0)) ∧ aD u (w.heap.size + 1) h c3) [] (aa ⟨zX.out, zY.out, dW.out.d⟩) (fun hHeld => ?_)
   refine ql 0 (.agg #[.slice A1 n eD, .slice L1 n eB]) rfl (aV 40 _ rfl xb rfl 40 #[.slice A1 n eD, .slice L1 n eB] (0, 0) _ (fun u hu => hu.out.1) Tryz.underlying40 rfl bC) ?_
   refine ql 1 (.agg #[.slice A2 n bN, .slice L2 n cB]) rfl (aV 40 _ rfl tb rfl 40 #[.slice A2 n bN, .slice L2 n cB] (0, 0) _ (fun u hu => hu.out.2.1) Tryz.underlying40 rfl bC) ?_
   refine ql 3 (.agg (ak h c3)) rfl (aV 29 _ rfl (w.heap.size + 1) rfl 29 (ak h c3) (0, 0) _ (fun u hu => hu.out.2.2) Tryz.underlying29 rfl (ai hl.out)) ?_
   have Ed := aa (dW.out.below ((Below.refl uc.heap.size uc).drew))
   have D7 := aa (HSc.out.below ((Below.refl uc.heap.size uc).drew))
   have D6 := aa (z8.out.below ((Below.refl uc.heap.size uc).drew))
   have hzd : uc.heap.size ≤ uc.drew.heap.size := Nat.le_refl _
   obtain ⟨ud, hud⟩ : ∃ v, uc.drew = v := ⟨_, rfl⟩
   rw [hud] at Ed D7 D6 hHeld hzd ⊢
   clear hud dW HSc z8 zX zY
   refine dK 2 fun K hK => ?_
   go_simp
   have rP := af ud (.cells #[.slice A1 n eD, .slice L1 n eB, .slice A2 n bN, .slice L2 n cB] 40)
   have HG := aa (heap_alloc_new ud (.cells #[.slice A1 n eD, .slice L1 n eB, .slice A2 n bN, .slice L2 n cB] 40))
   have p9 := aa (Ed.out.below rP)
   have D5 := aa (D7.out.below rP)
   have DZ := aa (D6.out.below rP)
   refine hK.out _ _ (aa ⟨(rP.block xb (by omega)).trans hHeld.out.1, (rP.block tb (by omega)).trans hHeld.out.2.1, p9.out.d⟩) (fun hHeld => ?_)
   clear hK K rP Ed D7 D6
   try simp only [qq]
   obtain ⟨ug, zI⟩ : ∃ v, ud.alloc (.cells #[.slice A1 n eD, .slice L1 n eB, .slice A2 n bN, .slice L2 n cB] 40) = v := ⟨_, rfl⟩
   obtain ⟨gb, hgb⟩ : ∃ v, ud.heap.size = v := ⟨_, rfl⟩
   rw [zI] at HG p9 D5 DZ hHeld ⊢
   rw [hgb] at HG hzd ⊢
   clear zI hgb
   refine dY 4 ?_
   refine dK 5 fun K hK => ?_
   rw [show (if Region.wanted _ _ = true then _ else _ : Prop) = _ from if_pos rfl]
   refine wp_store_row 29 _ _ rfl (w.heap.size + 2) (ak h c3) rfl rfl 29 _ p9.out.r (ai hl.out) (aH rfl hl.out) (ay _ _) ?_
   refine hK.out _ _ (aa ⟨(setRow_other _ _ _ _ (by omega)).trans hHeld.out.1, (setRow_other _ _ _ _ (by omega)).trans hHeld.out.2.1, (setRow_other _ _ _ _ (by omega)).trans hHeld.out.2.2⟩) (fun hHeld => ?_)
   clear hK K
   try simp only [qq]
   have DY := D5.out.row (w.heap.size + 2) (ak h c3) (.inl (by omega))
   have DX := DZ.out.row (w.heap.size + 2) (ak h c3) (.inl (by omega))
   have hr1 := og _ DY.1 DY.2
   have hr2 := hR2 _ DX.1 DX.2
   have Ms : (ug.setRow (w.heap.size + 2) (ak h c3)).heap[gb]? = some (.cells #[.slice A1 n eD, .slice L1 n eB, .slice A2 n bN, .slice L2 n cB] 40 (0, 0)) := (setRow_other _ _ _ _ (by omega)).trans HG.out
   have Ga : aD (ug.setRow (w.heap.size + 2) (ak h c3)) (w.heap.size + 2) h c3 := p9.out.r.setRow
   have fO : Below w.heap.size w (ug.setRow (w.heap.size + 2) (ak h c3)) := ah p9.out.b (Nat.le_add_right _ _)
   clear og hR2 DY DX D5 DZ
   refine dY 6 ?_
   refine kT ?_
   clear hO
   go_wp2
   exact bodyPost_ret (v := .tuple #[.slice (some ⟨gb, 0, none⟩) 2 2, .agg (ak h c3), .int .i64 0]) (dx (p := 14) (q := 15) (r := 16) (ty := 29) rfl _ _ ⟨w.heap.size + 2, 0, none⟩ _ _ _ rfl rfl rfl (run_loadVar_row _ _ _ _ _ _ _ Ga Tryz.underlying29 rfl (ai hl.out))) rfl ⟨gb, A1, L1, A2, L2, eD, eB, bN, cB, c3, rfl, Ms, hr1, by rw [yY.out, Pv.out]; exact hr2, fO⟩
  ·
   go_simp
   have tV := af w8 (.cells #[.slice none 0 0, .slice none 0 0] 40)
   have mG : Hid ((w8.alloc (.cells #[.slice none 0 0, .slice none 0 0] 40)).heap[w8.heap.size]? = some (.cells #[.slice none 0 0, .slice none 0 0] 40 (0, 0))) := aa (heap_alloc_new _ _)
   have hza : w8.heap.size < (w8.alloc (.cells #[.slice none 0 0, .slice none 0 0] 40)).heap.size := by simp
   have dG := aa (dG.out.below tV)
   have kU := aa ((tV.block xb (by omega)).trans kU.out)
   have mI := aa (mI.out.below tV)
   refine hK.out _ _ (aa dG.out.g) (fun hHeld => ?_)
   clear hK K tV
   obtain ⟨ua, Gu⟩ : ∃ v, w8.alloc (.cells #[.slice none 0 0, .slice none 0 0] 40) = v := ⟨_, rfl⟩
   obtain ⟨tb, htb⟩ : ∃ z, w8.heap.size = z := ⟨_, rfl⟩
   rw [Gu] at mG hza dG kU mI hHeld ⊢
   rw [htb] at mG hza ⊢
   have htx : xb < tb := by omega
   clear Gu htb
   try simp only [qq]
   refine dK 16 fun K hK => ?_
   go_simp
   obtain ⟨wa, Gs⟩ : ∃ v, ua = v := ⟨_, rfl⟩
   rw [Gs] at dG kU mI hHeld mG hza ⊢
   clear Gs
   have hzx : xb < wa.heap.size := by omega
   refine (iw P Q G X B H (high - m) rq n s hs hr h hl n_ c2 (by omega) (by omega) hval dP (by omega) hm2.out hrq.1 hrq.2 hQ _ (aa (hv.out.below dG.out.b)) (aa (hd.out.below dG.out.b))).mono ?_
   rintro e wb ⟨A2, L2, bN, cB, rfl, hR2, mE⟩
   have hzb := mE.size
   have dG := aa (dG.out.below mE)
   have kU := aa ((mE.block xb hzx).trans kU.out)
   have mI := aa (mI.out.below mE)
   have D9 := aa (zW.refl wa wb)
   have mG := aa ((mE.block tb (by omega)).trans mG.out)
   have htc : tb < wa.heap.size ∨ wb.heap.size ≤ tb := .inl (by omega)
   refine hK.out _ _ (aa dG.out.g) (fun hHeld => ?_)
   clear hK K mE
   try simp only [qq]
   refine dN 17 18 19 20 ?_
   obtain ⟨c3, hc3⟩ : ∃ z, mK h Q (high - m) (mF h Q c2 (n - 1)) n = z := ⟨_, rfl⟩
   have MG := aa hc3
   rw [hc3] at ⊢
   clear hc3
   have hwx : w.heap.size + 3 ≤ xb := by omega
   refine dK 22 fun K hK => ?_
   rw [show (if Region.wanted _ _ = true then _ else _ : Prop) = _ from if_pos rfl]
   refine wp_store_row 40 _ _ rfl tb #[.slice A2 n bN, .slice L2 n cB] rfl rfl 40 _ mG.out bC rfl (by simp [Value.oneCell']) ?_
   have gU := aa (dG.out.row tb #[.slice A2 n bN, .slice L2 n cB] (by omega))
   have GK : Hid ((wb.setRow tb #[.slice A2 n bN, .slice L2 n cB]).heap[xb]? = some (.cells #[.slice A1 n eD, .slice L1 n eB] 40 (0, 0))) := aa ((setRow_other _ _ _ _ (by omega)).trans kU.out)
   have GN := aa (setRow_heap wb tb _ #[.slice A2 n bN, .slice L2 n cB] _ _ mG.out)
   have GX := aa (mI.out.row tb #[.slice A2 n bN, .slice L2 n cB] (.inr (by omega)))
   have GV := aa (D9.out.row tb #[.slice A2 n bN, .slice L2 n cB] htc)
   refine hK.out _ _ (aa gU.out.g) (fun hHeld => ?_)
   clear hK K dG kU mG mI D9
   try simp only [qq]
   refine dK 23 fun K hK => ?_
   rw [show (if Region.wanted _ _ = true then _ else _ : Prop) = _ from if_pos rfl]
   refine wp_store_row 29 _ _ rfl (w.heap.size + 1) (ak h c3) rfl rfl 29 _ gU.out.d (ai hl.out) (aH hl.out hl.out) (ay _ _) ?_
   have dW := aa (gU.out.src c3)
   have zX : Hid (((wb.setRow tb #[.slice A2 n bN, .slice L2 n cB]).setRow (w.heap.size + 1) (ak h c3)).heap[xb]? = some (.cells #[.slice A1 n eD, .slice L1 n eB] 40 (0, 0))) := aa ((setRow_other _ _ _ _ (by omega)).trans GK.out)
   have zY : Hid (((wb.setRow tb #[.slice A2 n bN, .slice L2 n cB]).setRow (w.heap.size + 1) (ak h c3)).heap[tb]? = some (.cells #[.slice A2 n bN, .slice L2 n cB] 40 (0, 0))) := aa ((setRow_other _ _ _ _ (by omega)).trans GN.out)
   have HSc := aa (GX.out.row (w.heap.size + 1) (ak h c3) (.inl (by omega)))
   have z8 := aa (GV.out.row (w.heap.size + 1) (ak h c3) (.inl (by omega)))
   refine hK.out _ _ (aa dW.out.g) (fun hHeld => ?_)
   clear hK K gU GK GN GX GV
   try simp only [qq]
   obtain ⟨uc, huc⟩ : ∃ v, (wb.setRow tb #[.slice A2 n bN, .slice L2 n cB]).setRow (w.heap.size + 1) (ak h c3) = v := ⟨_, rfl⟩
   rw [huc] at dW zX zY HSc z8 hHeld ⊢
   clear huc
   refine dY 24 ?_
   refine kT ?_
   clear hO hHeld
   go_upto_region 12 with (fail)
   have QD : xb < uc.heap.size ∧ tb < uc.heap.size := ⟨(Array.getElem?_eq_some_iff.1 zX.out).1, (Array.getElem?_eq_some_iff.1 zY.out).1⟩
   have hO : Hid (∀ u : World, Hid (u.heap[xb]? = some (.cells #[.slice A1 n eD, .slice L1 n eB] 40 (0, 0)) ∧ u.heap[tb]? = some (.cells #[.slice A2 n bN, .slice L2 n cB] 40 (0, 0)) ∧ aD u (w.heap.size + 1) h c3) → True) := aa (fun u hu => trivial)
   refine Co (fun u => u.heap[xb]? = some (.cells #[.slice A1 n eD, .slice L1 n eB] 40 (0, 0)) ∧ u.heap[tb]? = some (.cells #[.slice A2 n bN, .slice L2 n cB] 40 (0, 0)) ∧ aD u (w.heap.size + 1) h c3) [] (aa ⟨zX.out, zY.out, dW.out.d⟩) (fun hHeld => ?_)
   refine ql 0 (.agg #[.slice A1 n eD, .slice L1 n eB]) rfl (aV 40 _ rfl xb rfl 40 #[.slice A1 n eD, .slice L1 n eB] (0, 0) _ (fun u hu => hu.out.1) Tryz.underlying40 rfl bC) ?_
   refine ql 1 (.agg #[.slice A2 n bN, .slice L2 n cB]) rfl (aV 40 _ rfl tb rfl 40 #[.slice A2 n bN, .slice L2 n cB] (0, 0) _ (fun u hu => hu.out.2.1) Tryz.underlying40 rfl bC) ?_
   refine ql 3 (.agg (ak h c3)) rfl (aV 29 _ rfl (w.heap.size + 1) rfl 29 (ak h c3) (0, 0) _ (fun u hu => hu.out.2.2) Tryz.underlying29 rfl (ai hl.out)) ?_
   have Ed := aa (dW.out.below ((Below.refl uc.heap.size uc).drew))
   have D7 := aa (HSc.out.below ((Below.refl uc.heap.size uc).drew))
   have D6 := aa (z8.out.below ((Below.refl uc.heap.size uc).drew))
   have hzd : uc.heap.size ≤ uc.drew.heap.size := Nat.le_refl _
   obtain ⟨ud, hud⟩ : ∃ v, uc.drew = v := ⟨_, rfl⟩
   rw [hud] at Ed D7 D6 hHeld hzd ⊢
   clear hud dW HSc z8 zX zY
   refine dK 2 fun K hK => ?_
   go_simp
   have rP := af ud (.cells #[.slice A1 n eD, .slice L1 n eB, .slice A2 n bN, .slice L2 n cB] 40)
   have HG := aa (heap_alloc_new ud (.cells #[.slice A1 n eD, .slice L1 n eB, .slice A2 n bN, .slice L2 n cB] 40))
   have p9 := aa (Ed.out.below rP)
   have D5 := aa (D7.out.below rP)
   have DZ := aa (D6.out.below rP)
   refine hK.out _ _ (aa ⟨(rP.block xb (by omega)).trans hHeld.out.1, (rP.block tb (by omega)).trans hHeld.out.2.1, p9.out.d⟩) (fun hHeld => ?_)
   clear hK K rP Ed D7 D6
   try simp only [qq]
   obtain ⟨ug, zI⟩ : ∃ v, ud.alloc (.cells #[.slice A1 n eD, .slice L1 n eB, .slice A2 n bN, .slice L2 n cB] 40) = v := ⟨_, rfl⟩
   obtain ⟨gb, hgb⟩ : ∃ v, ud.heap.size = v := ⟨_, rfl⟩
   rw [zI] at HG p9 D5 DZ hHeld ⊢
   rw [hgb] at HG hzd ⊢
   clear zI hgb
   refine dY 4 ?_
   refine dK 5 fun K hK => ?_
   rw [show (if Region.wanted _ _ = true then _ else _ : Prop) = _ from if_pos rfl]
   refine wp_store_row 29 _ _ rfl (w.heap.size + 2) (ak h c3) rfl rfl 29 _ p9.out.r (ai hl.out) (aH rfl hl.out) (ay _ _) ?_
   refine hK.out _ _ (aa ⟨(setRow_other _ _ _ _ (by omega)).trans hHeld.out.1, (setRow_other _ _ _ _ (by omega)).trans hHeld.out.2.1, (setRow_other _ _ _ _ (by omega)).trans hHeld.out.2.2⟩) (fun hHeld => ?_)
   clear hK K
   try simp only [qq]
   have DY := D5.out.row (w.heap.size + 2) (ak h c3) (.inl (by omega))
   have DX := DZ.out.row (w.heap.size + 2) (ak h c3) (.inl (by omega))
   have hr1 := og _ DY.1 DY.2
   have hr2 := hR2 _ DX.1 DX.2
   have Ms : (ug.setRow (w.heap.size + 2) (ak h c3)).heap[gb]? = some (.cells #[.slice A1 n eD, .slice L1 n eB, .slice A2 n bN, .slice L2 n cB] 40 (0, 0)) := (setRow_other _ _ _ _ (by omega)).trans HG.out
   have Ga : aD (ug.setRow (w.heap.size + 2) (ak h c3)) (w.heap.size + 2) h c3 := p9.out.r.setRow
   have fO : Below w.heap.size w (ug.setRow (w.heap.size + 2) (ak h c3)) := ah p9.out.b (Nat.le_add_right _ _)
   clear og hR2 DY DX D5 DZ
   refine dY 6 ?_
   refine kT ?_
   clear hO
   go_wp2
   exact bodyPost_ret (v := .tuple #[.slice (some ⟨gb, 0, none⟩) 2 2, .agg (ak h c3), .int .i64 0]) (dx (p := 14) (q := 15) (r := 16) (ty := 29) rfl _ _ ⟨w.heap.size + 2, 0, none⟩ _ _ _ rfl rfl rfl (run_loadVar_row _ _ _ _ _ _ _ Ga Tryz.underlying29 rfl (ai hl.out))) rfl ⟨gb, A1, L1, A2, L2, eD, eB, bN, cB, c3, rfl, Ms, hr1, by rw [yY.out, Pv.out]; exact hr2, fO⟩
 ·
  go_simp
  have tV := af w8 (.cells #[.slice none 0 0, .slice none 0 0] 40)
  have mG : Hid ((w8.alloc (.cells #[.slice none 0 0, .slice none 0 0] 40)).heap[w8.heap.size]? = some (.cells #[.slice none 0 0, .slice none 0 0] 40 (0, 0))) := aa (heap_alloc_new _ _)
  have hza : w8.heap.size < (w8.alloc (.cells #[.slice none 0 0, .slice none 0 0] 40)).heap.size := by simp
  have dG := aa (dG.out.below tV)
  have kU := aa ((tV.block xb (by omega)).trans kU.out)
  have mI := aa (mI.out.below tV)
  refine hK.out _ _ (aa dG.out.g) (fun hHeld => ?_)
  clear hK K tV
  obtain ⟨ua, Gu⟩ : ∃ v, w8.alloc (.cells #[.slice none 0 0, .slice none 0 0] 40) = v := ⟨_, rfl⟩
  obtain ⟨tb, htb⟩ : ∃ z, w8.heap.size = z := ⟨_, rfl⟩
  rw [Gu] at mG hza dG kU mI hHeld ⊢
  rw [htb] at mG hza ⊢
  have htx : xb < tb := by omega
  clear Gu htb
  try simp only [qq]
  refine dK 15 fun K hK => ?_
  rw [show (if Region.wanted _ _ = true then _ else _ : Prop) = _ from if_pos rfl]
  refine wp_load_row 29 _ rfl (w.heap.size + 1) rfl 29 (ak h c2) (0, 0) _ dG.out.d Tryz.underlying29 rfl (ai hl.out) ?_
  refine hK.out _ _ (aa dG.out.g) (fun hHeld => ?_)
  clear hK K
  try simp only [qq]
  refine dK 16 fun K hK => ?_
  go_simp
  obtain ⟨wa, Gs⟩ : ∃ v, ua = v := ⟨_, rfl⟩
  rw [Gs] at dG kU mI hHeld mG hza ⊢
  clear Gs
  have hzx : xb < wa.heap.size := by omega
  refine (iw P Q G X B H (high - m) rq n s hs hr h hl n_ c2 (by omega) (by omega) hval dP (by omega) hm2.out hrq.1 hrq.2 hQ _ (aa (hv.out.below dG.out.b)) (aa (hd.out.below dG.out.b))).mono ?_
  rintro e wb ⟨A2, L2, bN, cB, rfl, hR2, mE⟩
  have hzb := mE.size
  have dG := aa (dG.out.below mE)
  have kU := aa ((mE.block xb hzx).trans kU.out)
  have mI := aa (mI.out.below mE)
  have D9 := aa (zW.refl wa wb)
  have mG := aa ((mE.block tb (by omega)).trans mG.out)
  have htc : tb < wa.heap.size ∨ wb.heap.size ≤ tb := .inl (by omega)
  refine hK.out _ _ (aa dG.out.g) (fun hHeld => ?_)
  clear hK K mE
  try simp only [qq]
  refine dN 17 18 19 20 ?_
  obtain ⟨c3, hc3⟩ : ∃ z, mK h Q (high - m) (mF h Q c2 (n - 1)) n = z := ⟨_, rfl⟩
  have MG := aa hc3
  rw [hc3] at ⊢
  clear hc3
  have hwx : w.heap.size + 3 ≤ xb := by omega
  refine dK 22 fun K hK => ?_
  rw [show (if Region.wanted _ _ = true then _ else _ : Prop) = _ from if_pos rfl]
  refine wp_store_row 40 _ _ rfl tb #[.slice A2 n bN, .slice L2 n cB] rfl rfl 40 _ mG.out bC rfl (by simp [Value.oneCell']) ?_
  have gU := aa (dG.out.row tb #[.slice A2 n bN, .slice L2 n cB] (by omega))
  have GK : Hid ((wb.setRow tb #[.slice A2 n bN, .slice L2 n cB]).heap[xb]? = some (.cells #[.slice A1 n eD, .slice L1 n eB] 40 (0, 0))) := aa ((setRow_other _ _ _ _ (by omega)).trans kU.out)
  have GN := aa (setRow_heap wb tb _ #[.slice A2 n bN, .slice L2 n cB] _ _ mG.out)
  have GX := aa (mI.out.row tb #[.slice A2 n bN, .slice L2 n cB] (.inr (by omega)))
  have GV := aa (D9.out.row tb #[.slice A2 n bN, .slice L2 n cB] htc)
  refine hK.out _ _ (aa gU.out.g) (fun hHeld => ?_)
  clear hK K dG kU mG mI D9
  try simp only [qq]
  refine dK 23 fun K hK => ?_
  rw [show (if Region.wanted _ _ = true then _ else _ : Prop) = _ from if_pos rfl]
  refine wp_store_row 29 _ _ rfl (w.heap.size + 1) (ak h c3) rfl rfl 29 _ gU.out.d (ai hl.out) (aH hl.out hl.out) (ay _ _) ?_
  have dW := aa (gU.out.src c3)
  have zX : Hid (((wb.setRow tb #[.slice A2 n bN, .slice L2 n cB]).setRow (w.heap.size + 1) (ak h c3)).heap[xb]? = some (.cells #[.slice A1 n eD, .slice L1 n eB] 40 (0, 0))) := aa ((setRow_other _ _ _ _ (by omega)).trans GK.out)
  have zY : Hid (((wb.setRow tb #[.slice A2 n bN, .slice L2 n cB]).setRow (w.heap.size + 1) (ak h c3)).heap[tb]? = some (.cells #[.slice A2 n bN, .slice L2 n cB] 40 (0, 0))) := aa ((setRow_other _ _ _ _ (by omega)).trans GN.out)
  have HSc := aa (GX.out.row (w.heap.size + 1) (ak h c3) (.inl (by omega)))
  have z8 := aa (GV.out.row (w.heap.size + 1) (ak h c3) (.inl (by omega)))
  refine hK.out _ _ (aa dW.out.g) (fun hHeld => ?_)
  clear hK K gU GK GN GX GV
  try simp only [qq]
  obtain ⟨uc, huc⟩ : ∃ v, (wb.setRow tb #[.slice A2 n bN, .slice L2 n cB]).setRow (w.heap.size + 1) (ak h c3) = v := ⟨_, rfl⟩
  rw [huc] at dW zX zY HSc z8 hHeld ⊢
  clear huc
  refine dY 24 ?_
  refine kT ?_
  clear hO hHeld
  go_upto_region 12 with (fail)
  have QD : xb < uc.heap.size ∧ tb < uc.heap.size := ⟨(Array.getElem?_eq_some_iff.1 zX.out).1, (Array.getElem?_eq_some_iff.1 zY.out).1⟩
  have hO : Hid (∀ u : World, Hid (u.heap[xb]? = some (.cells #[.slice A1 n eD, .slice L1 n eB] 40 (0, 0)) ∧ u.heap[tb]? = some (.cells #[.slice A2 n bN, .slice L2 n cB] 40 (0, 0)) ∧ aD u (w.heap.size + 1) h c3) → True) := aa (fun u hu => trivial)
  refine Co (fun u => u.heap[xb]? = some (.cells #[.slice A1 n eD, .slice L1 n eB] 40 (0, 0)) ∧ u.heap[tb]? = some (.cells #[.slice A2 n bN, .slice L2 n cB] 40 (0, 0)) ∧ aD u (w.heap.size + 1) h c3) [] (aa ⟨zX.out, zY.out, dW.out.d⟩) (fun hHeld => ?_)
  refine ql 0 (.agg #[.slice A1 n eD, .slice L1 n eB]) rfl (aV 40 _ rfl xb rfl 40 #[.slice A1 n eD, .slice L1 n eB] (0, 0) _ (fun u hu => hu.out.1) Tryz.underlying40 rfl bC) ?_
  refine ql 1 (.agg #[.slice A2 n bN, .slice L2 n cB]) rfl (aV 40 _ rfl tb rfl 40 #[.slice A2 n bN, .slice L2 n cB] (0, 0) _ (fun u hu => hu.out.2.1) Tryz.underlying40 rfl bC) ?_
  refine ql 3 (.agg (ak h c3)) rfl (aV 29 _ rfl (w.heap.size + 1) rfl 29 (ak h c3) (0, 0) _ (fun u hu => hu.out.2.2) Tryz.underlying29 rfl (ai hl.out)) ?_
  have Ed := aa (dW.out.below ((Below.refl uc.heap.size uc).drew))
  have D7 := aa (HSc.out.below ((Below.refl uc.heap.size uc).drew))
  have D6 := aa (z8.out.below ((Below.refl uc.heap.size uc).drew))
  have hzd : uc.heap.size ≤ uc.drew.heap.size := Nat.le_refl _
  obtain ⟨ud, hud⟩ : ∃ v, uc.drew = v := ⟨_, rfl⟩
  rw [hud] at Ed D7 D6 hHeld hzd ⊢
  clear hud dW HSc z8 zX zY
  refine dK 2 fun K hK => ?_
  go_simp
  have rP := af ud (.cells #[.slice A1 n eD, .slice L1 n eB, .slice A2 n bN, .slice L2 n cB] 40)
  have HG := aa (heap_alloc_new ud (.cells #[.slice A1 n eD, .slice L1 n eB, .slice A2 n bN, .slice L2 n cB] 40))
  have p9 := aa (Ed.out.below rP)
  have D5 := aa (D7.out.below rP)
  have DZ := aa (D6.out.below rP)
  refine hK.out _ _ (aa ⟨(rP.block xb (by omega)).trans hHeld.out.1, (rP.block tb (by omega)).trans hHeld.out.2.1, p9.out.d⟩) (fun hHeld => ?_)
  clear hK K rP Ed D7 D6
  try simp only [qq]
  obtain ⟨ug, zI⟩ : ∃ v, ud.alloc (.cells #[.slice A1 n eD, .slice L1 n eB, .slice A2 n bN, .slice L2 n cB] 40) = v := ⟨_, rfl⟩
  obtain ⟨gb, hgb⟩ : ∃ v, ud.heap.size = v := ⟨_, rfl⟩
  rw [zI] at HG p9 D5 DZ hHeld ⊢
  rw [hgb] at HG hzd ⊢
  clear zI hgb
  refine dY 4 ?_
  refine dK 5 fun K hK => ?_
  rw [show (if Region.wanted _ _ = true then _ else _ : Prop) = _ from if_pos rfl]
  refine wp_store_row 29 _ _ rfl (w.heap.size + 2) (ak h c3) rfl rfl 29 _ p9.out.r (ai hl.out) (aH rfl hl.out) (ay _ _) ?_
  refine hK.out _ _ (aa ⟨(setRow_other _ _ _ _ (by omega)).trans hHeld.out.1, (setRow_other _ _ _ _ (by omega)).trans hHeld.out.2.1, (setRow_other _ _ _ _ (by omega)).trans hHeld.out.2.2⟩) (fun hHeld => ?_)
  clear hK K
  try simp only [qq]
  have DY := D5.out.row (w.heap.size + 2) (ak h c3) (.inl (by omega))
  have DX := DZ.out.row (w.heap.size + 2) (ak h c3) (.inl (by omega))
  have hr1 := og _ DY.1 DY.2
  have hr2 := hR2 _ DX.1 DX.2
  have Ms : (ug.setRow (w.heap.size + 2) (ak h c3)).heap[gb]? = some (.cells #[.slice A1 n eD, .slice L1 n eB, .slice A2 n bN, .slice L2 n cB] 40 (0, 0)) := (setRow_other _ _ _ _ (by omega)).trans HG.out
  have Ga : aD (ug.setRow (w.heap.size + 2) (ak h c3)) (w.heap.size + 2) h c3 := p9.out.r.setRow
  have fO : Below w.heap.size w (ug.setRow (w.heap.size + 2) (ak h c3)) := ah p9.out.b (Nat.le_add_right _ _)
  clear og hR2 DY DX D5 DZ
  refine dY 6 ?_
  refine kT ?_
  clear hO
  go_wp2
  exact bodyPost_ret (v := .tuple #[.slice (some ⟨gb, 0, none⟩) 2 2, .agg (ak h c3), .int .i64 0]) (dx (p := 14) (q := 15) (r := 16) (ty := 29) rfl _ _ ⟨w.heap.size + 2, 0, none⟩ _ _ _ rfl rfl rfl (run_loadVar_row _ _ _ _ _ _ _ Ga Tryz.underlying29 rfl (ai hl.out))) rfl ⟨gb, A1, L1, A2, L2, eD, eB, bN, cB, c3, rfl, Ms, hr1, by rw [yY.out, Pv.out]; exact hr2, fO⟩
theorem zM {P Q G H m r c : Int} {h : List Int} {n : Nat} (hv : aC P Q G = true) (hH : av P Q H = true) (r0 : 0 ≤ r) (r1 : r < Q) : (vz P Q G H h m r c n).all (av P Q) = true := by
 obtain ⟨hP, hP2, Nc, De⟩ := aJ hv
 rw [List.all_eq_true]
 intro x hx
 obtain ⟨k, hk, rfl⟩ := List.getElem_of_mem hx
 rw [lV] at hk
 have he := lW P Q G H h m r c hk
 rw [List.getD_eq_getElem?_getD, List.getElem?_eq_getElem (by rw [lV]; exact hk)] at he
 simp only [Option.getD_some] at he
 rw [he]
 exact lF hP (by omega) (dA hv) hH (Int.emod_nonneg _ (by decide)) (oh (by omega) r0 r1 n k).1
theorem vw {P Q G H m r c : Int} {h : List Int} {n : Nat} (hv : aC P Q G = true) (hH : av P Q H = true) (h1 : 1 ≤ n) (hn : (2 : Int) ^ n ≤ Q) (m0 : 0 ≤ m) (m1 : m < 2 ^ n) (r0 : 0 ≤ r) (r1 : r < Q) : qY P Q (vz P Q G H h m r c n) = rep P G H m r := by
 obtain ⟨hP, hP2, Nc, De⟩ := aJ hv
 exact uT hP (by omega) (dA hv) hH h1 hn m0 m1 r0 r1 (fun i => (Dk (by omega) i).1)
section
variable (P Q G X B H m r : Int) (n : Nat) (s : ByteArray) (hs : s.size ≤ 1000) (hr : Hid (cZ (aO s) = true)) (h : List Int) (c : Int)
  (hval : Hid (aS P Q G X B H = true)) (dP : Hid (fK Q (n : Int) = true)) (m0 : 0 ≤ m) (m1 : m < 2 ^ n) (r0 : 0 ≤ r) (r1 : r < Q) (hQ : Q < 2305843009213693952) (A L : Option Addr) (ca cl : Nat) (w : World) (hv : Hid (Vars w)) (hd : Hid (bu w)) (hR : Ev w P Q G H m r n s h c A L)
include hval dP m0 m1 r0 r1 hQ hv hR
theorem yE (x : Int) (hx : x ≠ rep P G H m r) : Calls Tryz.prog 11 #[bv P Q G X B H, .int .i64 x, .int .i64 n, .string s, Gl A n ca L n cl] w (Rt w (.bool false)) := by
 obtain ⟨n', hk, hk1, sF, hpw⟩ := fD dP.out
 obtain rfl : n = n' := by omega
 obtain ⟨hg, _, _, wO, _⟩ := bn hval.out
 exact yD P Q G X B H x n s A _ ca L cl _ hval dP (aa (lV _ _ _ _ _ _ _ _ _)) (aa (zM hg wO r0 r1)) (aa (vw hg wO hk1 hpw m0 m1 r0 r1)) (by simpa using fun e => hx e.symm) (by omega) w hv (aa hR.1)
include hs hr hd
theorem jE (x : Int) (hx : x = rep P G H m r) : Calls Tryz.prog 11 #[bv P Q G X B H, .int .i64 x, .int .i64 n, .string s, Gl A n ca L n cl] w (Rt w (.bool true)) := by
 subst hx
 obtain ⟨n', hk, hk1, sF, hpw⟩ := fD dP.out
 obtain rfl : n = n' := by omega
 obtain ⟨hg, _, _, wO, _⟩ := bn hval.out
 exact yC P Q G X B H _ n s hs hr A _ ca L cl _ _ _ hval dP (aa (lV _ _ _ _ _ _ _ _ _)) (aa (zM hg wO r0 r1)) (aa (vw hg wO hk1 hpw m0 m1 r0 r1)) (aa (fun k hk => Lu hg wO r0 r1 _ k hk)) (by omega) w hv hd (aa hR.1) (aa hR.2)
end
theorem Cs {P Q G H m r x high : Int} (hP : 2 ≤ P) (hQ : 1 ≤ Q) (hG : av P Q G = true) (hH : av P Q H = true) (m0 : 0 ≤ m) (r0 : 0 ≤ r) (hh : m ≤ high) (x0 : 0 ≤ x) (x1 : x < P) (hx : x * rep P G H m r % P = 1) : pw G (high % Q) P * x % P = rep P G H (high - m) ((Q - r) % Q) := by
 have n1 : 0 ≤ (-m) % Q := Int.emod_nonneg _ (by omega)
 have n2 : 0 ≤ (-r) % Q := Int.emod_nonneg _ (by omega)
 have n3 : 0 ≤ high % Q := Int.emod_nonneg _ (by omega)
 have n4 : 0 ≤ (Q - r) % Q := Int.emod_nonneg _ (by omega)
 rw [zn hP hQ hG hH m0 r0 x0 x1 hx, ← uE (H := H) hP, lD n3 (by omega) n1 n2]
 refine jh hP hQ hG hH (by omega) (by omega) (by omega) n4 ?_ ?_
 · rw [Int.add_emod, Int.emod_emod_of_dvd _ (Int.dvd_refl Q), ← Int.add_emod, jq hQ]
 · rw [Int.zero_add, Int.emod_emod_of_dvd _ (Int.dvd_refl Q), Int.emod_emod_of_dvd _ (Int.dvd_refl Q), show Q - r = -r + Q by omega, Int.add_emod_right]
theorem Cr {P Q G H m r low : Int} (hP : 2 ≤ P) (hQ : 1 ≤ Q) (hG : av P Q G = true) (hH : av P Q H = true) (m0 : 0 ≤ m) (r0 : 0 ≤ r) (hl : low ≤ m) : rep P G H m r * pw G ((-low) % Q) P % P = rep P G H (m - low) r := by
 have n1 : 0 ≤ (-low) % Q := Int.emod_nonneg _ (by omega)
 rw [← uE (H := H) hP, lD m0 r0 n1 (by omega), Int.add_zero]
 exact jh hP hQ hG hH (by omega) r0 (by omega) r0 (jq hQ) rfl
def Jt (a m : Int) (w : World) (e : Ending) (w' : World) : Prop :=
 ∃ x : Int, e = .returned (.tuple #[.int .i64 x, .int .i64 0]) ∧ 0 ≤ x ∧ x < m ∧ x * a % m = 1 ∧ ∃ n, w' = w.drewN n
theorem EG (a m : Int) (h1 : 2 ≤ m) (h2 : m < 2305843009213693952) (ha0 : 0 ≤ a) (ha : a < m) (hu : Hid (∀ d, d ∣ a → d ∣ m → 0 < d → d = 1)) (w : World) :
  Calls Tryz.prog 67 #[.int .i64 a, .int .i64 m] w (Jt a m w) := by
 have hc := aa (mU (by omega) h2 ha0 ha ha0 ha)
 go_in
 go_wp2_with (go_at_call 50; refine (dU _ _ _ _).mono ?_; rintro e w' ⟨rfl, rfl⟩; rw [hc.out])
 refine (xW a m (by omega) h2 ha0 ha _).mono ?_
 rintro e w' ⟨d, x, k, rfl, hx0, hx1, hd1, hd2, hd0, hd, hk, n, rfl⟩
 obtain rfl : d = 1 := hu.out d hd1 hd2 hd0
 have HX : Hid (x * a % m = 1) := aa (by rw [hk, Int.add_mul_emod_self_left]; exact gJ h1)
 clear hk hd1 hd2 hd0 hd
 go_wp2
 go_ret2
 exact ⟨x, rfl, hx0, hx1, HX.out, n, rfl⟩
def Gf (a P : Int) (w : World) (e : Ending) (w' : World) : Prop :=
 ∃ x : Int, e = .returned (.tuple #[.int .i64 x, .int .i64 0]) ∧ 0 ≤ x ∧ x < P ∧ x * a % P = 1 ∧ Below w.heap.size w w'
theorem FJ (P Q G a : Int) (hr : Hid (iq P Q G [a] = 0)) (hQ : Q < 9223372036854775808) (w : World) (hv : Hid (Vars w)) :
  Calls Tryz.prog 37 #[gv P Q G, .int .i64 a] w (Gf a P w) := by
 obtain ⟨hval, hall⟩ := mV hr.out
 obtain ⟨hp2, hp, hq3, Eo⟩ := aJ hval
 simp only [List.all_cons, List.all_nil, Bool.and_true] at hall
 have la := jK hall
 have ha := jL hall
 have hu : Hid (∀ d, d ∣ a → d ∣ P → 0 < d → d = 1) := aa (fun d h1 h2 h3 => uh hp2 (by omega) hall h1 h2 h3)
 clear hall hval
 have jV := aa (hv.out.below (aB (w := w) (o1 := bA P Q G) (o2 := .cells #[.int .i64 a] 3) (Below.refl _ _)))
 have HC := aa (zR w (bA P Q G) 3 a)
 have HB0 := aa ((bD w P Q G).below (af (w.alloc (bA P Q G)) (.cells #[.int .i64 a] 3)))
 go_in
 go_wp2_with fail
 refine (kJ P Q G _ [a] 1 1 (aa rfl) (by decide) 0 hr (by omega) _ jV HC).mono ?_
 rintro e w1 ⟨rfl, hb0⟩
 have hb1 := aB hb0
 obtain ⟨c0, c1, c2⟩ := HB0.out.below hb0
 clear hb0
 go_wp2_with fail
 refine (EG a P hp2 hp (by omega) ha hu _).mono ?_
 rintro e w2 ⟨x, rfl, hx0, hx1, hx, n, rfl⟩
 have HX := aa hx
 clear hx
 go_wp2
 go_ret2
 exact ⟨x, rfl, hx0, hx1, HX.out, ax hb1 _⟩
theorem uA {u : World} {g : Nat} {a b c d : Value} {T : TypeId} (h : u.heap[g]? = some (.cells #[a, b, c, d] T (0, 0))) : u.rangeAt g 0 [a, b] ∧ u.rangeAt g 2 [c, d] :=
  ⟨fun j v hj => match j, hj with
    | 0, hj => by cases hj; exact aj h 0
    | 1, hj => by cases hj; exact aj h 1
    | j + 2, hj => by simp at hj,
   fun j v hj => match j, hj with
    | 0, hj => by cases hj; exact aj h 2
    | 1, hj => by cases hj; exact aj h 3
    | j + 2, hj => by simp at hj⟩
theorem gD (P Q G X B H m r low high : Int) (n : Nat) (s : ByteArray) (hs : s.size ≤ 1000) (hr : Hid (cZ (aO s) = true)) (h : List Int) (c c2 : Int)
  (hval : Hid (aS P Q G X B H = true)) (hb : Hid (iy Q low high = true)) (hn : Hid (tJ low high = n)) (hwb : Hid (tK Q n = true)) (hml : low ≤ m) (xJ : m ≤ high) (r0 : 0 ≤ r) (r1 : r < Q) (hQ : Q < 2305843009213693952) (x : Int) (hx : Hid (rep P G H m r = x)) (g : Nat) (A1 L1 A2 L2 : Option Addr) (eD eB bN cB : Nat) (w : World) (hv : Hid (Vars w)) (hd : Hid (bu w))
  (hG : Hid (w.heap[g]? = some (.cells #[.slice A1 n eD, .slice L1 n eB, .slice A2 n bN, .slice L2 n cB] 40 (0, 0)))) (og : Hid (Ev w P Q G H (m - low) r n s h c A1 L1)) (hR2 : Hid (Ev w P Q G H (high - m) ((Q - r) % Q) n s h c2 A2 L2)) :
  Calls Tryz.prog 14 #[bv P Q G X B H, .int .i64 x, .int .i64 low, .int .i64 high, .string s, .slice (some ⟨g, 0, none⟩) 2 2] w (Rt w (.bool true)) := by
 obtain ⟨hg, _, _, wO, _⟩ := bn hval.out
 obtain ⟨p1, p2, p3, p4⟩ := aJ hg
 have hgm := dA hg
 have hlo : 0 ≤ low ∧ high < Q := by have h2 := hb.out; simp only [iy, Bool.and_eq_true, decide_eq_true_eq] at h2; omega
 have hxm : av P Q x = true := by rw [← hx.out]; exact lF p1 (by omega) hgm wO (by omega) r0
 have Um := aa hxm
 have sU := aa hg
 have c1 : Hid (iq P Q G [G] = 0) := aa (eZ hg (by simp [hgm]))
 have c3 : Hid (iq P Q G [x] = 0) := aa (eZ hg (by simp [hxm]))
 obtain ⟨dn, hdn⟩ : ∃ z, pw G (-low % Q) P = z := ⟨_, rfl⟩
 obtain ⟨up, hup⟩ : ∃ z, pw G (high % Q) P = z := ⟨_, rfl⟩
 have QW : av P Q dn = true := by rw [← hdn]; exact fI p1 (by omega) (Int.emod_nonneg _ (by omega)) hgm
 have QM : av P Q up = true := by rw [← hup]; exact fI p1 (by omega) (Int.emod_nonneg _ (by omega)) hgm
 have c4 : Hid (iq P Q G [x, dn] = 0) := aa (eZ hg (by simp [hxm, QW]))
 have Sn : Hid (x * dn % P = rep P G H (m - low) r) := aa (by rw [← hx.out, ← hdn]; exact Cr p1 (by omega) hgm wO (by omega) r0 hml)
 have SE : Hid (∀ y, 0 ≤ y → y < P → y * x % P = 1 → up * y % P = rep P G H (high - m) ((Q - r) % Q) ∧ av P Q y = true) := aa (fun y y0 y1 hy => by
  rw [← hx.out] at hy
  refine ⟨?_, ?_⟩
  ·
   rw [← hup]
   exact Cs p1 (by omega) hgm wO (by omega) r0 xJ y0 y1 hy
  ·
   rw [zn p1 (by omega) hgm wO (by omega) r0 y0 y1 hy]
   exact lF p1 (by omega) hgm wO (Int.emod_nonneg _ (by omega)) (Int.emod_nonneg _ (by omega)))
 have UW := aa hdn
 have Ur := aa hup
 have Us := aa QM
 clear hdn hup QW QM hxm hgm wO hg
 obtain ⟨w0, HW, aM, kC⟩ := st1 (bB P Q G X B H) DD w
 have kV := mkV aM hv
 have kD := NV aM hd
 have aA := jQ w0
 go_in
 go_upto_region 1 with (fail)
 rw [HW.out]
 have zc := kC.out _ aA
 go_wp2_with fail
 clear zc
 refine iB kC aA (bS P Q G X B H true hval (by omega) _ (kV.out _ aA)) fun w1 bJ zc => ?_
 go_wp2_with fail
 refine iB kC bJ (aW P Q G x true (aa (by rw [dQ, sU.out, Um.out]; rfl)) (by omega) _ (kV.out _ bJ)) fun w2 bM zc => ?_
 go_wp2_with fail
 clear zc
 refine iB kC bM (oH P Q G X B H low high hb hQ n true hn hwb _) fun w3 eT zc => ?_
 go_wp2_with fail
 clear zc
 refine iB kC eT (lS P Q G G (-low) dn c1 UW (by omega) (by omega) _ (kV.out _ eT)) fun w4 wM zc => ?_
 go_wp2_with fail
 clear zc
 refine iB kC wM (lT P Q G x dn _ c4 Sn (by omega) _ (kV.out _ wM)) fun w5 MM zc => ?_
 go_wp2_with fail
 clear zc
 refine iB kC MM (lS P Q G G high up c1 Ur (by omega) (by omega) _ (kV.out _ MM)) fun w6 ML zc => ?_
 go_wp2_with fail
 clear zc
 refine (FJ P Q G x c3 (by omega) _ (kV.out _ ML)).mono ?_
 rintro e w7 ⟨y, rfl, y0, y1, hy, rz⟩
 have JM : Hid (Below w0.heap.size w0 w7) := vT ML rz
 have zc := kC.out _ JM
 obtain ⟨hse, hym⟩ := SE.out y y0 y1 hy
 have Nv := aa hse
 have c5 : Hid (iq P Q G [up, y] = 0) := aa (eZ sU.out (by simp [Us.out, hym]))
 clear hse hym hy rz y0 y1
 go_wp2_with fail
 clear zc
 refine iB kC JM (lT P Q G up y _ c5 Nv (by omega) _ (kV.out _ JM)) fun w8 Ql zc => ?_
 clear zc
 have dP : Hid (fK Q (n : Int) = true) := aa (by
  have h1 := zG hb.out hQ
  rw [hn.out] at h1
  have h2 := hwb.out
  simp only [tK, Bool.and_eq_true, decide_eq_true_eq] at h2
  have h3 : (2 : Int) ^ (n + 1) = 2 ^ n * 2 := by rw [Int.pow_succ]
  have h4 := (lH (n := n) (by omega)).1
  simp [fK]
  omega)
 have hm1 : Hid (m - low < 2 ^ n ∧ high - m < 2 ^ n) := aa (by
  have h1 := (zG hb.out hQ).2
  rw [hn.out] at h1
  omega)
 have hrq : Hid (0 ≤ (Q - r) % Q ∧ (Q - r) % Q < Q) := aa ⟨Int.emod_nonneg _ (by omega), Int.emod_lt_of_pos _ (by omega)⟩
 obtain ⟨v1, hv1⟩ : ∃ z, rep P G H (m - low) r = z := ⟨_, rfl⟩
 obtain ⟨v2, hv2⟩ : ∃ z, rep P G H (high - m) ((Q - r) % Q) = z := ⟨_, rfl⟩
 have jV := aa hv1
 have qd := aa hv2
 rw [hv1, hv2]
 clear hv1 hv2 Nv Sn SE c1 c3 c4 c5
 have K4 : Hid (0 ≤ m - low ∧ 0 ≤ high - m) := aa (by omega)
 clear hml xJ
 go_upto_region 11 with (fail)
 have hO := kC
 have kG : Hid (∀ u : World, Hid (Below w0.heap.size w0 u) → u.heap[g]? = some (.cells #[.slice A1 n eD, .slice L1 n eB, .slice A2 n bN, .slice L2 n cB] 40 (0, 0))) := aa (fun u hu => ((ag aM.out hu.out).block g (Array.getElem?_eq_some_iff.1 hG.out).1).trans hG.out)
 refine uB [] Ql (fun hHeld => ?_)
 refine dN 0 1 2 3 ?_
 refine dY 4 ?_
 refine dY 5 ?_
 refine ql 6 (Gl A1 n eD L1 n eB) rfl (gB 40 _ rfl g 0 rfl [.slice A1 n eD, .slice L1 n eB] _ (fun u hu => (uA (kG.out u hu)).1) Tryz.underlying40 rfl bC) ?_
 refine dK 7 fun K hK => ?_
 go_simp
 refine (jE P Q G X B H (m - low) r n s hs hr h c hval dP K4.out.1 hm1.out.1 r0 r1 hQ A1 L1 eD eB _ (kV.out _ hHeld) (kD.out _ hHeld) (og.out.below (ag aM.out hHeld.out)) v1 jV.out.symm).mono ?_
 rintro e w9 ⟨rfl, ry⟩
 refine hK.out _ _ (vT hHeld ry) (fun hHeld => ?_)
 clear hK K ry
 try simp only [qq]
 refine dN 8 9 10 11 ?_
 refine dY 12 ?_
 refine dY 13 ?_
 refine dY 14 ?_
 refine ql 15 (Gl A2 n bN L2 n cB) rfl (gB 40 _ rfl g 2 rfl [.slice A2 n bN, .slice L2 n cB] _ (fun u hu => (uA (kG.out u hu)).2) Tryz.underlying40 rfl bC) ?_
 refine dK 16 fun K hK => ?_
 go_simp
 refine (jE P Q G X B H (high - m) ((Q - r) % Q) n s hs hr h c2 hval dP K4.out.2 hm1.out.2 hrq.out.1 hrq.out.2 hQ A2 L2 bN cB _ (kV.out _ hHeld) (kD.out _ hHeld) (hR2.out.below (ag aM.out hHeld.out)) v2 qd.out.symm).mono ?_
 rintro e w9 ⟨rfl, ry⟩
 refine hK.out _ _ (vT hHeld ry) (fun hHeld => ?_)
 clear hK K ry
 try simp only [qq]
 refine dY 17 ?_
 refine dY 18 ?_
 refine kT ?_
 clear hO
 go_wp2
 go_ret
 exact ⟨rfl, ag aM.out hHeld.out⟩
theorem FL (B g n c d : Nat) (xs : List Int) (hn : xs.length = n) (hbig : n < 1000) (w : World) (h1 : Hid (Cells w B xs)) (h2 : Hid (Cells w g xs)) :
  Calls Tryz.prog 18 #[.slice (some ⟨B, 0, none⟩) n c, .slice (some ⟨g, 0, none⟩) n d] w (Rt w (.bool true)) := by
 refine (Tryz.slices_Equal_int B 0 n c g 0 n d xs xs w (by omega) (by omega) (by omega) (by omega) (fun j hj => ?_) (fun j hj => ?_)).mono ?_
 · rw [Nat.zero_add]; exact h1.out j hj
 · rw [Nat.zero_add]; exact h2.out j hj
 ·
  rintro e w' ⟨rfl, q, rfl⟩
  exact ⟨by simp, ax (Below.refl _ _) _⟩
theorem Kw (w : World) (T : TypeId) (x y : Int) : Cells (w.alloc (.cells #[.int .i64 x, .int .i64 y] T)) w.heap.size [x, y] := fun k hk => by
 match k, hk with
 | 0, _ => exact World.cell?_alloc_at _ _ _ _ rfl
 | 1, _ => exact World.cell?_alloc_at _ _ _ _ rfl
theorem Kv (w : World) (T : TypeId) (x y z t : Int) : Cells (w.alloc (.cells #[.int .i64 x, .int .i64 y, .int .i64 z, .int .i64 t] T)) w.heap.size [x, y, z, t] := fun k hk => by
 match k, hk with
 | 0, _ => exact World.cell?_alloc_at _ _ _ _ rfl
 | 1, _ => exact World.cell?_alloc_at _ _ _ _ rfl
 | 2, _ => exact World.cell?_alloc_at _ _ _ _ rfl
 | 3, _ => exact World.cell?_alloc_at _ _ _ _ rfl
theorem BU {w : World} {b : Nat} {xs : List Int} (h : Cells w b xs) : Sl w (some ⟨b, 0, none⟩) xs := fun k hk => ⟨b, 0, rfl, by rw [Nat.zero_add]; exact h k hk⟩
theorem IZ : dI 6 4 = [0, 1, 1, 0] := by kernel_rfl
theorem IW : Hid (aS 23 11 4 2 3 9 = true) := aa (by kernel_rfl)
theorem IX : Hid (([4, 2] : List Int).all (av 23 11) = true) := aa (by kernel_rfl)
theorem IY : Hid (qY 23 11 [4, 2] = 16) := aa (by kernel_rfl)
theorem FX (w : World) (hv : Hid (Vars w)) :
  Calls Tryz.prog 4 #[] w (Rt w (.bool true)) := by
 go_in
 go_wp2_with fail
 refine (zT 6 4 (by decide) (by decide) (by decide) (by decide) _).mono ?_
 rintro e w1 ⟨B, rfl, hcb, hb1⟩
 rw [IZ] at hcb
 have yZ := aa hcb
 have jV := aa (hv.out.below hb1)
 clear hcb
 go_wp2_with fail
 refine (FW _).mono ?_
 rintro e w2 ⟨rfl, hb0⟩
 have hb2 := ag hb1 hb0
 have qd := aa (jV.out.below hb0)
 have yY := aa (yZ.out.below hb0)
 clear hb0
 have hq := af w2 (.cells #[.int .i64 4, .int .i64 2] 3)
 have HS := aa (BU (Kw w2 3 4 2))
 have Ju := aa (qd.out.below hq)
 have MG := aa (yY.out.below hq)
 have hb3 := ag hb2 hq
 clear hq
 obtain ⟨W, hW⟩ : ∃ W, w2.alloc (.cells #[.int .i64 4, .int .i64 2] 3) = W := ⟨_, rfl⟩
 rw [hW] at HS Ju MG hb3
 go_wp2_with fail
 try rw [hW]
 clear hW
 refine (xH 23 11 4 2 3 9 (some ⟨w2.heap.size, 0, none⟩) [4, 2] 2 2 16 IW (by decide) IX IY (aa rfl) (by decide) (by decide) _ Ju HS).mono ?_
 rintro e w4 ⟨rfl, hb0⟩
 have hb4 := ag hb3 hb0
 have U2 := aa (MG.out.below hb0)
 clear hb0
 have hq := af w4 (.cells #[.int .i64 0, .int .i64 1, .int .i64 1, .int .i64 0] 3)
 have HR := aa (Kv w4 3 0 1 1 0)
 have Sz := aa (U2.out.below hq)
 have hb5 := ag hb4 hq
 clear hq
 obtain ⟨W5, hW⟩ : ∃ W, w4.alloc (.cells #[.int .i64 0, .int .i64 1, .int .i64 1, .int .i64 0] 3) = W := ⟨_, rfl⟩
 rw [hW] at HR Sz hb5
 go_wp2_with fail
 try rw [hW]
 clear hW
 refine (FL B w4.heap.size 4 4 4 [0, 1, 1, 0] rfl (by decide) _ Sz HR).mono ?_
 rintro e w6 ⟨rfl, hb0⟩
 have hb6 := ag hb5 hb0
 clear hb0
 go_wp2
 go_ret
 exact ⟨rfl, hb6⟩
theorem uF (h : List Int) (hl : Hid (h.length = 32)) (c : Int) (r : Bool) (hr : Hid (nS c = r)) (w : World) :
  Calls Tryz.prog 7 #[.agg (ak h c)] w (Rt w (.bool r)) := by
 have hc := (aD.new w h c).count hl.out
 by_cases h0 : 0 ≤ c
 ·
  have d1 : decide ((0 : Int) ≤ c) = true := by simp [h0]
  obtain ⟨t, ht⟩ : ∃ t, decide (c ≤ 1099511627776) = t := ⟨_, rfl⟩
  obtain rfl : t = r := by rw [← hr.out, nS, d1, ht]; rfl
  clear hr
  go_in
  go_wp2
  go_ret
  exact ⟨by first | rfl | (rw [ht]), af _ _⟩
 ·
  have d1 : decide ((0 : Int) ≤ c) = false := by simp; omega
  obtain rfl : r = false := by rw [← hr.out, nS, d1]; rfl
  clear hr
  go_in
  go_wp2
  go_ret
  exact ⟨rfl, af _ _⟩
end Go.Proofs.YtgbfhcfhopadaaaGreatDoor