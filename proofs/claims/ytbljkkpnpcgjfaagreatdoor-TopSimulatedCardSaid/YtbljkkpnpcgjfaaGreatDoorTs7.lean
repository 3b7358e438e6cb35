/- Contracts and lemmas: DrE, Dnx, BrE, FmQ, FnA, FnB, OpF, FnC. -/
import Derived.Deep.AppendLies
import Derived.Great.BuildSlice
import Derived.Test.YtbljkkpnpcgjfaaGreatDoorTs6
set_option linter.unusedVariables false
set_option linter.unusedSimpArgs false
set_option maxRecDepth 100000
set_option maxHeartbeats 25600000
namespace Go.Proofs.YtbljkkpnpcgjfaaGreatDoor
open Go.RowKit rM
def qB (h : List Int) (q c : Int) : Nat → Int × Bool
 | 0 => (c, false)
 | k + 1 => ((gQ h q (jb q) 256 (qB h q c k).1 0).2.1, (gQ h q (jb q) 256 (qB h q c k).1 0).2.2)
def xD (h : List Int) (q c : Int) (k : Nat) : Int := (gQ h q (jb q) 256 (qB h q c k).1 0).1
def qH (h : List Int) (q c : Int) (n : Nat) : List Int := (List.range n).map (xD h q c)
theorem uw (h : List Int) (q c : Int) (n : Nat) : (qH h q c n).length = n := by simp [qH]
theorem Fu (h : List Int) (q c : Int) (k : Nat) : qH h q c (k + 1) = qH h q c k ++ [xD h q c k] := by simp [qH, List.range_succ]
theorem wH {h : List Int} {q m : Int} : ∀ (k : Nat) (c x : Int), (gQ h q m k c x).2.2 = true → (gQ h q m k c x).2.1 = 1099511627776
 | 0, c, x, hf => by simp [gQ] at hf
 | k + 1, c, x, hf => by
  simp only [gQ] at hf ⊢
  by_cases he : c = 1099511627776
  · rw [if_pos he]; exact he
  ·
   rw [if_neg he] at hf ⊢
   by_cases hy : bits BinOp.and IntKind.u64 (nJ (oG h c)) m < q
   · rw [if_pos hy] at hf; cases hf
   · rw [if_neg hy] at hf ⊢; exact wH k _ _ hf
theorem BG {h : List Int} {q c : Int} (hc0 : 0 ≤ c) (hc1 : c ≤ 1099511627776) : ∀ k, 0 ≤ (qB h q c k).1 ∧ (qB h q c k).1 ≤ 1099511627776 ∧ ((qB h q c k).2 = true → (qB h q c k).1 = 1099511627776)
 | 0 => ⟨hc0, hc1, fun h => by cases h⟩
 | k + 1 => by
  obtain ⟨h0, h1, _⟩ := BG (h := h) (q := q) hc0 hc1 k
  have h2 := uo (h := h) (q := q) (m := jb q) 256 (qB h q c k).1 0 h1
  exact ⟨by show 0 ≤ (gQ h q (jb q) 256 (qB h q c k).1 0).2.1; omega, h2.2, wH 256 _ _⟩
theorem Qt {h : List Int} {q c : Int} (hq : 1 ≤ q) (k : Nat) : 0 ≤ xD h q c k ∧ xD h q c k < q := yt hq _ _ _ (Int.le_refl _)
theorem LQ {h : List Int} {q c : Int} (hq : 1 ≤ q) (n : Nat) : (qH h q c n).all (cu q) = true := by
 rw [List.all_eq_true]
 intro x hx
 obtain ⟨i, _, rfl⟩ := List.mem_map.1 hx
 have := Qt (h := h) (c := c) hq i
 simp [cu]; exact this
theorem JZ (h : List Int) (hl : h.length = 32) (c : Int) : Tryz.prog.built 175 [(0, .agg (aT h c))] = some (vF h c false) := by
 obtain ⟨a0, a1, a2, a3, a4, a5, a6, a7, a8, a9, Pj, Ph, a12, Pg, Pf, Pe, a16, a17, Pd, Pb, a20, a21, a22, a23, a24, a25, a26, a27, a28, a29, a30, a31, rfl⟩ := yC h hl
 kernel_rfl
def y_ (h : List Int) (q c : Int) (n : Nat) (w : World) (e : Ending) (w' : World) : Prop :=
 if (qB h q c n).2 = true then e = .returned (.tuple #[.agg (aT (aZ 32) 0), .slice none 0 0, .int .i64 5]) ∧ Below w.heap.size w w'
 else ∃ v, e = .returned (.tuple #[.agg (aT h (qB h q c n).1), v, .int .i64 0]) ∧ dN w' w.heap.size v (qH h q c n) ∧ Below w.heap.size w w'
theorem F3 (h : List Int) (hl : Hid (h.length = 32)) (hb : Hid (aH h = true)) (c : Int) (hdr : Hid (zx c = true)) (q : Int) (hq1 : 1 ≤ q) (hq2 : q < 2305843009213693952) (n : Nat) (hn : n ≤ 1000) (w : World) (hv : Hid (bX w)) :
  Calls Tryz.prog 111 #[.agg (aT h c), .int .i64 q, .int .i64 n] w (y_ h q c n w) := by
 obtain ⟨hc0, hc1⟩ : 0 ≤ c ∧ c ≤ 1099511627776 := by have h2 := hdr.out; simp [zx] at h2; exact h2
 obtain ⟨i0, hi, hz0, hz1, hz2⟩ := info_parts yF
 obtain ⟨W, hW⟩ : ∃ W, (w.alloc (.cells (aT h c) 34)).alloc (.cells #[.int .u8 0, .int .u8 0, .int .u8 0, .int .u8 0, .int .u8 0, .int .u8 0, .int .u8 0, .int .u8 0, .int .u8 0, .int .u8 0, .int .u8 0, .int .u8 0, .int .u8 0, .int .u8 0, .int .u8 0, .int .u8 0, .int .u8 0, .int .u8 0, .int .u8 0, .int .u8 0, .int .u8 0, .int .u8 0, .int .u8 0, .int .u8 0, .int .u8 0, .int .u8 0, .int .u8 0, .int .u8 0, .int .u8 0, .int .u8 0, .int .u8 0, .int .u8 0, .int .i64 0] 34) = W := ⟨_, rfl⟩
 have dR : Hid (Below w.heap.size w W) := aa (by rw [← hW]; exact aB (Below.refl _ _))
 have HT0 : Hid (dK W w.heap.size h c) := aa (by rw [← hW]; exact heap_alloc2_old _ _ _)
 have dY : Hid (dK W (w.heap.size + 1) (aZ 32) 0) := aa (by rw [← hW, Du]; exact heap_alloc2_new _ _ _)
 have qj : Hid (W.heap.size = w.heap.size + 2) := aa (by rw [← hW]; simp)
 have HV := aa (hv.out.below dR.out)
 have HW := aa hW
 clear hW hv
 go_in
 go_upto_region 1 with (fail)
 rw [HW.out]
 clear HW
 go_wp2_with ((with_reducible show wpList _ _ _ (⟨some 12, _, _, _, _, _⟩ :: _) _ _); refine wpList_load_row rfl 34 _ rfl w.heap.size rfl _ _ _ _ HT0.out Tryz.underlying34 rfl (aK hl.out) ?_)
 refine (qO h hl c hdr q 1 2305843009213693951 hq1 (by omega) _).mono ?_
 rintro e w1 ⟨rfl, hb1⟩
 have HT1 := aa (HT0.out.below hb1)
 have HB1 := aa (af dR.out hb1)
 have PW := aa hb1
 clear hb1
 go_wp2_with ((with_reducible show wpList _ _ _ (⟨some 17, _, _, _, _, _⟩ :: _) _ _); refine wpList_load_row rfl 34 _ rfl w.heap.size rfl _ _ _ _ HT1.out Tryz.underlying34 rfl (aK hl.out) ?_)
 refine (qO h hl c hdr n 0 1000 (by omega) (by omega) _).mono ?_
 rintro e w2 ⟨rfl, hb2⟩
 have HT2 := aa (HT1.out.below hb2)
 have HB2 := aa (af HB1.out hb2)
 have Bl := aa (af PW.out hb2)
 have ko := aa (HV.out.below Bl.out)
 clear hb2 HT1 HB1 PW
 go_wp2_with (first
  | ((with_reducible show wpList _ _ _ (⟨some 24, _, _, _, _, _⟩ :: _) _ _); refine wpList_load_row rfl 34 _ rfl w.heap.size rfl _ _ _ _ HT2.out Tryz.underlying34 rfl (aK hl.out) ?_)
  | ((with_reducible show wpList _ _ _ (⟨some 25, _, _, _, _, _⟩ :: _) _ _); refine dA rfl 175 _ rfl _ (JZ h hl.out c) ?_))
 have Jf : fP (w2.alloc (.cells (vF h c false) 175)) w2.heap.size h c false := heap_alloc_new _ _
 have hb3 := ai w2 (.cells (vF h c false) 175)
 have uB : (w2.alloc (.cells (vF h c false) 175)).heap.size = w2.heap.size + 1 := by simp
 obtain ⟨W3, hW3⟩ : ∃ u, w2.alloc (.cells (vF h c false) 175) = u := ⟨_, rfl⟩
 rw [hW3] at Jf hb3 uB ⊢
 have zf := aa Jf
 have HB3 := aa hb3
 have MU := aa uB
 obtain ⟨b, hbb⟩ : ∃ b, w2.heap.size = b := ⟨_, rfl⟩
 rw [hbb] at zf MU ⊢
 have zm := aa hbb
 have hbw : w.heap.size + 2 ≤ b := by have := Bl.out.size; have := qj.out; omega
 clear Jf hb3 uB hW3 hbb
 go_loopw [11, 28] (fun v i u => ∃ k : Nat, k ≤ n ∧ i = .int .i64 k ∧ Hid (fP u b h (qB h q c k).1 (qB h q c k).2) ∧ Hid (dN u (b + 1) v (qH h q c k)) ∧ Hid (Below b w2 u) ∧ Hid (b + 1 ≤ u.heap.size)) (fun _ i _ => n - (intOf i).toNat)
 case atStart => exact ⟨0, by omega, rfl, zf, aa (uj _ _), aa (by have h2 := HB3.out; rwa [zm.out] at h2), aa (by have := MU.out; omega)⟩
 case round =>
  obtain ⟨k, hk, rfl, Ew, HO, aF, X4⟩ := hrel
  by_cases hlt : k < n
  ·
   obtain ⟨hk0, hk1, Jd⟩ := BG (h := h) (q := q) hc0 hc1 k
   have HST : Hid (qB h q c (k + 1) = ((gQ h q (jb q) 256 (qB h q c k).1 0).2.1, (gQ h q (jb q) 256 (qB h q c k).1 0).2.2)) := aa rfl
   have HX : Hid (xD h q c k = (gQ h q (jb q) 256 (qB h q c k).1 0).1) := aa rfl
   have Ug := aa (Fu h q c k)
   have NB := aa (uw h q c k)
   obtain ⟨cc, hcc⟩ : ∃ x, (qB h q c k).1 = x := ⟨_, rfl⟩
   obtain ⟨ff, Al⟩ : ∃ x, (qB h q c k).2 = x := ⟨_, rfl⟩
   obtain ⟨L, hL⟩ : ∃ x, qH h q c k = x := ⟨_, rfl⟩
   obtain ⟨x, hx⟩ : ∃ x, xD h q c k = x := ⟨_, rfl⟩
   obtain ⟨r, hr⟩ : ∃ x, gQ h q (jb q) 256 cc 0 = x := ⟨_, rfl⟩
   rw [hcc, hr] at HST HX
   rw [hL, hx] at Ug
   rw [hL] at NB HO
   rw [hx] at HX
   rw [hcc, Al] at Ew
   rw [hcc] at hk0 hk1 Jd
   rw [Al] at Jd
   obtain ⟨rn, rc, rf⟩ := r
   have M5 : Kp (gQ h q (jb q) 256 cc 0 = (rn, rc, rf)) := ⟨hr⟩
   obtain rfl : x = rn := HX.out
   clear hcc Al hL hx hr HX
   go_wp2_with fail
   refine (rC h hl hb q hq1 hq2 cc hk0 hk1 b w2 ko _ (aa (by have h2 := aF.out; rwa [← zm.out] at h2)) (by rw [zm.out]; exact Nat.le_refl _) ff Jd Ew x rc rf M5).mono ?_
   rintro e w4 ⟨rfl, RB, hG4⟩
   have vS := aa RB
   have gI : Hid (Below b w2 w4) := aa (aF.out.trans (oD hG4 (Nat.le_refl _) (by have := X4.out; omega)))
   have Nz : Hid (b + 1 ≤ w4.heap.size) := aa (Nat.le_trans X4.out hG4.size)
   have sG : Hid (dN w4 (b + 1) u11 L) := aa (World.ownsRow.kept HO.out hG4 (Or.inr (fun e => by have := (World.ownsRow.lt HO.out _ e).1; omega)))
   have hown : w4.ownsRow (b + 1) 3 1 u11 k (L.map (Value.int .i64)) := by
    have h3 := sG.out
    unfold dN at h3
    rwa [NB.out] at h3
   have hbs := Nz.out
   clear RB hG4 HO
   go_wp2_with (at_builtin; refine wpList_append_own _ rfl _ _ 24 rfl (b + 1) 3 i0 (.int .i64 0) 1 8 Tryz.underlying24 hi hz0 hz1 hz2 rfl (by decide) _ _ _ rfl (hown.alloc _) ⟨w4.heap.size, 0, none⟩ 1 1 [.int .i64 x] rfl rfl (cell_one_new _ _ _) (ints_oneCell .i64 [x]) (by unfold maxLen; omega) (by omega) (by simp; omega) ?_; intro v' w5 hown1 hgrow1 _)
   have zy : Hid (dN w5 (b + 1) v' (qH h q c (k + 1))) := aa (by
    rw [Ug.out]
    exact dN.app NB.out.symm hown1)
   have mh : Hid (Below b w2 w5) := aa ((gI.out.alloc (by omega) (.cells #[.int .i64 x] 3)).grown hgrow1 (by simp; omega) (fun j hj => by have := (World.ownsRow.lt sG.out j hj).1; omega))
   have VJ : Hid (b + 1 ≤ w5.heap.size) := aa (by have h2 := hgrow1.size; simp at h2; omega)
   have Ua : Hid (fP w5 b h (qB h q c (k + 1)).1 (qB h q c (k + 1)).2) := aa (by
    rw [HST.out]
    have h2 : fP (w4.alloc (.cells #[.int .i64 x] 3)) b h rc rf := vS.out.below (ai _ _)
    exact (hgrow1.block b h2.lt (fun e => by have := (World.ownsRow.lt sG.out _ e.symm).1; omega)).trans h2)
   clear hown hown1 hgrow1
   go_roundw
   case rel => exact ⟨k + 1, by omega, by go_num, Ua, zy, mh, VJ⟩
   case measure => simp [intOf]; omega
  ·
   obtain rfl : k = n := by omega
   clear hlt
   have HT3 : Hid (dK wr w.heap.size h c) := aa ((aF.out.block _ (by omega)).trans HT2.out)
   have HR3 : Hid (dK wr (w.heap.size + 1) (aZ 32) 0) := aa ((aF.out.block _ (by omega)).trans (dY.out.below Bl.out))
   have av : Hid (Below w.heap.size w wr) := aa (HB2.out.trans (aF.out.mono (by omega)))
   have PG : Hid (y_ h q c k w = fun e w' => if (qB h q c k).2 = true then e = .returned (.tuple #[.agg (aT (aZ 32) 0), .slice none 0 0, .int .i64 5]) ∧ Below w.heap.size w w' else ∃ v, e = .returned (.tuple #[.agg (aT h (qB h q c k).1), v, .int .i64 0]) ∧ dN w' w.heap.size v (qH h q c k) ∧ Below w.heap.size w w') := aa rfl
   obtain ⟨cc, hcc⟩ : ∃ x, (qB h q c k).1 = x := ⟨_, rfl⟩
   obtain ⟨ff, Al⟩ : ∃ x, (qB h q c k).2 = x := ⟨_, rfl⟩
   obtain ⟨L, hL⟩ : ∃ x, qH h q c k = x := ⟨_, rfl⟩
   rw [hcc, Al, hL] at PG
   rw [hcc, Al] at Ew
   rw [hL] at HO
   clear hcc Al hL aF HB2 HT2 dY Bl
   go_wp2_with fail
   refine (rz h hl cc ff b _ Ew).mono ?_
   rintro e w5 ⟨rfl, hb5⟩
   have Bu := aa (HT3.out.below hb5)
   have xH := aa (HR3.out.below hb5)
   have mh := aa (af av.out hb5)
   have zy : Hid (dN w5 (b + 1) u11 L) := aa (World.ownsRow.kept HO.out (aC hb5 none) (by cases hq : u11.ownBlock with | none => exact Or.inl rfl | some j => exact Or.inr (by simp)))
   clear hb5 HT3 HR3 av HO Ew
   cases ff with
   | true =>
    rw [if_pos rfl, show KX (aZ 32) 0 5 = .tuple #[.agg (aT (aZ 32) 0), .int .i64 5] from rfl]
    have Kn : Hid (dK (w5.setRow w.heap.size (aT (aZ 32) 0)) (w.heap.size + 1) (aZ 32) 0) := aa ((setRow_other _ _ _ _ (by omega)).trans xH.out)
    have iT := aa (aD (cs := aT (aZ 32) 0) mh.out (Nat.le_refl _))
    go_wp2_with (first
     | ((with_reducible show wpList _ _ _ (⟨some 44, _, _, _, _, _⟩ :: _) _ _); refine dA rfl 34 _ rfl _ Da ?_)
     | ((with_reducible show wpList _ _ _ (⟨none, Op.store _ (Operand.tmp 3) _, _, _, _, _⟩ :: _) _ _); refine wpList_store_row rfl 34 _ _ rfl w.heap.size (aT (aZ 32) 0) rfl rfl _ _ Bu.out (aK rfl) (fe hl.out rfl) (bg _ _) ?_)
     | ((with_reducible show wpList _ _ _ (⟨none, Op.store _ (Operand.tmp 6) _, _, _, _, _⟩ :: _) _ _); refine wpList_store_row rfl 34 _ _ rfl (w.heap.size + 1) (aT (aZ 32) 0) rfl rfl _ _ Kn.out (aK rfl) rfl (bg _ _) ?_))
    have HRR : Hid (dK ((w5.setRow w.heap.size (aT (aZ 32) 0)).setRow (w.heap.size + 1) (aT (aZ 32) 0)) (w.heap.size + 1) (aZ 32) 0) := aa Kn.out.setRow
    have fH := aD (cs := aT (aZ 32) 0) iT.out (Nat.le_succ _)
    exact bodyPost_ret (v := .tuple #[.agg (aT (aZ 32) 0), .slice none 0 0, .int .i64 5]) (fF (p := 6) (q := 7) (r := 8) (ty := 34) rfl _ _ ⟨w.heap.size + 1, 0, none⟩ _ _ _ rfl rfl rfl (run_loadVar_row _ _ _ _ _ _ _ HRR.out Tryz.underlying34 rfl (aK rfl))) rfl (by rw [PG.out]; show (if True then _ else _ : Prop); rw [if_pos trivial]; exact ⟨rfl, fH⟩)
   | false =>
    rw [if_neg (by decide), show KX h cc 0 = .tuple #[.agg (aT h cc), .int .i64 0] from rfl]
    have Eu : Hid (dK (w5.setRow w.heap.size (aT h cc)) w.heap.size h cc) := aa Bu.out.setRow
    have Kn : Hid (dK (w5.setRow w.heap.size (aT h cc)) (w.heap.size + 1) (aZ 32) 0) := aa ((setRow_other _ _ _ _ (by omega)).trans xH.out)
    have iT := aa (aD (cs := aT h cc) mh.out (Nat.le_refl _))
    go_wp2_with (first
     | ((with_reducible show wpList _ _ _ (⟨some 46, _, _, _, _, _⟩ :: _) _ _); refine wpList_load_row rfl 34 _ rfl w.heap.size rfl _ _ _ _ Eu.out Tryz.underlying34 rfl (aK hl.out) ?_)
     | ((with_reducible show wpList _ _ _ (⟨none, Op.store _ (Operand.tmp 3) _, _, _, _, _⟩ :: _) _ _); refine wpList_store_row rfl 34 _ _ rfl w.heap.size (aT h cc) rfl rfl _ _ Bu.out (aK hl.out) (fe hl.out hl.out) (bg _ _) ?_)
     | ((with_reducible show wpList _ _ _ (⟨none, Op.store _ (Operand.tmp 6) _, _, _, _, _⟩ :: _) _ _); refine wpList_store_row rfl 34 _ _ rfl (w.heap.size + 1) (aT h cc) rfl rfl _ _ Kn.out (aK hl.out) (fe rfl hl.out) (bg _ _) ?_))
    have HRR : Hid (dK ((w5.setRow w.heap.size (aT h cc)).setRow (w.heap.size + 1) (aT h cc)) (w.heap.size + 1) h cc) := aa Kn.out.setRow
    have fH := aD (cs := aT h cc) iT.out (Nat.le_succ _)
    have oI : dN (w5.setRow w.heap.size (aT h cc)) (b + 1) u11 L := World.ownsRow.kept zy.out (pR _ _ _) (Or.inr (fun e => by have := (World.ownsRow.lt zy.out _ e).1; omega))
    have HO7 : dN ((w5.setRow w.heap.size (aT h cc)).setRow (w.heap.size + 1) (aT h cc)) (b + 1) u11 L := World.ownsRow.kept oI (pR _ _ _) (Or.inr (fun e => by have := (World.ownsRow.lt oI _ e).1; omega))
    exact bodyPost_ret (v := .tuple #[.agg (aT h cc), u11, .int .i64 0]) (fF (p := 6) (q := 7) (r := 8) (ty := 34) rfl _ _ ⟨w.heap.size + 1, 0, none⟩ _ _ _ rfl rfl rfl (run_loadVar_row _ _ _ _ _ _ _ HRR.out Tryz.underlying34 rfl (aK hl.out))) rfl (by rw [PG.out]; show (if (false = true) then _ else _ : Prop); rw [if_neg (by decide)]; exact ⟨u11, rfl, dN.mono HO7 (by omega), fH⟩)
theorem wW (h : List Int) (hl : Hid (h.length = 32)) (hb : Hid (aH h = true)) (c : Int) (hdr : Hid (zx c = true)) (q : Int) (hq1 : 1 ≤ q) (hq2 : q < 2305843009213693952) (n rc : Int) (f : Bool) (HN : Kp (gQ h q (jb q) 256 c 0 = (n, rc, f)))
  (hh : List Int) (cc ee : Int) (hR : Hid ((if f = true then KX (aZ 32) 0 5 else KX h rc 0) = KX hh cc ee)) (Cr : Hid (hh.length = 32)) (w : World) (hv : Hid (bX w)) :
  Calls Tryz.prog 112 #[.agg (aT h c), .int .i64 q] w (Rt w (PZ hh cc n ee)) := by
 obtain ⟨hc0, hc1⟩ : 0 ≤ c ∧ c ≤ 1099511627776 := by have h2 := hdr.out; simp [zx] at h2; exact h2
 obtain ⟨W, hW⟩ : ∃ W, (w.alloc (.cells (aT h c) 34)).alloc (.cells #[.int .u8 0, .int .u8 0, .int .u8 0, .int .u8 0, .int .u8 0, .int .u8 0, .int .u8 0, .int .u8 0, .int .u8 0, .int .u8 0, .int .u8 0, .int .u8 0, .int .u8 0, .int .u8 0, .int .u8 0, .int .u8 0, .int .u8 0, .int .u8 0, .int .u8 0, .int .u8 0, .int .u8 0, .int .u8 0, .int .u8 0, .int .u8 0, .int .u8 0, .int .u8 0, .int .u8 0, .int .u8 0, .int .u8 0, .int .u8 0, .int .u8 0, .int .u8 0, .int .i64 0] 34) = W := ⟨_, rfl⟩
 have dR : Hid (Below w.heap.size w W) := aa (by rw [← hW]; exact aB (Below.refl _ _))
 have HT0 : Hid (dK W w.heap.size h c) := aa (by rw [← hW]; exact heap_alloc2_old _ _ _)
 have dY : Hid (dK W (w.heap.size + 1) (aZ 32) 0) := aa (by rw [← hW, Du]; exact heap_alloc2_new _ _ _)
 have qj : Hid (W.heap.size = w.heap.size + 2) := aa (by rw [← hW]; simp)
 have HV := aa (hv.out.below dR.out)
 have HW := aa hW
 clear hW hv
 go_in
 go_upto_region 1 with (fail)
 rw [HW.out]
 clear HW
 go_wp2_with ((with_reducible show wpList _ _ _ (⟨some 11, _, _, _, _, _⟩ :: _) _ _); refine wpList_load_row rfl 34 _ rfl w.heap.size rfl _ _ _ _ HT0.out Tryz.underlying34 rfl (aK hl.out) ?_)
 refine (qO h hl c hdr q 1 2305843009213693951 hq1 (by omega) _).mono ?_
 rintro e w1 ⟨rfl, hb1⟩
 have HT1 := aa (HT0.out.below hb1)
 have HR1 := aa (dY.out.below hb1)
 have HB1 := aa (af dR.out hb1)
 have PW := aa hb1
 have gT := aa (HV.out.below hb1)
 have HZ1 : Hid (w.heap.size + 2 ≤ w1.heap.size) := aa (by have := hb1.size; have := qj.out; omega)
 clear hb1 HT0 dY
 go_wp2_with (first
  | ((with_reducible show wpList _ _ _ (⟨some 18, _, _, _, _, _⟩ :: _) _ _); refine wpList_load_row rfl 34 _ rfl w.heap.size rfl _ _ _ _ HT1.out Tryz.underlying34 rfl (aK hl.out) ?_)
  | ((with_reducible show wpList _ _ _ (⟨some 19, _, _, _, _, _⟩ :: _) _ _); refine dA rfl 175 _ rfl _ (JZ h hl.out c) ?_))
 have Jf : fP (w1.alloc (.cells (vF h c false) 175)) w1.heap.size h c false := heap_alloc_new _ _
 have hb3 := ai w1 (.cells (vF h c false) 175)
 have uB : (w1.alloc (.cells (vF h c false) 175)).heap.size = w1.heap.size + 1 := by simp
 obtain ⟨W3, hW3⟩ : ∃ u, w1.alloc (.cells (vF h c false) 175) = u := ⟨_, rfl⟩
 rw [hW3] at Jf hb3 uB ⊢
 have zf := aa Jf
 have HB3 := aa hb3
 have MU := aa uB
 clear Jf hb3 uB hW3
 refine (rC h hl hb q hq1 hq2 c hc0 hc1 w1.heap.size w1 gT _ HB3 (Nat.le_refl _) false (fun e => by cases e) zf n rc f HN).mono ?_
 rintro e w4 ⟨rfl, RB, hG4⟩
 have vS := aa RB
 have hB4 : Below w1.heap.size w1 w4 := HB3.out.trans (oD hG4 (Nat.le_refl _) (by have := MU.out; omega))
 have KP := aa (HT1.out.below hB4)
 have HR4 := aa (HR1.out.below hB4)
 have gI := aa (af HB1.out hB4)
 clear RB hG4 hB4 HT1 HR1
 go_wp2_with fail
 refine (rz h hl rc f w1.heap.size _ vS).mono ?_
 rintro e w5 ⟨rfl, hb5⟩
 rw [hR.out, show KX hh cc ee = .tuple #[.agg (aT hh cc), .int .i64 ee] from rfl]
 have Bu := aa (KP.out.below hb5)
 have xH := aa (HR4.out.below hb5)
 have mh := aa (af gI.out hb5)
 clear hb5
 go_upto_region 7 with ((with_reducible show wpList _ _ _ (⟨none, _, _, _, _, _⟩ :: _) _ _); refine wpList_store_row rfl 34 _ _ rfl w.heap.size (aT hh cc) rfl rfl _ _ Bu.out (aK Cr.out) (fe hl.out Cr.out) (bg _ _) ?_)
 have Eu : Hid (dK (w5.setRow w.heap.size (aT hh cc)) w.heap.size hh cc) := aa Bu.out.setRow
 have Kn : Hid (dK (w5.setRow w.heap.size (aT hh cc)) (w.heap.size + 1) (aZ 32) 0) := aa ((setRow_other _ _ _ _ (by omega)).trans xH.out)
 have Ue : Hid (dK ((w5.setRow w.heap.size (aT hh cc)).setRow (w.heap.size + 1) (aT hh cc)) (w.heap.size + 1) hh cc) := aa Kn.out.setRow
 have Qh := aD (cs := aT hh cc) (aD (cs := aT hh cc) mh.out (Nat.le_refl w.heap.size)) (Nat.le_succ w.heap.size)
 go_wp2_with (first
  | ((with_reducible show wpList _ _ _ (⟨some 29, _, _, _, _, _⟩ :: _) _ _); refine wpList_load_row rfl 34 _ rfl w.heap.size rfl _ _ _ _ Eu.out Tryz.underlying34 rfl (aK Cr.out) ?_)
  | ((with_reducible show wpList _ _ _ (⟨none, _, _, _, _, _⟩ :: _) _ _); refine wpList_store_row rfl 34 _ _ rfl (w.heap.size + 1) (aT hh cc) rfl rfl _ _ Kn.out (aK Cr.out) (fe rfl Cr.out) (bg _ _) ?_))
 exact bodyPost_ret (v := PZ hh cc n ee) (fF (p := 4) (q := 5) (r := 6) (ty := 34) rfl _ _ ⟨w.heap.size + 1, 0, none⟩ _ _ _ rfl rfl rfl (run_loadVar_row _ _ _ _ _ _ _ Ue.out Tryz.underlying34 rfl (aK Cr.out))) rfl ⟨rfl, Qh⟩
def Ht (C : Array Value) : Nat → List Value → Array Value
 | _, [] => C
 | o, v :: r => Ht (C.setIfInBounds o v) (o + 1) r
theorem qL {b : Nat} {T : TypeId} : ∀ (vs : List Value) (o : Nat) (w : World) (C : Array Value), w.heap[b]? = some (.cells C T (0, 0)) → (w.setCells b o vs).heap[b]? = some (.cells (Ht C o vs) T (0, 0))
 | [], _, _, _, h => h
 | v :: r, o, w, C, h => qL r (o + 1) _ _ (heap_setCell_same w b o _ _ v h)
theorem zL : ∀ (vs old pre post : List Value), old.length = vs.length → Ht (pre ++ old ++ post).toArray pre.length vs = (pre ++ vs ++ post).toArray
 | [], [], pre, post, _ => rfl
 | v :: r, x :: old, pre, post, h => by
  have h2 := zL r old (pre ++ [v]) post (by simpa using h)
  rw [Ht]
  have e : (pre ++ x :: old ++ post).toArray.setIfInBounds pre.length v = (pre ++ [v] ++ old ++ post).toArray := by
   apply Array.ext'
   simp [List.set_append]
  rw [e]
  simpa using h2
section
variable {w w' : World} {b : Nat} {h : List Int} {c q e : Int}
end
theorem jW {w w1 : World} {b : Nat} (h : w.grownBy w1 (some b)) : ∀ (vs : List Value) (o : Nat), w.grownBy (w1.setCells b o vs) (some b) := fun vs => by
 induction vs generalizing w1 with
 | nil => exact fun _ => h
 | cons v r ih => exact fun o => ih (ax h (eF b o v)) (o + 1)
theorem mE {P : Program} {S : World → Prop} {o : Oper} {a : Act} (ty : TypeId) (x : Operand) (ho : o.op = .load ty x)
  (b f : Nat) (hx : a.eval x = .pointer (some ⟨b, f, none⟩)) (cs : List Value) (d : TypeDesc) (hS : ∀ w, S w → w.rangeAt b f cs)
  (hu : P.underlying ty = some d) (hd : d.isRow = true) (hi : (P.info? ty).map (·.size) = some cs.length) :
  ∀ w, S w → (execOp a.eval o).run P w = .ok (.value (.agg cs.toArray)) w := fun w hw => by
 unfold execOp
 simp only [ho, hx, Instr.loadAt, Instr.sureAddr, Sem.run_bind, Sem.run_pure, Result.andThen_ok, run_loadVar_mid w b f ty cs d (hS w hw) hu hd hi]
def Bp (P Q G : Int) (h : List Int) (c e : Int) : Array Value := (([.int .i64 P, .int .i64 Q, .int .i64 G] : List Value) ++ (aT h c).toList ++ [Value.int .i64 e]).toArray
theorem Lp {P Q G : Int} {h h' : List Int} {c c' e : Int} (hl : h.length = 32) (hl' : h'.length = 32) : Ht (Bp P Q G h c e) 3 (aT h' c').toList = Bp P Q G h' c' e :=
 zL (aT h' c').toList (aT h c).toList [.int .i64 P, .int .i64 Q, .int .i64 G] [.int .i64 e] (by rw [Array.length_toList, Array.length_toList, fe hl hl'])
theorem Ip {P Q G : Int} {h : List Int} {c e : Int} (hl : h.length = 32) : (Bp P Q G h c e).size = 37 := by simp [Bp, aT, bD, hl]
theorem x_ {P Q G : Int} {h : List Int} {c e : Int} (hl : h.length = 32) : (Bp P Q G h c e)[0]? = some (.int .i64 P) ∧ (Bp P Q G h c e)[1]? = some (.int .i64 Q) ∧ (Bp P Q G h c e)[2]? = some (.int .i64 G) ∧ (Bp P Q G h c e)[36]? = some (.int .i64 e) := by
 refine ⟨rfl, rfl, rfl, ?_⟩
 rw [Bp, List.getElem?_toArray, List.getElem?_append_right (by simp [aT, bD, hl])]
 simp [aT, bD, hl]
theorem Fp {P Q G : Int} {h : List Int} {c e : Int} (hl : h.length = 32) (x : Int) : (Bp P Q G h c e).setIfInBounds 36 (.int .i64 x) = Bp P Q G h c x := by
 apply Array.ext'
 simp [Bp, aT, arr, List.set_append, hl]
def vz (w : World) (b : Nat) (P Q G : Int) (h : List Int) (c e : Int) : Prop := w.heap[b]? = some (.cells (Bp P Q G h c e) 69 (0, 0))
section
variable {w w' : World} {b : Nat} {P Q G : Int} {h : List Int} {c e : Int}
theorem vz.lt (H : vz w b P Q G h c e) : b < w.heap.size := (Array.getElem?_eq_some_iff.1 H).1
theorem vz.below (H : vz w b P Q G h c e) (hb : Below w.heap.size w w') : vz w' b P Q G h c e := (hb.block b H.lt).trans H
theorem vz.range (H : vz w b P Q G h c e) (hl : h.length = 32) : w.rangeAt b 3 (aT h c).toList := fun j v hj => by
 rw [aj H, Bp, List.getElem?_toArray, List.append_assoc, List.getElem?_append_right (by simp), ← hj]
 rw [show 3 + j - ([Value.int .i64 P, .int .i64 Q, .int .i64 G] : List Value).length = j by simp]
 rw [List.getElem?_append_left (List.getElem?_eq_some_iff.1 hj).1]
theorem vz.there (H : vz w b P Q G h c e) (hl : h.length = 32) : w.there b 3 33 := fun j hj => by
 refine ⟨?_, aS H _⟩
 rw [aj H, Array.getElem?_eq_getElem (by rw [Ip hl]; omega)]
 rfl
theorem vz.c0 (H : vz w b P Q G h c e) (hl : h.length = 32) : w.cell? ⟨b, 0, none⟩ = some (.int .i64 P) ∧ w.cell? ⟨b, 1, none⟩ = some (.int .i64 Q) ∧ w.cell? ⟨b, 2, none⟩ = some (.int .i64 G) := ⟨(aj H 0).trans (x_ hl).1, (aj H 1).trans (x_ hl).2.1, (aj H 2).trans (x_ hl).2.2.1⟩
theorem vz.ce (H : vz w b P Q G h c e) (hl : h.length = 32) : Own w ⟨b, 36, none⟩ (.int .i64 e) := ⟨(aj H 36).trans (x_ hl).2.2.2, aS H 36⟩
theorem vz.put (H : vz w b P Q G h c e) (hl : h.length = 32) {h' : List Int} {c' : Int} (hl' : h'.length = 32) : vz (w.setCells b 3 (aT h' c').toList) b P Q G h' c' e := by
 have h2 := qL (aT h' c').toList 3 w _ H
 rw [Lp hl hl'] at h2
 exact h2
theorem vz.setE (H : vz w b P Q G h c e) (hl : h.length = 32) (x : Int) : vz (w.setCell ⟨b, 36, none⟩ (.int .i64 x)) b P Q G h c x := by
 unfold vz
 rw [heap_setCell_same w b 36 _ _ _ H, Fp hl]
end
def gp (w : World) (b : Nat) (P Q G e : Int) : Prop := ∃ (h : List Int) (c : Int), vz w b P Q G h c e ∧ h.length = 32 ∧ aH h = true ∧ (e = 0 → zx c = true)
theorem gp.below {w w' : World} {b : Nat} {P Q G e : Int} (H : gp w b P Q G e) (hb : Below w.heap.size w w') : gp w' b P Q G e := by
 obtain ⟨h, c, h1, h2⟩ := H
 exact ⟨h, c, h1.below hb, h2⟩
theorem gp.ce {w : World} {b : Nat} {P Q G e : Int} (H : gp w b P Q G e) : Own w ⟨b, 36, none⟩ (.int .i64 e) := by
 obtain ⟨h, c, h1, h2, _⟩ := H
 exact h1.ce h2
theorem gp.c0 {w : World} {b : Nat} {P Q G e : Int} (H : gp w b P Q G e) : w.cell? ⟨b, 0, none⟩ = some (.int .i64 P) ∧ w.cell? ⟨b, 1, none⟩ = some (.int .i64 Q) ∧ w.cell? ⟨b, 2, none⟩ = some (.int .i64 G) := by
 obtain ⟨h, c, h1, h2, _⟩ := H
 exact h1.c0 h2
theorem gp.setE {w : World} {b : Nat} {P Q G e : Int} (H : gp w b P Q G e) (x : Int) (hx : x = 0 → e = 0) : gp (w.setCell ⟨b, 36, none⟩ (.int .i64 x)) b P Q G x := by
 obtain ⟨h, c, h1, h2, h3, h4⟩ := H
 exact ⟨h, c, h1.setE h2 x, h2, h3, fun e => h4 (hx e)⟩
theorem gp.lt {w : World} {b : Nat} {P Q G e : Int} (H : gp w b P Q G e) : b < w.heap.size := by
 obtain ⟨h, c, h1, _⟩ := H
 exact h1.lt
def RY (b : Nat) (P Q G e0 : Int) (n : Nat) (w : World) (e : Ending) (w' : World) : Prop :=
 ∃ (e1 : Int) (A : Option Addr) (m ca : Nat) (ks : List Int), e = .returned (.slice A m ca) ∧ gp w' b P Q G e1 ∧ w.grownBy w' (some b) ∧ (e1 = 0 → e0 = 0 ∧ m = n ∧ ks.length = n ∧ ks.all (cu Q) = true ∧ Sl w' A ks ∧ (0 < ks.length → ∃ g, A = some ⟨g, 0, none⟩ ∧ w.heap.size ≤ g))
section
variable {P : Program} {ops : Array Oper} {Q : Exit → Act → World → Prop} {md : Region.Mode} {S S' : World → Prop} {E E' : List Nat}
theorem vX : ∀ (fuel : Nat) (listed : Array Bool) (a : Act) (w : World), (∀ i, listed.getD i true = false → i ∈ E) → jQ P md ops Q S' E' fuel listed a w → jQ P md ops Q S E fuel listed a w
 | 0, _, _, _, _, h => h
 | fuel + 1, listed, _, _, hE, h => ⟨h.1, fun i hi => wpOp_mono (fun a' w' h' => ⟨fun hne => absurd (hE i (mem_ready.1 hi).1) hne, vX fuel _ a' w' (fun j hj => hE j (by
   by_cases e : i = j
   ·
    subst e
    rcases Nat.lt_or_ge i listed.size with h1 | h1
    · simp [h1] at hj
    · simp [Array.getElem?_eq_none h1] at hj
   · rwa [getD_set_ne true e] at hj)) h'.2⟩) (h.2 i hi)⟩
theorem qy (S' : World → Prop) (E' : List Nat) {fuel : Nat} {listed : Array Bool} {a : Act} {w : World} (h : jQ P md ops Q S' E' fuel listed a w) (hE : ((List.range listed.size).all fun i => listed.getD i true || E.contains i) = true := by kernel_rfl) : jQ P md ops Q S E fuel listed a w :=
 vX _ _ _ _ (fun i hi => by
  rcases Nat.lt_or_ge i listed.size with h1 | h1
  ·
   have h2 := List.all_eq_true.1 hE i (List.mem_range.2 h1)
   rw [hi] at h2
   simpa using h2
  · simp [Array.getElem?_eq_none h1] at hi) h
end
theorem jq {P : Program} {md : Region.Mode} {ops : Array Oper} {Q : Exit → Act → World → Prop} {S : World → Prop} {E : List Nat} : ∀ (fuel : Nat) (listed : Array Bool) (a : Act) (w : World), jQ P md ops Q S E fuel listed a w → jQ P md ops Q (fun _ => Hid True) [] fuel listed a w
 | 0, _, _, _, h => h
 | fuel + 1, _, _, _, h => ⟨h.1, fun i hi => wpOp_mono (fun a' w' h' => ⟨fun _ => aa trivial, jq fuel _ a' w' h'.2⟩) (h.2 i hi)⟩
theorem qF {w : World} {b : Nat} {v : Value} {xs : List Int} (h : dN w b v xs) : ∃ A m ca, v = .slice A m ca ∧ m = xs.length ∧ Sl w A xs ∧ (0 < xs.length → ∃ g, A = some ⟨g, 0, none⟩ ∧ b ≤ g) := by
 obtain ⟨A, c, e, hS, hf⟩ := h.sl
 exact ⟨A, xs.length, c, e, rfl, hS, hf⟩
theorem Sl.gbF {w u : World} {b : Nat} {A : Option Addr} {xs : List Int} (h : Sl w A xs) (hg : w.grownBy u (some b)) (hb : 0 < xs.length → ∃ g, A = some ⟨g, 0, none⟩ ∧ b < g) : Sl u A xs := fun k hk => by
 obtain ⟨b', o, e, hc⟩ := h k hk
 obtain ⟨g, e2, hlt⟩ := hb (by omega)
 rw [e] at e2
 injection e2 with e2
 injection e2 with e3 e4
 exact ⟨b', o, e, aI hg (show b' ≠ b by omega) hc⟩
theorem LP {h : List Int} {q c : Int} {n : Nat} {w : World} {e : Ending} {w' : World} (hl : h.length = 32) (hb : aH h = true) (hq : 1 ≤ q) (hc0 : 0 ≤ c) (hc1 : c ≤ 1099511627776) (H : y_ h q c n w e w') :
  ∃ (h2 : List Int) (c2 e2 : Int) (A : Option Addr) (m ca : Nat), e = .returned (.tuple #[.agg (aT h2 c2), .slice A m ca, .int .i64 e2]) ∧ h2.length = 32 ∧ aH h2 = true ∧ (e2 = 0 → zx c2 = true ∧ m = n ∧ ∃ ks : List Int, ks.length = n ∧ ks.all (cu q) = true ∧ Sl w' A ks ∧ (0 < ks.length → ∃ g, A = some ⟨g, 0, none⟩ ∧ w.heap.size ≤ g)) ∧ Below w.heap.size w w' := by
 unfold y_ at H
 by_cases hf : (qB h q c n).2 = true
 ·
  rw [if_pos hf] at H
  exact ⟨aZ 32, 0, 5, none, 0, 0, H.1, rfl, by decide, fun h => by omega, H.2⟩
 ·
  rw [if_neg hf] at H
  obtain ⟨v, h1, h2, h3⟩ := H
  have h4 := BG (h := h) (q := q) hc0 hc1 n
  obtain ⟨A, m, ca, hv, hm, hA, ZT⟩ := qF h2
  subst hv
  refine ⟨h, (qB h q c n).1, 0, A, m, ca, h1, hl, hb, fun _ => ⟨?_, by rw [hm, uw], qH h q c n, uw _ _ _ _, LQ hq n, hA, ZT⟩, h3⟩
  simp [zx]
  omega
theorem o9 (P Q G : Int) (b : Nat) (e0 : Int) (n : Nat) (hn : n ≤ 1000) (hq1 : 1 ≤ Q) (hq2 : Q < 2305843009213693952) (w : World) (hv : Hid (bX w)) (hS : Hid (gp w b P Q G e0)) :
  Calls Tryz.prog 67 #[.pointer (some ⟨b, 0, none⟩), .int .i64 n] w (RY b P Q G e0 n w) := by
 by_cases he : e0 = 0
 case neg =>
  obtain ⟨e1, e2⟩ := hS.out.ce
  have d0 : (e0 != 0) = true := by simp [he]
  go_in
  go_wp2
  go_ret
  exact ⟨e0, none, 0, 0, [], rfl, hS.out, aC (Below.refl _ _) _, fun h => absurd h he⟩
 subst he
 obtain ⟨h, c, Nr, hl, hb, hdr⟩ := hS.out
 have sF := aa Nr
 have HL := aa hl
 have HB := aa hb
 have HDR := aa (hdr rfl)
 clear Nr hl hb hdr hS
 have hO : Hid (∀ u : World, Hid (Below w.heap.size w u) → (u.cell? ⟨b, 1, none⟩ = some (.int .i64 Q) ∧ u.cell? ⟨b, 36, none⟩ = some (.int .i64 0))) := aa (fun u hu => ⟨((sF.out.below hu.out).c0 HL.out).2.1, ((sF.out.below hu.out).ce HL.out).1⟩)
 obtain ⟨e1, e2⟩ := sF.out.ce HL.out
 go_in
 go_upto_region 4 with (fail)
 clear e1 e2
 clear hO
 refine BK (fun _ => True) [] (aa trivial) (fun hT => ?_)
 have hO : Hid (∀ u : World, Hid True → True) := aa (fun _ _ => trivial)
 refine aQ 0 ?_
 refine aQ 1 ?_
 refine jq (S := fun u => Hid (Below w.heap.size w u)) (E := [13, 14, 15, 16, 17, 18, 19, 20, 21, 22, 23]) _ _ _ _ ?_
 clear hO
 have hHeld : Hid (Below w.heap.size w w.drew) := aa ((Below.refl _ _).drew)
 have hO : Hid (∀ u : World, Hid (Below w.heap.size w u) → (u.cell? ⟨b, 1, none⟩ = some (.int .i64 Q) ∧ u.cell? ⟨b, 36, none⟩ = some (.int .i64 0))) := aa (fun u hu => ⟨((sF.out.below hu.out).c0 HL.out).2.1, ((sF.out.below hu.out).ce HL.out).1⟩)
 refine aQ 2 ?_
 refine aQ 3 ?_
 refine aQ 4 ?_
 refine UD 5 (.agg (aT h c)) rfl (mE 34 _ rfl b 3 rfl (aT h c).toList _ (fun u hu => (sF.out.below hu.out).range HL.out) Tryz.underlying34 rfl (mX HL.out)) ?_
 refine aX 6 7 8 9 ?_
 refine aQ 10 ?_
 refine aQ 11 ?_
 refine dO 12 fun K hK => ?_
 go_simp
 have XQ := HDR.out
 have Je : 0 ≤ c ∧ c ≤ 1099511627776 := by simpa [zx] using XQ
 refine (F3 h HL HB c HDR Q hq1 hq2 n hn _ (aa (hv.out.below hHeld.out))).mono ?_
 intro e wA hLo
 obtain ⟨h2, c2, e2, A2, m2, Z_, rfl, hl2, hb2, hfin, bA⟩ := LP HL.out HB.out hq1 Je.1 Je.2 hLo
 refine hK.out _ _ (cZ hHeld bA) (fun hHeld => ?_)
 clear hK K hLo hO XQ Je
 refine qy (fun _ => Hid True) [] ?_
 have hO : Hid (∀ u : World, Hid True → True) := aa (fun _ _ => trivial)
 refine aX 13 14 15 16 ?_
 refine aQ 17 ?_
 refine aQ 18 ?_
 have KQ := sF.out.below hHeld.out
 have qw := aa (KQ.put HL.out (h' := h2) (c' := c2) hl2)
 refine dO 19 fun K hK => ?_
 rw [show (if Region.wanted _ _ = true then _ else _ : Prop) = _ from if_pos rfl]
 refine wp_store_mid 34 _ _ rfl b 3 (aT h2 c2) rfl rfl (by rw [jr hl2]; exact KQ.there HL.out) (aK hl2) (bg _ _) ?_
 refine hK.out _ _ (aa trivial) (fun _ => ?_)
 clear hK K
 refine aQ 20 ?_
 refine aQ 21 ?_
 refine aQ 22 ?_
 have hgb := jW (aC hHeld.out (some b)) (aT h2 c2).toList 3
 obtain ⟨U, hU⟩ : ∃ u, wA.setCells b 3 (aT h2 c2).toList = u := ⟨_, rfl⟩
 rw [hU] at qw hgb ⊢
 have hgA : wA.grownBy U (some b) := by rw [← hU]; exact jW (aC (Below.refl _ _) (some b)) _ 3
 obtain ⟨p1, p2⟩ := qw.out.ce hl2
 refine dO 23 fun K hK => ?_
 go_simp
 refine hK.out _ _ (aa trivial) (fun _ => ?_)
 clear hK K
 refine jf ?_
 clear hO p1 p2
 have Sv := aa (qw.out.setE hl2 e2)
 have Rf := aa (ax hgb (eF b 36 (.int .i64 e2)))
 have Xt := aa (ax hgA (eF b 36 (.int .i64 e2)))
 obtain ⟨U2, Rz⟩ : ∃ u, U.setCell ⟨b, 36, none⟩ (.int .i64 e2) = u := ⟨_, rfl⟩
 rw [Rz] at Sv Rf Xt ⊢
 have hblt := sF.out.lt
 have Ri : Hid (∃ ks : List Int, e2 = 0 → zx c2 = true ∧ m2 = n ∧ ks.length = n ∧ ks.all (cu Q) = true ∧ Sl U2 A2 ks ∧ (0 < ks.length → ∃ g, A2 = some ⟨g, 0, none⟩ ∧ w.heap.size ≤ g)) := aa (by
  by_cases h0 : e2 = 0
  ·
   obtain ⟨f1, f2, ks, f3, f4, f5, f6⟩ := hfin h0
   refine ⟨ks, fun _ => ⟨f1, f2, f3, f4, f5.gbF Xt.out fun hk => ?_, fun hk => by obtain ⟨g, g1, g2⟩ := f6 hk; exact ⟨g, g1, Nat.le_trans (Below.refl w.heap.size w).drew.size g2⟩⟩⟩
   obtain ⟨g, g1, g2⟩ := f6 hk
   exact ⟨g, g1, Nat.lt_of_lt_of_le (Nat.lt_of_lt_of_le hblt (Below.refl w.heap.size w).drew.size) g2⟩
  · exact ⟨[], fun h => absurd h h0⟩)
 clear Rz hU hfin hgb hgA hblt
 go_wp2
 go_ret
 obtain ⟨ks, hks⟩ := Ri.out
 exact ⟨e2, A2, m2, Z_, ks, rfl, ⟨h2, c2, Sv.out, hl2, hb2, fun h => (hks h).1⟩, Rf.out, fun h => ⟨rfl, (hks h).2⟩⟩
def Ty (b : Nat) (P Q G e0 : Int) (w : World) (e : Ending) (w' : World) : Prop :=
 ∃ (e1 x : Int), e = .returned (.int .i64 x) ∧ gp w' b P Q G e1 ∧ w.grownBy w' (some b) ∧ (e1 = 0 → e0 = 0) ∧ 0 ≤ x ∧ x < Q
theorem LF {h : List Int} {c Q : Int} (hl : Hid (h.length = 32)) (hb : Hid (aH h = true)) (hdr : Hid (zx c = true)) (hq1 : 1 ≤ Q) (hq2 : Q < 2305843009213693952) :
  ∃ (hh : List Int) (cc n ee : Int), (∀ w : World, Hid (bX w) → Calls Tryz.prog 112 #[.agg (aT h c), .int .i64 Q] w (Rt w (PZ hh cc n ee))) ∧ hh.length = 32 ∧ aH hh = true ∧ (ee = 0 → zx cc = true) ∧ 0 ≤ n ∧ n < Q := by
 obtain ⟨nr, hnr⟩ : ∃ z, gQ h Q (jb Q) 256 c 0 = z := ⟨_, rfl⟩
 obtain ⟨n, rc, f⟩ := nr
 have Je : 0 ≤ c ∧ c ≤ 1099511627776 := by have h := hdr.out; simpa [zx] using h
 have h1 := uo (h := h) (q := Q) (m := jb Q) 256 c 0 Je.2
 have h2 := yt (h := h) (m := jb Q) hq1 256 c 0 (Int.le_refl _)
 rw [hnr] at h1 h2
 cases f with
 | false => exact ⟨h, rc, n, 0, fun w hv => wW h hl hb c hdr Q hq1 hq2 n rc false ⟨hnr⟩ h rc 0 (aa rfl) hl w hv, hl.out, hb.out, fun _ => by have h1a : c ≤ rc := h1.1; have h1b : rc ≤ 1099511627776 := h1.2; simp [zx]; omega, h2⟩
 | true => exact ⟨aZ 32, 0, n, 5, fun w hv => wW h hl hb c hdr Q hq1 hq2 n rc true ⟨hnr⟩ (aZ 32) 0 5 (aa rfl) (aa rfl) w hv, rfl, by decide, fun h => by omega, h2⟩
theorem mM (P Q G : Int) (b : Nat) (e0 : Int) (hq1 : 1 ≤ Q) (hq2 : Q < 2305843009213693952) (w : World) (hv : Hid (bX w)) (hS : Hid (gp w b P Q G e0)) :
  Calls Tryz.prog 72 #[.pointer (some ⟨b, 0, none⟩)] w (Ty b P Q G e0 w) := by
 by_cases he : e0 = 0
 case neg =>
  obtain ⟨e1, e2⟩ := hS.out.ce
  have d0 : (e0 != 0) = true := by simp [he]
  go_in
  go_wp2
  go_ret
  exact ⟨e0, 0, rfl, hS.out, aC (Below.refl _ _) _, fun h => h, by omega, by omega⟩
 subst he
 obtain ⟨h, c, Nr, hl, hb, hdr⟩ := hS.out
 have sF := aa Nr
 have HL := aa hl
 have HB := aa hb
 have HDR := aa (hdr rfl)
 clear Nr hl hb hdr hS
 obtain ⟨h2, c2, x2, e2, hcall, hl2, hb2, hfin, x0, x1⟩ := LF HL HB HDR hq1 hq2
 have NF := aa hcall
 clear hcall
 obtain ⟨e1, e3⟩ := sF.out.ce HL.out
 go_in
 go_upto_region 4 with (fail)
 clear e1 e3
 refine BK (fun _ => True) [] (aa trivial) (fun hT => ?_)
 have hO : Hid (∀ u : World, Hid True → True) := aa (fun _ _ => trivial)
 refine aQ 0 ?_
 refine aQ 1 ?_
 refine jq (S := fun u => Hid (Below w.heap.size w u)) (E := [12, 13, 14, 15, 16, 17, 18, 19, 20, 21, 22]) _ _ _ _ ?_
 clear hO
 have hHeld : Hid (Below w.heap.size w w.drew) := aa ((Below.refl _ _).drew)
 have hO : Hid (∀ u : World, Hid (Below w.heap.size w u) → (u.cell? ⟨b, 1, none⟩ = some (.int .i64 Q) ∧ u.cell? ⟨b, 36, none⟩ = some (.int .i64 0))) := aa (fun u hu => ⟨((sF.out.below hu.out).c0 HL.out).2.1, ((sF.out.below hu.out).ce HL.out).1⟩)
 refine aQ 2 ?_
 refine aQ 3 ?_
 refine aQ 4 ?_
 refine UD 5 (.agg (aT h c)) rfl (mE 34 _ rfl b 3 rfl (aT h c).toList _ (fun u hu => (sF.out.below hu.out).range HL.out) Tryz.underlying34 rfl (mX HL.out)) ?_
 refine aX 6 7 8 9 ?_
 refine aQ 10 ?_
 refine dO 11 fun K hK => ?_
 go_simp
 refine (NF.out _ (aa (hv.out.below hHeld.out))).mono ?_
 rintro e wA ⟨rfl, bA⟩
 rw [show PZ h2 c2 x2 e2 = .tuple #[.agg (aT h2 c2), .int .i64 x2, .int .i64 e2] from rfl]
 refine hK.out _ _ (cZ hHeld bA) (fun hHeld => ?_)
 clear hK K hO bA NF
 refine qy (fun _ => Hid True) [] ?_
 have hO : Hid (∀ u : World, Hid True → True) := aa (fun _ _ => trivial)
 refine aX 12 13 14 15 ?_
 refine aQ 16 ?_
 refine aQ 17 ?_
 have KQ := sF.out.below hHeld.out
 have qw := aa (KQ.put HL.out (h' := h2) (c' := c2) hl2)
 refine dO 18 fun K hK => ?_
 rw [show (if Region.wanted _ _ = true then _ else _ : Prop) = _ from if_pos rfl]
 refine wp_store_mid 34 _ _ rfl b 3 (aT h2 c2) rfl rfl (by rw [jr hl2]; exact KQ.there HL.out) (aK hl2) (bg _ _) ?_
 refine hK.out _ _ (aa trivial) (fun _ => ?_)
 clear hK K
 refine aQ 19 ?_
 refine aQ 20 ?_
 refine aQ 21 ?_
 have hgb := jW (aC hHeld.out (some b)) (aT h2 c2).toList 3
 obtain ⟨U, hU⟩ : ∃ u, wA.setCells b 3 (aT h2 c2).toList = u := ⟨_, rfl⟩
 rw [hU] at qw hgb ⊢
 obtain ⟨p1, p2⟩ := qw.out.ce hl2
 refine dO 22 fun K hK => ?_
 go_simp
 refine hK.out _ _ (aa trivial) (fun _ => ?_)
 clear hK K
 refine jf ?_
 clear hO p1 p2
 have Sv := aa (qw.out.setE hl2 e2)
 have Rf := aa (ax hgb (eF b 36 (.int .i64 e2)))
 obtain ⟨U2, Rz⟩ : ∃ u, U.setCell ⟨b, 36, none⟩ (.int .i64 e2) = u := ⟨_, rfl⟩
 rw [Rz] at Sv Rf ⊢
 have qo := aa hfin
 clear Rz hU hfin hgb
 go_wp2
 go_ret
 exact ⟨e2, x2, rfl, ⟨h2, c2, Sv.out, hl2, hb2, qo.out⟩, Rf.out, fun _ => rfl, x0, x1⟩
theorem Av {α : Type _} (f : α → List Value) (s : Nat) (d : α) : ∀ (l : List α) (k r : Nat), (∀ x ∈ l, (f x).length = s) → r < s → k < l.length → (l.flatMap f)[k * s + r]? = (f (l.getD k d))[r]?
 | [], k, r, _, _, hk => absurd hk (by simp)
 | c :: cs, 0, r, h, hr, _ => by
  rw [List.flatMap_cons, Nat.zero_mul, Nat.zero_add, List.getElem?_append_left (by rw [h c (List.mem_cons_self ..)]; exact hr)]
  rfl
 | c :: cs, k + 1, r, h, hr, hk => by
  have hc := h c (List.mem_cons_self ..)
  rw [List.flatMap_cons, List.getElem?_append_right (by rw [hc, Nat.succ_mul]; omega)]
  rw [show (k + 1) * s + r - (f c).length = k * s + r by rw [hc, Nat.succ_mul]; omega]
  rw [Av f s d cs k r (fun x hx => h x (List.mem_cons_of_mem _ hx)) hr (by simpa using hk)]
  rfl
theorem BU {α : Type _} (f : α → List Value) (s : Nat) (d : α) {w : World} {base n : Nat} {T : TypeId} {v : Value} {l : List α} (h : w.ownsRow base T s v n (l.flatMap f)) (hn : l.length = n) (hl : ∀ x ∈ l, (f x).length = s) (h0 : 0 < n) :
  ∃ g cap, v = .slice (some ⟨g, 0, none⟩) n cap ∧ base ≤ g ∧ g < w.heap.size ∧ n ≤ cap ∧ (∀ j, w.frozen? ⟨g, j, none⟩ = false) ∧ ∀ k, k < n → ∀ r, r < s → w.cell? ⟨g, k * s + r, none⟩ = (f (l.getD k d))[r]? := by
 rcases h.2 with ⟨_, h3⟩ | ⟨g, cap, cur, rfl, hg, hh, hc, _, hs, ht⟩
 · omega
 ·
  refine ⟨g, cap, rfl, hg, (Array.getElem?_eq_some_iff.1 hh).1, hc, fun j => aS hh j, fun k hk r hr => ?_⟩
  have h1 : k * s + r < n * s := by
   have : (k + 1) * s ≤ n * s := Nat.mul_le_mul_right s hk
   rw [Nat.succ_mul] at this; omega
  rw [aj hh, ← Array.getElem?_toList, ← Av f s d l k r hl hr (by omega), ← ht, List.getElem?_take_of_lt h1]
def kW (g : Option Nat) (n : Nat) (w : World) (t : TT) : Prop := ∀ u : World, (∀ k, n ≤ k → k < w.heap.size → g ≠ some k → u.heap[k]? = w.heap[k]?) → bI u t
theorem kW.mono {g : Option Nat} {n m : Nat} {w : World} {t : TT} (h : kW none n w t) (hm : m ≤ n) (hg : ∀ k, g = some k → k < n) : kW g m w t := fun u hu => h u (fun k h1 h2 _ => hu k (by omega) h2 (fun e => by have := hg k e; omega))
theorem kW.step {g g2 : Option Nat} {n : Nat} {w w2 : World} {t : TT} (h : kW g n w t) (ha : ∀ k, n ≤ k → k < w.heap.size → g ≠ some k → w2.heap[k]? = w.heap[k]?) (hz : w.heap.size ≤ w2.heap.size) (hg : ∀ k, g2 = some k → g = some k ∨ w.heap.size ≤ k) : kW g2 n w2 t := fun u hu => h u (fun k h1 h2 h3 => (hu k h1 (by omega) (fun e => by rcases hg k e with h4 | h4; exact h3 h4; omega)).trans (ha k h1 h2 h3))
theorem kW.gb {g : Option Nat} {n b : Nat} {w w2 : World} {t : TT} (h : kW g n w t) (hg : w.grownBy w2 (some b)) (hb : b < n) : kW g n w2 t :=
 h.step (fun k h1 h2 _ => hg.block k h2 (fun e => by injection e with e; omega)) hg.size (fun k e => .inl e)
theorem kW.setRow {g : Option Nat} {n b : Nat} {w : World} {t : TT} (h : kW g n w t) (hb : b < n) (cs : Array Value) : kW g n (w.setRow b cs) t :=
 h.step (fun k h1 _ _ => setRow_other _ _ _ _ (by omega)) (by rw [setRow_size]; exact Nat.le_refl _) (fun k e => .inl e)
theorem gp.agree {w w' : World} {b : Nat} {P Q G e : Int} (H : gp w b P Q G e) (h : w'.heap[b]? = w.heap[b]?) : gp w' b P Q G e := by
 obtain ⟨l, c, h1, h2⟩ := H
 exact ⟨l, c, h.trans h1, h2⟩
theorem dx {n b : Nat} {W w u : World} (hB : Hid (Below n W w)) (hn : n ≤ b) (hw : W.heap.size = n) (hg : w.grownBy u (some b)) : Hid (Below n W u) := aa
 ⟨hg.os.trans hB.out.os, hg.tape.trans hB.out.tape, hg.output.trans hB.out.output, Nat.le_trans hB.out.size hg.size, fun k hk => (hg.block k (Nat.lt_of_lt_of_le hk (by rw [← hw]; exact hB.out.size)) (fun e => by injection e with e; omega)).trans (hB.out.block k hk)⟩
theorem Sl.agree {w u : World} {A : Option Addr} {xs : List Int} (h : Sl w A xs) (ha : ∀ b o, A = some ⟨b, o, none⟩ → 0 < xs.length → u.heap[b]? = w.heap[b]?) : Sl u A xs := fun k hk => by
 obtain ⟨b, o, e, hc⟩ := h k hk
 exact ⟨b, o, e, (World.cell?_of_block (ha b o e (by omega))).trans hc⟩
theorem MC {P Q G : Int} {ys : List Int} {rows : List Row} {ls : List Int} {c : Int} (h1 : aP P Q G ys rows = true) (h2 : ls.length = aU rows) (h3 : ls.all (cu Q) = true) (hc0 : 0 ≤ c) (hc1 : c < Q) : p9 P Q G ys rows ls [c] = 0 := by
 unfold p9
 rw [if_pos h1, if_pos h2, if_pos h3, if_pos (by simp [cu]; omega)]
theorem gW {w u : World} {b g : Nat} {o : Obj} (h : w.grownBy u (some b)) (hne : g ≠ b) (hg : w.heap[g]? = some o) : u.heap[g]? = some o :=
 (h.block g (Array.getElem?_eq_some_iff.1 hg).1 (fun e => hne (by injection e with e))).trans hg
theorem qA (w : World) (o1 o2 o3 : Obj) : ∃ w0, Hid (((w.alloc o1).alloc o2).alloc o3 = w0) ∧ Below w.heap.size w w0 ∧ w0.heap.size = w.heap.size + 3 ∧ w0.heap[w.heap.size]? = some o1 ∧ w0.heap[w.heap.size + 1]? = some o2 ∧ w0.heap[w.heap.size + 2]? = some o3 := by
 have e1 : (w.alloc o1).heap.size = w.heap.size + 1 := by simp
 have e2 : ((w.alloc o1).alloc o2).heap.size = w.heap.size + 2 := by simp
 have b1 := ai w o1
 have b2 := ai (w.alloc o1) o2
 have b3 := ai ((w.alloc o1).alloc o2) o3
 have h1 := heap_alloc_new w o1
 have h2 := heap_alloc_new (w.alloc o1) o2
 have h3 := heap_alloc_new ((w.alloc o1).alloc o2) o3
 rw [e1] at h2
 rw [e2] at h3
 refine ⟨_, aa rfl, af (af b1 b2) b3, by simp, ?_, ?_, h3⟩
 · exact (b3.block _ (by omega)).trans ((b2.block _ (by omega)).trans h1)
 · exact (b3.block _ (by omega)).trans h2
theorem bE : (Tryz.prog.info? 39).map (·.size) = some 5 := by kernel_rfl
theorem Og : (Tryz.prog.info? 36).map (·.size) = some 3 := by kernel_rfl
def qg (P Q G : Int) (b : Nat) (f : FT) (c e0 : Int) (w : World) (e : Ending) (w' : World) : Prop :=
 ∃ (e1 : Int) (t : TT), e = .returned (tV t) ∧ gp w' b P Q G e1 ∧ w.grownBy w' (some b) ∧ (e1 = 0 → e0 = 0 ∧ t.c = c ∧ f.acc P Q t ∧ kW none w.heap.size w' t)
abbrev iU (c : Int) (A : Option Addr) (na ca : Nat) (pc : Int) (Z : Option Addr) (nz cz : Nat) (L : Option Addr) (ln lc : Nat) : Array Value := #[.int .i64 c, .slice A na ca, .int .i64 pc, .slice Z nz cz, .slice L ln lc]
theorem lD {b g : Nat} (hg : g ≠ b) : ∀ (vs : List Value) (o : Nat) {w : World}, (w.setCells b o vs).heap[g]? = w.heap[g]?
 | [], _, _ => rfl
 | v :: r, o, w => (lD hg r (o + 1)).trans (Go.Deep.blk_setCell_other _ _ _ _ hg)
theorem oV {b : Nat} : ∀ (vs : List Value) (o : Nat) {w : World}, (w.setCells b o vs).heap.size = w.heap.size
 | [], _, _ => rfl
 | v :: r, o, w => (oV r (o + 1)).trans (World.size_setCell _ _ _)
theorem lZ {w w1 : World} {r : Option Nat} {b : Nat} (h : w.grownBy w1 r) (hb : w.heap.size ≤ b) (vs : List Value) (o : Nat) : w.grownBy (w1.setCells b o vs) r := by
 have h2 := jW (aC (Below.refl w1.heap.size w1) (some b)) vs o
 exact ⟨h2.os.trans h.os, h2.tape.trans h.tape, h2.output.trans h.output, Nat.le_trans h.size h2.size, fun k hk hne => (lD (by omega) _ _).trans (h.block k hk hne)⟩
theorem dP (c : Int) (A : Option Addr) (na ca : Nat) (pc : Int) (Z : Option Addr) (nz cz : Nat) (L : Option Addr) (ln lc : Nat) : (iU c A na ca pc Z nz cz L ln lc).all (·.oneCell') = true := by
 simp only [iU, List.all_toArray, List.all_cons, List.all_nil]
 rfl
theorem EX (P Q G : Int) (hG : Hid (aJ P Q G = true)) (W0 : World) (b : Nat) (iG : W0.heap.size ≤ b) (hv : Hid (Vars W0)) (hd : Hid (bX W0)) (f : FT) (c e0 : Int) (hc0 : 0 ≤ c) (hc1 : c < Q) (w : World) (hB : Hid (Below W0.heap.size W0 w)) (hF : Hid (dU W0 f)) (hS : Hid (gp w b P Q G e0)) (hk : f.kind = 1) (ha : f.at_ P Q G) (hl : f.l = []) :
  Calls Tryz.prog 71 #[.pointer (some ⟨b, 0, none⟩), fV f, .int .i64 c] w (qg P Q G b f c e0 w) := by
 obtain ⟨p1, p2, p3, p4⟩ := aM hG.out
 have hblt := hS.out.lt
 have kr := VF.rel ha hk
 have HU := aa (fun u hF => mU P Q G f.dp f u (Nat.le_refl _) hF ha)
 have hun : f.unk = aU f.rows := by rw [f.unk_eq, if_pos hk]
 rw [hun] at HU
 have h12 := (ak kr).2.2.2.2.2.2.1
 have qx := aa (fun t => f.acc_eq (P := P) (Q := Q) t)
 obtain ⟨acc, hacc⟩ : ∃ z, FT.acc P Q f = z := ⟨_, rfl⟩
 unfold qg
 rw [hacc] at qx ⊢
 clear hacc ha hun
 obtain ⟨kind, Y, yn, yc, ys, B, bn, bc, rows, L, ln, lc, l⟩ := f
 obtain ⟨hyn, hbn, hln, hlb⟩ := hF.out.lens
 dsimp only at hk kr HU h12 qx hyn hbn hln hlb hl
 subst hk
 obtain rfl : bn = yn := by rw [← hyn, ← hbn]; exact (ak kr).2.2.2.1
 obtain ⟨nu, hnu⟩ : ∃ z, aU rows = z := ⟨_, rfl⟩
 rw [hnu] at HU h12
 obtain ⟨w0, HW, hbw, hsz, m0, m1, m2⟩ := qA w (fO 1 Y bn yc B bn bc L ln lc) (tO 0 none 0 0 0 none 0 0 none 0 0) (tO c none 0 0 0 none 0 0 none 0 0)
 have av := aa hbw
 have hS0 := hS.out.below hbw
 go_in
 go_upto_region 2 with (fail)
 rw [show ((w.alloc (fO 1 Y bn yc B bn bc L ln lc)).alloc (tO 0 none 0 0 0 none 0 0 none 0 0)).alloc (tO c none 0 0 0 none 0 0 none 0 0) = w0 from HW.out]
 have c0 : w0.cell? ⟨w.heap.size, 0, none⟩ = some (.int .i64 1) := aj m0 0
 have c1 : w0.cell? ⟨w.heap.size, 1, none⟩ = some (.slice Y bn yc) := aj m0 1
 have c2 : w0.cell? ⟨w.heap.size, 2, none⟩ = some (.slice B bn bc) := aj m0 2
 have c3 : w0.cell? ⟨w.heap.size, 3, none⟩ = some (.slice L ln lc) := aj m0 3
 have HB0 := cZ hB hbw
 have kF := aa (fun (u : World) (h : Hid (Below W0.heap.size W0 u)) => aa (hF.out.below h.out))
 have kV := aa (fun (u : World) (h : Hid (Below W0.heap.size W0 u)) => aa (hv.out.below h.out))
 have kD := aa (fun (u : World) (h : Hid (Below W0.heap.size W0 u)) => aa (hd.out.below h.out))
 have nE := aa hS0
 have M := aa (And.intro m0 (And.intro m1 m2))
 have HN := aa (And.intro p1 (And.intro p2 (And.intro p3 (And.intro p4 (And.intro hblt hsz)))))
 have hQ : Q < 9223372036854775808 := by omega
 clear hS0 m0 m1 m2 hS hB hbw hF hv hd p1 p2 p3 p4 hblt hsz
 go_wp2_with fail
 refine (HU.out _ (kF.out _ HB0)).mono ?_
 rintro e w1 ⟨rfl, hb1⟩
 have HB1 := cZ HB0 hb1
 have lX := aa (nE.out.below hb1)
 have hg1 := aC hb1 (some b)
 clear c0 c1 c2 c3 hb1 HU
 go_wp2_with fail
 refine (o9 P Q G b e0 nu (by omega) (by have := HN.out; omega) (by have := HN.out; omega) w1 (kD.out _ HB1) lX).mono ?_
 rintro e w2 ⟨e1, A, m, ca, ks, rfl, hp2, hg2, hfin⟩
 have FM := ax hg1 hg2
 have HT : Hid (w2.heap[w.heap.size + 2]? = some (tO c none 0 0 0 none 0 0 none 0 0)) := aa (gW FM (by have := HN.out; omega) M.out.2.2)
 have HR : Hid (w2.heap[w.heap.size + 1]? = some (tO 0 none 0 0 0 none 0 0 none 0 0)) := aa (gW FM (by have := HN.out; omega) M.out.2.1)
 have Wt : Hid (w2.heap[w.heap.size]? = some (fO 1 Y bn yc B bn bc L ln lc)) := aa (gW FM (by have := HN.out; omega) M.out.1)
 have HG2 := aa (ax (aC av.out (some b)) FM)
 have HB2 := dx HB1 iG rfl hg2
 have qw := aa hp2
 have HZ2 := aa FM.size
 obtain ⟨q1, q2⟩ := qw.out.ce
 clear hg1 hg2 FM hp2 M lX nE HB1 HB0
 by_cases he1 : e1 = 0
 case neg =>
  have d1 : (e1 == 0) = false := by simp [he1]
  have Dr := aa he1
  clear hfin he1
  have t0 : w2.cell? ⟨w.heap.size + 1 + 1, 0, none⟩ = some (.int .i64 c) := aj HT.out 0
  have t1 : w2.cell? ⟨w.heap.size + 1 + 1, 1, none⟩ = some (.slice none 0 0) := aj HT.out 1
  have t2 : w2.cell? ⟨w.heap.size + 1 + 1, 2, none⟩ = some (.int .i64 0) := aj HT.out 2
  have t3 : w2.cell? ⟨w.heap.size + 1 + 1, 3, none⟩ = some (.slice none 0 0) := aj HT.out 3
  have t4 : w2.cell? ⟨w.heap.size + 1 + 1, 4, none⟩ = some (.slice none 0 0) := aj HT.out 4
  go_wp2_with (first | ((with_reducible show wpList _ _ _ (⟨none, Op.store _ (Operand.tmp 6) _, _, _, _, _⟩ :: _) _ _); refine wpList_store_row rfl 39 _ _ rfl (w.heap.size + 1) (iU c none 0 0 0 none 0 0 none 0 0) rfl rfl _ _ HR.out bE rfl (dP _ _ _ _ _ _ _ _ _ _ _) ?_) | fail)
  refine bodyPost_ret (v := .agg (iU c none 0 0 0 none 0 0 none 0 0)) (bM (p := 6) (ty := 39) rfl _ _ ⟨w.heap.size + 1, 0, none⟩ _ rfl (run_loadVar_row _ _ _ _ _ _ _ (setRow_heap _ _ _ _ _ _ HR.out) Tryz.underlying39 rfl bE)) rfl ?_
  exact ⟨e1, ⟨c, none, 0, 0, [], 0, none, 0, 0, [], none, 0, 0, []⟩, rfl, qw.out.agree (setRow_other _ _ _ _ (by have := HN.out; omega)), bS HG2.out _ (by omega) _, fun h => absurd h Dr.out⟩
 obtain ⟨f1, rfl, f2, f3, f4, -⟩ := hfin he1
 subst he1
 have HK := aa f4
 have hr := aa (MC (G := G) kr (f2.trans hnu.symm) f3 hc0 hc1)
 have Ns := aa (And.intro f1 (And.intro f2 f3))
 clear f1 f2 f3 f4 hfin hnu kr
 go_upto_region 5 with (fail)
 clear q1 q2
 refine BK (fun _ => True) [] (aa trivial) (fun hT => ?_)
 have hO : Hid (∀ u : World, Hid True → True) := aa (fun _ _ => trivial)
 refine aQ 0 ?_
 refine jq (S := fun u => Hid (Below w2.heap.size w2 u)) (E := [10, 11, 12, 13, 14, 15, 16, 17]) _ _ _ _ ?_
 clear hO
 have hHeld : Hid (Below w2.heap.size w2 w2.drew) := aa ((Below.refl _ _).drew)
 have hO : Hid (∀ u : World, Hid (Below w2.heap.size w2 u) → (u.cell? ⟨b, 0, none⟩ = some (.int .i64 P) ∧ u.cell? ⟨b, 1, none⟩ = some (.int .i64 Q) ∧ u.cell? ⟨b, 2, none⟩ = some (.int .i64 G) ∧ u.cell? ⟨w.heap.size, 1, none⟩ = some (.slice Y bn yc) ∧ u.cell? ⟨w.heap.size, 2, none⟩ = some (.slice B bn bc))) := aa (fun u hu => by
  obtain ⟨z1, z2, z3⟩ := qw.out.c0
  exact ⟨cell_below z1 hu.out, cell_below z2 hu.out, cell_below z3 hu.out, cell_below (aj Wt.out 1) hu.out, cell_below (aj Wt.out 2) hu.out⟩)
 refine aX 1 2 3 4 ?_
 refine aX 5 6 7 8 ?_
 refine dO 9 fun K hK => ?_
 go_simp
 have hu0 := cZ HB2 hHeld.out
 obtain ⟨hS1, hS2⟩ := (kF.out _ hu0).out.rel
 refine (Cg P Q G Y ys yc B rows bn bc c A ks m ca hr hc0 hc1 (aa hyn) (aa hbn) (aa Ns.out.2.1) (by omega) hQ _ (kV.out _ hu0) (aa hS1) (aa hS2) (aa (HK.out.below hHeld.out))).mono ?_
 rintro e wA ⟨g, gc, Z, gd, rfl, hg, hZ, XR, Xz, bA⟩
 refine hK.out _ _ (cZ hHeld bA) (fun hHeld => ?_)
 clear hK K hO hu0 hS1 hS2
 have T_ : Hid (wA.heap[w.heap.size + 2]? = some (tO c none 0 0 0 none 0 0 none 0 0)) := aa ((hHeld.out.block _ (Array.getElem?_eq_some_iff.1 HT.out).1).trans HT.out)
 have Yk : Hid (wA.heap[w.heap.size + 1]? = some (tO 0 none 0 0 0 none 0 0 none 0 0)) := aa ((hHeld.out.block _ (Array.getElem?_eq_some_iff.1 HR.out).1).trans HR.out)
 have KQ := aa (qw.out.below hHeld.out)
 have YE := aa (ax HG2.out (aC hHeld.out (some b)))
 have HZ := aa (And.intro hZ (And.intro XR Xz))
 have Wq : Hid (w2.heap.size ≤ g ∧ ∀ b o, Z = some ⟨b, o, none⟩ → 0 < ks.length → w2.heap.size ≤ b) := aa ⟨hg, fun b o e h => hZ b o e h⟩
 have qj := aa (And.intro HN.out.2.2.2.2.1 (And.intro HN.out.2.2.2.2.2 HZ2.out))
 clear hg hZ XR Xz bA HT HR Wt qw HG2
 refine qy (fun _ => Hid True) [] ?_
 have hO : Hid (∀ u : World, Hid True → True) := aa (fun _ _ => trivial)
 refine aX 10 11 12 13 ?_
 refine dO 14 fun K hK => ?_
 rw [show (if Region.wanted _ _ = true then _ else _ : Prop) = _ from if_pos rfl]
 refine wp_store_mid 36 _ _ rfl (w.heap.size + 2) 1 #[.slice (some ⟨g, 0, none⟩) bn gc, .int .i64 c, .slice Z m gd] rfl rfl (fun j hj => ⟨by rw [aj T_.out, Array.getElem?_eq_getElem (show 1 + j < 5 by have h3 : j < 3 := hj; omega)]; rfl, aS T_.out _⟩) Og (by simp; exact ⟨rfl, rfl, rfl⟩) ?_
 refine hK.out _ _ (aa trivial) (fun _ => ?_)
 clear hK K
 have HT1 : Hid ((wA.setCells (w.heap.size + 2) 1 #[.slice (some ⟨g, 0, none⟩) bn gc, .int .i64 c, .slice Z m gd].toList).heap[w.heap.size + 2]? = some (tO c (some ⟨g, 0, none⟩) bn gc c Z m gd none 0 0)) := aa (qL _ 1 _ _ T_.out)
 have hoth : ∀ k, k ≠ w.heap.size + 2 → (wA.setCells (w.heap.size + 2) 1 #[.slice (some ⟨g, 0, none⟩) bn gc, .int .i64 c, .slice Z m gd].toList).heap[k]? = wA.heap[k]? := fun k hk => lD hk _ _
 have Oz : w.grownBy (wA.setCells (w.heap.size + 2) 1 #[.slice (some ⟨g, 0, none⟩) bn gc, .int .i64 c, .slice Z m gd].toList) (some b) := lZ YE.out (by omega) _ _
 have hsz1 : (wA.setCells (w.heap.size + 2) 1 #[.slice (some ⟨g, 0, none⟩) bn gc, .int .i64 c, .slice Z m gd].toList).heap.size = wA.heap.size := oV _ _
 obtain ⟨U, hU⟩ : ∃ u, wA.setCells (w.heap.size + 2) 1 #[.slice (some ⟨g, 0, none⟩) bn gc, .int .i64 c, .slice Z m gd].toList = u := ⟨_, rfl⟩
 rw [hU] at HT1 hoth hsz1 Oz ⊢
 clear hU
 have lX := aa (KQ.out.agree (hoth b (by have := qj.out; omega)))
 have Qm := aa hoth
 have YD := aa Oz
 have Qj := aa (And.intro hsz1 hHeld.out.size)
 clear hoth Oz hsz1 KQ T_ YE hHeld
 refine aQ 15 ?_
 refine aQ 16 ?_
 obtain ⟨q1, q2⟩ := lX.out.ce
 refine dO 17 fun K hK => ?_
 go_simp
 refine hK.out _ _ (aa trivial) (fun _ => ?_)
 clear hK K
 refine jf ?_
 clear hO q1 q2
 have hne : w.heap.size + 2 ≠ b := by have := qj.out; omega
 have hne1 : w.heap.size + 1 ≠ b := by have := qj.out; omega
 have Ym := aa (lX.out.setE 0 (fun h => h))
 have HT : Hid ((U.setCell ⟨b, 36, none⟩ (.int .i64 0)).heap[w.heap.size + 2]? = some (tO c (some ⟨g, 0, none⟩) bn gc c Z m gd none 0 0)) := aa ((Go.Deep.blk_setCell_other _ _ _ _ hne).trans HT1.out)
 have HR : Hid ((U.setCell ⟨b, 36, none⟩ (.int .i64 0)).heap[w.heap.size + 1]? = some (tO 0 none 0 0 0 none 0 0 none 0 0)) := aa ((Go.Deep.blk_setCell_other _ _ _ _ hne1).trans ((Qm.out _ (by omega)).trans Yk.out))
 have Ul := aa (ax YD.out (eF b 36 (.int .i64 0)))
 have WS : Hid (∀ k, w2.heap.size ≤ k → (U.setCell ⟨b, 36, none⟩ (.int .i64 0)).heap[k]? = wA.heap[k]?) := aa (fun k hk => (Go.Deep.blk_setCell_other _ _ _ _ (show k ≠ b by have := qj.out; omega)).trans (Qm.out k (by have := qj.out; omega)))
 have MV : Hid (U.heap.size = wA.heap.size ∧ w2.heap.size ≤ wA.heap.size ∧ (U.setCell ⟨b, 36, none⟩ (.int .i64 0)).heap.size = U.heap.size) := aa ⟨Qj.out.1, Qj.out.2, by rw [World.size_setCell]⟩
 obtain ⟨wF, hwF⟩ : ∃ u, U.setCell ⟨b, 36, none⟩ (.int .i64 0) = u := ⟨_, rfl⟩
 rw [hwF] at Ym HT HR Ul WS MV ⊢
 clear hwF lX HT1 Qm YD Qj Yk hne hne1
 have t0 : wF.cell? ⟨w.heap.size + 1 + 1, 0, none⟩ = some (.int .i64 c) := aj HT.out 0
 have t1 : wF.cell? ⟨w.heap.size + 1 + 1, 1, none⟩ = some (.slice (some ⟨g, 0, none⟩) bn gc) := aj HT.out 1
 have t2 : wF.cell? ⟨w.heap.size + 1 + 1, 2, none⟩ = some (.int .i64 c) := aj HT.out 2
 have t3 : wF.cell? ⟨w.heap.size + 1 + 1, 3, none⟩ = some (.slice Z m gd) := aj HT.out 3
 have t4 : wF.cell? ⟨w.heap.size + 1 + 1, 4, none⟩ = some (.slice none 0 0) := aj HT.out 4
 go_wp2_with (first | ((with_reducible show wpList _ _ _ (⟨none, Op.store _ (Operand.tmp 6) _, _, _, _, _⟩ :: _) _ _); refine wpList_store_row rfl 39 _ _ rfl (w.heap.size + 1) (iU c (some ⟨g, 0, none⟩) bn gc c Z m gd none 0 0) rfl rfl _ _ HR.out bE rfl (dP _ _ _ _ _ _ _ _ _ _ _) ?_) | fail)
 refine bodyPost_ret (v := .agg (iU c (some ⟨g, 0, none⟩) bn gc c Z m gd none 0 0)) (bM (p := 6) (ty := 39) rfl _ _ ⟨w.heap.size + 1, 0, none⟩ _ rfl (run_loadVar_row _ _ _ _ _ _ _ (setRow_heap _ _ _ _ _ _ HR.out) Tryz.underlying39 rfl bE)) rfl ?_
 refine ⟨0, ⟨c, some ⟨g, 0, none⟩, bn, gc, iX P Q c ys rows ks, c, Z, m, gd, ks, none, 0, 0, []⟩, rfl, Ym.out.agree (setRow_other _ _ _ _ (by have := qj.out; omega)), bS Ul.out _ (by omega) _, fun _ => ⟨Ns.out.1, rfl, ?_, ?_⟩⟩
 ·
  rw [qx.out]
  refine ⟨⟨hc0, hc1⟩, .inl ⟨trivial, rfl, rfl, ?_⟩⟩
  obtain ⟨k1, k2, k3, k4⟩ := yO hr.out
  have k5 : cu Q c = true := by simpa using k4
  simp [bN, bC, k2, k3, k5]
 ·
  refine kW.mono (n := w2.heap.size) (kW.setRow (fun u hu => ?_) (by have := qj.out; omega) _) (by have := qj.out; omega) (fun k e => by cases e)
  obtain ⟨_, XF, hSZ⟩ := HZ.out
  rw [bI]
  refine ⟨⟨by rw [bC]; exact hbn, Ns.out.2.1, rfl, by omega⟩, ?_, ?_, fun k hk => absurd hk (by simp), by rw [xy]; trivial⟩
  ·
   refine XF.agree (fun bb o e h0 => ?_)
   cases e
   have hlt : g < wA.heap.size := by
    obtain ⟨_, _, e2, hc2⟩ := XF 0 h0
    cases e2
    exact World.block_lt_of_cell? _ _ hc2
   exact (hu g Wq.out.1 (by have := MV.out; omega) (by simp)).trans (WS.out g Wq.out.1)
  ·
   refine hSZ.agree (fun bb o e h0 => ?_)
   have hlt : bb < wA.heap.size := by
    obtain ⟨_, _, e2, hc2⟩ := hSZ 0 h0
    rw [e] at e2
    cases e2
    exact World.block_lt_of_cell? _ _ hc2
   have hge := Wq.out.2 bb o e h0
   exact (hu bb hge (by have := MV.out; omega) (by simp)).trans (WS.out bb hge)
abbrev tC (t : TT) : List Value := [.int .i64 t.c, .slice t.A t.na t.ca, .int .i64 t.pc, .slice t.Z t.nz t.cz, .slice t.L t.ln t.lc]
theorem tK : (Tryz.prog.info? 39).map (fun i => (i.zero, i.size, i.bytes)) = some (some (.agg #[.int .i64 0, .slice none 0 0, .int .i64 0, .slice none 0 0, .slice none 0 0]), 5, 88) := by kernel_rfl
theorem tN (l : List TT) : ∀ u ∈ l.flatMap tC, u.oneCell' = true := fun u hu => by
 obtain ⟨t, _, ht⟩ := List.mem_flatMap.1 hu
 simp at ht
 rcases ht with rfl | rfl | rfl | rfl | rfl <;> rfl
def fq (w : World) (base : Nat) (v : Value) (ts : List TT) : Prop := w.ownsRow base 39 5 v ts.length (ts.flatMap tC)
theorem fq.agree {w w' : World} {B : Nat} {v : Value} {ts : List TT} (h : fq w B v ts) (ha : ∀ g, v.ownBlock = some g → w'.heap[g]? = w.heap[g]?) : fq w' B v ts := by
 obtain ⟨h1, h2⟩ := h
 refine ⟨h1, h2.imp id ?_⟩
 rintro ⟨g, cap, cur, rfl, hg, hh, rest⟩
 exact ⟨g, cap, cur, rfl, hg, (ha g rfl).trans hh, rest⟩
theorem fq.lt {w : World} {B : Nat} {v : Value} {ts : List TT} (h : fq w B v ts) (g : Nat) (e : v.ownBlock = some g) : B ≤ g ∧ g < w.heap.size := World.ownsRow.lt h g e
theorem fq.form {w : World} {B : Nat} {v : Value} {ts : List TT} (h : fq w B v ts) : ∃ A cap, v = .slice A ts.length cap := by
 rcases h.2 with ⟨rfl, e⟩ | ⟨g, cap, cur, rfl, _⟩
 · exact ⟨none, 0, by rw [e]⟩
 · exact ⟨_, _, rfl⟩
theorem y8 {w : World} : ∀ {l : List TT}, (∀ k, k < l.length → bI w (l.getD k noT)) → xy w l
 | [], _ => by rw [xy]; trivial
 | t :: l, h => by
  rw [xy]
  exact ⟨by have := h 0 (by simp); rwa [List.getD_cons_zero] at this, y8 fun k hk => by have := h (k + 1) (by simpa using hk); rwa [List.getD_cons_succ] at this⟩
theorem fq.tls {w : World} {B : Nat} {A : Option Addr} {n cap : Nat} {ts : List TT} (h : fq w B (.slice A n cap) ts) (hn : ts.length = n) : RV w A ts := fun k hk => by
 obtain ⟨g, c2, e, _, _, _, _, hc⟩ := BU tC 5 noT h rfl (fun _ _ => rfl) (by omega)
 injection e with e1
 subst e1
 have h0 := hc k hk 0 (by decide)
 have h1 := hc k hk 1 (by decide)
 have h2 := hc k hk 2 (by decide)
 have h3 := hc k hk 3 (by decide)
 have h4 := hc k hk 4 (by decide)
 refine ⟨g, 0, rfl, ?_, ?_, ?_, ?_, ?_⟩
 · rw [Nat.zero_add]; exact h0
 · rw [Nat.zero_add]; exact h1
 · rw [Nat.zero_add]; exact h2
 · rw [Nat.zero_add]; exact h3
 · rw [Nat.zero_add]; exact h4
theorem Vz (t : TT) (n : Nat) (hn : n = 5) : Instr.fill (fun i => some (i * n, n)) ((Array.range (1 * n)).map ((Value.agg #[.int .i64 0, .slice none 0 0, .int .i64 0, .slice none 0 0, .slice none 0 0]).cells[· % (Value.agg #[.int .i64 0, .slice none 0 0, .int .i64 0, .slice none 0 0, .slice none 0 0]).cells.size]!)) [(0, tV t)] = some #[.int .i64 t.c, .slice t.A t.na t.ca, .int .i64 t.pc, .slice t.Z t.nz t.cz, .slice t.L t.ln t.lc] := by
 subst hn
 kernel_rfl
theorem GX {P : Program} {o : Oper} {a : Act} {w : World} {K : Act → World → Prop} {Q : Exit → Act → World → Prop} (t e : TypeId) (x : Operand) (ho : o.op = .buildSlice t 1 #[(0, x)]) (T : TT) (ie : TypeInfo) (hu : P.underlying t = some (.slice e)) (hie : P.info? e = some ie)
  (hz : ie.zero = some (.agg #[.int .i64 0, .slice none 0 0, .int .i64 0, .slice none 0 0, .slice none 0 0])) (hs : ie.size = 5) (hx : a.eval x = tV T)
  (h : K (a.put o.dst (.slice (some ⟨w.heap.size, 0, none⟩) 1 1)) (w.alloc (.cells #[.int .i64 T.c, .slice T.A T.na T.ca, .int .i64 T.pc, .slice T.Z T.nz T.cz, .slice T.L T.ln T.lc] e))) : o.wp P a w K Q := by
 refine wp_buildSlice t e 1 _ ho _ ie _ hu hie hz (by rw [hs]; decide) (by rw [hs]; decide) ?_ h
 have e1 : ((#[(0, x)] : Array (Nat × Operand)).map fun (i, x) => (i, a.eval x)).toList = [(0, a.eval x)] := by simp
 rw [e1, hx]
 exact Vz T _ hs
def J_ (P Q c : Int) (f : FT) (k : Nat) (lf : Int) (ts : List TT) (g : Option Nat) (n0 : Nat) (w : World) : Prop :=
 (∀ j, j < k → (f.l.getD j aY).acc P Q (ts.getD j noT) ∧ kW g n0 w (ts.getD j noT) ∧ (f.kind = 2 → (ts.getD j noT).c = c)) ∧ (f.kind ≠ 2 → (fu Q ts + lf) % Q = c ∧ (k = f.l.length → lf = 0))
theorem G9 {Q : Int} (l : List TT) (t : TT) : fu Q (l ++ [t]) = (fu Q l + t.c) % Q := by simp [fu, List.foldl_append]
theorem uJ {α : Type _} {l : List α} {x d : α} {j : Nat} (h : j < (l ++ [x]).length) : (l ++ [x]).getD j d = if j < l.length then l.getD j d else x := by
 by_cases hj : j < l.length
 · rw [if_pos hj, List.getD_eq_getElem?_getD, List.getElem?_append_left hj, ← List.getD_eq_getElem?_getD]
 ·
  rw [if_neg hj]
  rw [List.length_append, List.length_singleton] at h
  obtain rfl : j = l.length := by omega
  simp
theorem J_.next {P Q c : Int} {f : FT} {k : Nat} {lf lf2 x : Int} {ts : List TT} {t : TT} {g g2 : Option Nat} {n0 : Nat} {w w2 : World} (h : J_ P Q c f k lf ts g n0 w) (hk : ts.length = k) (hkl : k < f.l.length)
  (hx : t.c = x) (ha : (f.l.getD k aY).acc P Q t) (h2 : f.kind = 2 → x = c) (h3 : f.kind ≠ 2 → (lf2 + x) % Q = lf % Q ∧ (k + 1 = f.l.length → lf2 = 0))
  (hkp : ∀ s, kW g n0 w s → kW g2 n0 w2 s) (ht : kW g2 n0 w2 t) : J_ P Q c f (k + 1) lf2 (ts ++ [t]) g2 n0 w2 := by
 obtain ⟨a1, a2⟩ := h
 refine ⟨fun j hj => ?_, fun hk2 => ⟨?_, (h3 hk2).2⟩⟩
 ·
  rw [uJ (by rw [List.length_append, List.length_singleton]; omega)]
  by_cases hjk : j < ts.length
  ·
   rw [if_pos hjk]
   obtain ⟨b1, b2, b3⟩ := a1 j (by omega)
   exact ⟨b1, hkp _ b2, b3⟩
  ·
   rw [if_neg hjk]
   obtain rfl : j = k := by omega
   exact ⟨ha, ht, fun e => by rw [hx, h2 e]⟩
 ·
  rw [G9, hx]
  have e1 := (h3 hk2).1
  have e2 := (a2 hk2).1
  rw [← e2, Int.emod_add_emod, Int.add_assoc, ← Int.add_emod_emod, Int.add_comm x lf2, e1, Int.add_emod_emod]
theorem J_.done {P Q c : Int} {f : FT} {lf : Int} {ts : List TT} {A : Option Addr} {cap n0 : Nat} {w : World} (h : J_ P Q c f f.l.length lf ts (Value.ownBlock (.slice A ts.length cap)) n0 w) (hl : ts.length = f.l.length) (h1 : f.kind ≠ 1) (hc0 : 0 ≤ c) (hc1 : c < Q) (h0 : 1 ≤ f.l.length) (h8 : f.l.length ≤ 8)
  (hO : fq w n0 (.slice A ts.length cap) ts) : f.acc P Q ⟨c, none, 0, 0, [], 0, none, 0, 0, [], A, ts.length, cap, ts⟩ ∧ kW none n0 w ⟨c, none, 0, 0, [], 0, none, 0, 0, [], A, ts.length, cap, ts⟩ := by
 obtain ⟨a1, a2⟩ := h
 refine ⟨?_, fun u hu => ?_⟩
 ·
  rw [f.acc_eq]
  refine ⟨⟨hc0, hc1⟩, .inr ⟨h1, ⟨rfl, rfl, rfl⟩, hl, fun k hk => (a1 k hk).1, fun e k hk => (a1 k hk).2.2 e, ?_⟩⟩
  by_cases h2 : f.kind = 2
  · exact .inl h2
  ·
   refine .inr ?_
   obtain ⟨b1, b2⟩ := a2 h2
   rw [b2 rfl, Int.add_zero] at b1
   show fu Q ts = c
   have e := jg (Q := Q) (l := ts) (k := ts.length - 1) (by omega)
   rw [show ts.length - 1 + 1 = ts.length by omega, List.take_length] at e
   rw [e, Int.emod_emod_of_dvd _ (Int.dvd_refl Q), ← e] at b1
   exact b1
 ·
  rw [bI]
  have hag : fq u n0 (.slice A ts.length cap) ts := hO.agree (fun g e => hu g (hO.lt g e).1 (hO.lt g e).2 (by simp))
  refine ⟨⟨rfl, rfl, rfl, by omega⟩, fun k hk => absurd hk (by simp), fun k hk => absurd hk (by simp), hag.tls rfl, y8 fun k hk => ?_⟩
  exact (a1 k (by omega)).2.1 u (fun j h1 h2 _ => hu j h1 h2 (by simp))
theorem mR {w w1 w2 : World} {b : Nat} {r : Option Nat} (h1 : w.grownBy w1 (some b)) (h2 : w1.grownBy w2 r) (hr : ∀ g, r = some g → w.heap.size ≤ g) : w.grownBy w2 (some b) :=
 ⟨h2.os.trans h1.os, h2.tape.trans h1.tape, h2.output.trans h1.output, Nat.le_trans h1.size h2.size, fun k hk hne => (h2.block k (Nat.lt_of_lt_of_le hk h1.size) (fun e => by have := hr k e.symm; omega)).trans (h1.block k hk hne)⟩
theorem dh {w w1 : World} {r : Option Nat} {b j : Nat} (h : w.grownBy w1 r) (hb : w.heap.size ≤ b) (v : Value) : w.grownBy (w1.setCell ⟨b, j, none⟩ v) r := lZ h hb [v] j
theorem EW (P Q G : Int) (hG : Hid (aJ P Q G = true)) (W0 : World) (b : Nat) (iG : W0.heap.size ≤ b) (hv : Hid (Vars W0)) (hd : Hid (bX W0)) (f : FT) (c e0 : Int) (hc0 : 0 ≤ c) (hc1 : c < Q) (w : World) (hB : Hid (Below W0.heap.size W0 w)) (hF : Hid (dU W0 f)) (hS : Hid (gp w b P Q G e0)) (hs : f.sh) (hk : f.kind ≠ 1)
  (ih : Hid (∀ k, k < f.l.length → ∀ (c e0 : Int) (u : World), 0 ≤ c → c < Q → Hid (Below W0.heap.size W0 u) → Hid (gp u b P Q G e0) → Calls Tryz.prog 71 #[.pointer (some ⟨b, 0, none⟩), fV (f.l.getD k aY), .int .i64 c] u (qg P Q G b (f.l.getD k aY) c e0 u))) :
  Calls Tryz.prog 71 #[.pointer (some ⟨b, 0, none⟩), fV f, .int .i64 c] w (qg P Q G b f c e0 w) := by
 obtain ⟨p1, p2, p3, p4⟩ := aM hG.out
 have hblt := hS.out.lt
 obtain ⟨Co, hl1, Ak⟩ : (f.kind = 2 ∨ f.kind = 3) ∧ 1 ≤ f.l.length ∧ f.l.length ≤ 8 := by
  rcases f.sh_eq.1 hs with ⟨h, _⟩ | ⟨h, _, _, h2, _⟩
  · exact absurd h hk
  · exact ⟨h, h2.1, h2.2⟩
 clear hs
 have ng := aa (fun (lf : Int) (ts : List TT) (A : Option Addr) (cap n0 : Nat) (w : World) (h : J_ P Q c f f.l.length lf ts (Value.ownBlock (.slice A ts.length cap)) n0 w) (hl : ts.length = f.l.length) (hO : fq w n0 (.slice A ts.length cap) ts) => h.done hl hk hc0 hc1 hl1 Ak hO)
 have HSG : Hid (∀ (k : Nat) (lf : Int) (ts : List TT) (g : Option Nat) (n0 : Nat) (w : World), J_ P Q c f k lf ts g n0 w = J_ P Q c f k lf ts g n0 w) := aa (fun _ _ _ _ _ _ => rfl)
 obtain ⟨sg, hsg⟩ : ∃ z, J_ P Q c f = z := ⟨_, rfl⟩
 have lY := aa (fun (k : Nat) (lf lf2 x : Int) (ts : List TT) (t : TT) (g g2 : Option Nat) (n0 : Nat) (w w2 : World) (h : J_ P Q c f k lf ts g n0 w) (h1) (h2) (h3) (h4) (h5) (h6) (h7) (h8) => J_.next (lf2 := lf2) (x := x) (t := t) (g2 := g2) (w2 := w2) h h1 h2 h3 h4 h5 h6 h7 h8)
 have QZ : ∀ n0 u, sg 0 c [] none n0 u := fun n0 u => by
  rw [← hsg]
  exact ⟨fun j hj => absurd hj (by omega), fun _ => ⟨by simp [fu]; exact Int.emod_eq_of_lt hc0 hc1, fun e => by omega⟩⟩
 have xG := aa (fun (b' : Nat) (XX : Int) (u : World) (e : Ending) (w' : World) => (Iff.rfl : qg P Q G b' f c XX u e w' ↔ qg P Q G b' f c XX u e w'))
 unfold qg at xG ⊢
 obtain ⟨acc, hacc⟩ : ∃ z, FT.acc P Q f = z := ⟨_, rfl⟩
 rw [hsg] at ng lY
 rw [hacc] at ng ⊢
 clear HSG xG hsg hacc
 obtain ⟨kind, Y, yn, yc, ys, B, bn, bc, rows, L, ln, lc, l⟩ := f
 obtain ⟨hyn, hbn, hln, hlb⟩ := hF.out.lens
 dsimp only at hk Co hl1 Ak hyn hbn hln hlb ng lY ih
 obtain ⟨w0, HW, hbw, hsz, m0, m1, m2⟩ := qA w (fO kind Y yn yc B bn bc L ln lc) (tO 0 none 0 0 0 none 0 0 none 0 0) (tO c none 0 0 0 none 0 0 none 0 0)
 have av := aa hbw
 have hS0 := hS.out.below hbw
 go_in
 go_upto_region 2 with (fail)
 rw [show ((w.alloc (fO kind Y yn yc B bn bc L ln lc)).alloc (tO 0 none 0 0 0 none 0 0 none 0 0)).alloc (tO c none 0 0 0 none 0 0 none 0 0) = w0 from HW.out]
 have c0 : w0.cell? ⟨w.heap.size, 0, none⟩ = some (.int .i64 kind) := aj m0 0
 have c3 : w0.cell? ⟨w.heap.size, 3, none⟩ = some (.slice L ln lc) := aj m0 3
 have HB0 := cZ hB hbw
 have kF := aa (fun (u : World) (h : Hid (Below W0.heap.size W0 u)) => aa (hF.out.below h.out))
 have kD := aa (fun (u : World) (h : Hid (Below W0.heap.size W0 u)) => aa (hd.out.below h.out))
 have M8 := aa (aC hbw (some b))
 have nE := aa hS0
 have M := aa (And.intro m0 (And.intro m1 m2))
 have HN := aa (And.intro p1 (And.intro p2 (And.intro p3 (And.intro p4 (And.intro hblt hsz)))))
 have VX := aa QZ
 have hQ : Q < 2305843009213693952 := by omega
 have d1 : (kind == 1) = false := by simp [hk]
 have hB' := hB
 clear hS0 m0 m1 m2 hS hbw hF hv hd p1 p2 p3 p4 hblt hsz QZ hk
 obtain ⟨i0, hi, hz0, hz1, hz2⟩ := info_parts tK
 go_wp2_with fail
 clear c0 c3 d1
 go_loopw [9, 48] (fun vl vi wr => ∃ (k : Nat) (lf e : Int) (v : Value) (ts : List TT), k ≤ ln ∧ vi = .int .i64 k ∧ vl = .int .i64 lf ∧ 0 ≤ lf ∧ lf < Q ∧ ts.length = k ∧ Hid (gp wr b P Q G e) ∧ Hid (w.grownBy wr (some b)) ∧
  Hid (wr.heap[w.heap.size]? = some (fO kind Y yn yc B bn bc L ln lc) ∧ wr.heap[w.heap.size + 1]? = some (tO 0 none 0 0 0 none 0 0 none 0 0) ∧ wr.heap[w.heap.size + 2]? = some (.cells #[.int .i64 c, .slice none 0 0, .int .i64 0, .slice none 0 0, v] 39) ∧ w.heap.size + 3 ≤ wr.heap.size) ∧
  Hid (fq wr (w.heap.size + 3) v ts) ∧ Hid (e = 0 → e0 = 0 ∧ sg k lf ts v.ownBlock (w.heap.size + 3) wr)) (fun _ vi _ => ln - (intOf vi).toNat)
 case atStart => exact ⟨0, c, e0, .slice none 0 0, [], by omega, rfl, rfl, hc0, hc1, rfl, nE, M8, aa ⟨M.out.1, M.out.2.1, M.out.2.2, by have := HN.out; omega⟩, aa (World.ownsRow_nil _ _ _ _), aa (fun e => ⟨e, VX.out _ _⟩)⟩
 case round =>
  obtain ⟨k, lf, e, v, ts, hk, rfl, rfl, hl0, hl2, hts, HP, iq, HM, HO, HE⟩ := hrel
  by_cases hlt : k < ln
  case neg =>
   obtain rfl : k = ln := by omega
   obtain ⟨A, cap, rfl⟩ := HO.out.form
   have iW := aa hts
   have HR := aa HM.out.2.1
   have t0 : wr.cell? ⟨w.heap.size + 1 + 1, 0, none⟩ = some (.int .i64 c) := aj HM.out.2.2.1 0
   have t1 : wr.cell? ⟨w.heap.size + 1 + 1, 1, none⟩ = some (.slice none 0 0) := aj HM.out.2.2.1 1
   have t2 : wr.cell? ⟨w.heap.size + 1 + 1, 2, none⟩ = some (.int .i64 0) := aj HM.out.2.2.1 2
   have t3 : wr.cell? ⟨w.heap.size + 1 + 1, 3, none⟩ = some (.slice none 0 0) := aj HM.out.2.2.1 3
   have t4 : wr.cell? ⟨w.heap.size + 1 + 1, 4, none⟩ = some (.slice A ts.length cap) := aj HM.out.2.2.1 4
   have GI : Hid (e = 0 → e0 = 0 ∧ acc ⟨c, none, 0, 0, [], 0, none, 0, 0, [], A, ts.length, cap, ts⟩ ∧ kW none (w.heap.size + 3) wr ⟨c, none, 0, 0, [], 0, none, 0, 0, [], A, ts.length, cap, ts⟩) := aa (fun h => by
    obtain ⟨h1, h2⟩ := HE.out h
    rw [← hln] at h2
    exact ⟨h1, ng.out _ _ _ _ _ _ h2 (by rw [iW.out, hln]) HO.out⟩)
   clear hts HE HO ng lY ih
   go_wp2_with (first | ((with_reducible show wpList _ _ _ (⟨none, Op.store _ (Operand.tmp 6) _, _, _, _, _⟩ :: _) _ _); refine wpList_store_row rfl 39 _ _ rfl (w.heap.size + 1) (iU c none 0 0 0 none 0 0 A ts.length cap) rfl rfl _ _ HR.out bE rfl (dP _ _ _ _ _ _ _ _ _ _ _) ?_) | fail)
   refine bodyPost_ret (v := .agg (iU c none 0 0 0 none 0 0 A ts.length cap)) (bM (p := 6) (ty := 39) rfl _ _ ⟨w.heap.size + 1, 0, none⟩ _ rfl (run_loadVar_row _ _ _ _ _ _ _ (setRow_heap _ _ _ _ _ _ HR.out) Tryz.underlying39 rfl bE)) rfl ?_
   refine ⟨e, ⟨c, none, 0, 0, [], 0, none, 0, 0, [], A, ts.length, cap, ts⟩, rfl, HP.out.agree (setRow_other _ _ _ _ (by have := HN.out; omega)), bS iq.out _ (by omega) _, fun h => ?_⟩
   obtain ⟨h1, h2, h3⟩ := GI.out h
   exact ⟨h1, rfl, h2, kW.mono (h3.setRow (by omega) _) (by omega) (fun k e => by cases e)⟩
  have hkl : k < l.length := by omega
  have iW := aa hts
  have aF := dx hB' iG rfl iq.out
  obtain ⟨bb, oo, hL, j0, j1, j2, j3, -⟩ := (kF.out _ aF).out.kid (k := k) hlt
  dsimp only at hL j0 j1 j2 j3
  subst hL
  have hcl := ih.out k hkl
  obtain ⟨x, hx⟩ : ∃ x, l.getD k aY = x := ⟨_, rfl⟩
  have qm := aa (fun (lf lf2 x : Int) (ts : List TT) (t : TT) (g g2 : Option Nat) (n0 : Nat) (w w2 : World) (h) (h1) => lY.out k lf lf2 x ts t g g2 n0 w w2 h h1 hkl)
  rw [hx] at hcl j0 j1 j2 j3 qm
  have fQ := aa hcl
  clear hcl hx hkl hts
  obtain ⟨xk, xY, jL, jM, xys, xB, jN, jO, fE, xL, jm, jo, xl⟩ := x
  dsimp only at j0 j1 j2 j3
  go_upto_region 11 with (fail)
  obtain ⟨w3, hw3, HB3, hs3, -, kz⟩ := su (fO xk xY jL jM xB jN jO xL jm jo) qQ wr
  have FN : w3.heap[wr.heap.size]? = some (fO xk xY jL jM xB jN jO xL jm jo) := by rw [← hw3]; exact heap_alloc_new _ _
  have I8 := hs3.out
  rw [hw3]
  clear hw3 j0 j1 j2 j3
  have hg3 := ax iq.out (aC HB3.out (some b))
  have Bh := aa (HP.out.below HB3.out)
  have PE : Hid (w3.heap[w.heap.size]? = some (fO kind Y yn yc B bn bc (some ⟨bb, oo, none⟩) ln lc) ∧ w3.heap[w.heap.size + 1]? = some (tO 0 none 0 0 0 none 0 0 none 0 0) ∧ w3.heap[w.heap.size + 2]? = some (.cells #[.int .i64 c, .slice none 0 0, .int .i64 0, .slice none 0 0, v] 39) ∧ w3.heap[wr.heap.size]? = some (fO xk xY jL jM xB jN jO xL jm jo) ∧ w.heap.size + 3 ≤ wr.heap.size ∧ wr.heap.size < w3.heap.size) := aa (by
   have h1 := HM.out
   have h3 := HB3.out.size
   refine ⟨(HB3.out.block _ (by omega)).trans h1.1, (HB3.out.block _ (by omega)).trans h1.2.1, (HB3.out.block _ (by omega)).trans h1.2.2.1, FN, h1.2.2.2, by omega⟩)
  have z0 : w3.cell? ⟨w.heap.size, 0, none⟩ = some (.int .i64 kind) := aj PE.out.1 0
  have z3 : w3.cell? ⟨w.heap.size, 3, none⟩ = some (.slice (some ⟨bb, oo, none⟩) ln lc) := aj PE.out.1 3
  have Ex := aa hg3
  clear hg3 kz FN hs3 I8
  by_cases hk2 : kind = 2
  ·
   have d3 : (kind == 3) = false := by simp [hk2]
   have GG := aa hk2
   clear hk2
   go_upto_region 17 with (fail)
   clear z0 z3
   have nW := Bh
   have vC := aa (aC HB3.out (some b))
   have dz := PE
   have zh : Hid (e = 0 → e = 0) := aa (fun h => h)
   have vU : Hid (0 ≤ c ∧ c < Q ∧ (kind = 2 → c = c) ∧ (kind ≠ 2 → (lf + c) % Q = lf % Q ∧ (k + 1 = l.length → lf = 0)) ∧ 0 ≤ lf ∧ lf < Q) := aa ⟨hc0, hc1, fun _ => rfl, fun h => absurd GG.out h, hl0, hl2⟩
   have y4 : w3.cell? ⟨w.heap.size + 1 + 1, 4, none⟩ = some v := aj dz.out.2.2.1 4
   have z0 : w3.cell? ⟨wr.heap.size, 0, none⟩ = some (.int .i64 xk) := aj dz.out.2.2.2.1 0
   have z1 : w3.cell? ⟨wr.heap.size, 1, none⟩ = some (.slice xY jL jM) := aj dz.out.2.2.2.1 1
   have z2 : w3.cell? ⟨wr.heap.size, 2, none⟩ = some (.slice xB jN jO) := aj dz.out.2.2.2.1 2
   have z3 : w3.cell? ⟨wr.heap.size, 3, none⟩ = some (.slice xL jm jo) := aj dz.out.2.2.2.1 3
   have hnb : wr.heap.size ≠ b := by have := HN.out; have := dz.out; omega
   have jF : w.heap.size + 1 + 1 ≠ b := by have := HN.out; omega
   have hO := aa (fun (u : World) (hu : Hid (w3.grownBy u (some b))) => And.intro (aI hu.out jF y4) (And.intro (aI hu.out hnb z0) (And.intro (aI hu.out hnb z1) (And.intro (aI hu.out hnb z2) (aI hu.out hnb z3)))))
   have zA := dx hB' iG rfl (ax iq.out vC.out)
   clear y4 z0 z1 z2 z3
   refine BK (fun u => w3.grownBy u (some b)) [7, 8, 9] (aa (aC (Below.refl _ _).drew _)) (fun hHeld => ?_)
   refine aX 0 1 2 3 ?_
   refine aQ 4 ?_
   refine dO 5 fun K hK => ?_
   go_simp
   refine (fQ.out c e _ vU.out.1 vU.out.2.1 (dx zA iG rfl hHeld.out) (aa (nW.out.agree rfl))).mono ?_
   rintro e_ w5 ⟨e5, t, rfl, uD, hg5, h5⟩
   refine hK.out _ _ (aa (ax hHeld.out hg5)) (fun hHeld => ?_)
   clear hK K
   have ku := aa uD
   have H5 := aa h5
   clear uD hg5 h5
   refine dO 6 fun K hK => ?_
   rw [show (if Region.wanted _ _ = true then _ else _ : Prop) = _ from if_pos rfl]
   refine GX 37 39 _ rfl t i0 Tryz.underlying37 hi hz0 hz1 rfl ?_
   refine hK.out _ _ (aa (bT hHeld.out _)) (fun hHeld => ?_)
   clear hK K
   obtain ⟨w6, pM, iT, -, -, k6⟩ := su (.cells #[.int .i64 t.c, .slice t.A t.na t.ca, .int .i64 t.pc, .slice t.Z t.nz t.cz, .slice t.L t.ln t.lc] 39) Br w5
   rw [pM] at hHeld ⊢
   clear pM
   obtain ⟨s0, s1, s2, s3, s4⟩ := k6.out _ (dS w6)
   have cO := ax vC.out hHeld.out
   have oI : fq w6 (w.heap.size + 3) v ts := HO.out.agree (fun g hg => cO.block g (HO.out.lt g hg).2 (fun e => by injection e with e; have := (HO.out.lt g hg).1; have := HN.out; omega))
   have hs6 : w.heap.size + 3 ≤ w6.heap.size := by have := cO.size; have := dz.out; omega
   refine mo 7 fun K hK => ?_
   rw [show (if Region.wanted _ _ = true then _ else _ : Prop) = _ from if_pos rfl]
   refine wp_append_lies _ _ _ 37 rfl (w.heap.size + 3) 39 i0 _ 5 88 Tryz.underlying37 hi hz0 hz1 hz2 rfl (by decide) v ts.length (ts.flatMap tC) rfl oI ⟨w5.heap.size, 0, none⟩ 1 1 (tC t) rfl rfl (fun j u hj => by
    have Cq : j < 5 := (List.getElem?_eq_some_iff.1 hj).1
    rw [iK, Nat.zero_add]
    match j, Cq, hj with
    | 0, _, hj => cases hj; exact s0
    | 1, _, hj => cases hj; exact s1
    | 2, _, hj => cases hj; exact s2
    | 3, _, hj => cases hj; exact s3
    | 4, _, hj => cases hj; exact s4) (fun u hu => tN [t] u (by simpa using hu)) (by omega) (by unfold maxLen; rw [iW.out]; omega) (by rw [iW.out]; omega) hs6 w6.heap.size rfl ?_
   intro g cap w7 dM aR oC oq
   refine hK.out _ _ ?_
   clear hK K
   clear s0 s1 s2 s3 s4
   have hnew : ∀ q, v.ownBlock = some q → w.heap.size + 3 ≤ q := fun q e => (HO.out.lt q e).1
   have ji : ∀ q, q < w.heap.size + 3 → w7.heap[q]? = w6.heap[q]? := fun q hq => aR.block q (by omega) (fun e => by have := hnew q e.symm; omega)
   have kU : ∀ q, q < w.heap.size + 3 → q ≠ b → w6.heap[q]? = w3.heap[q]? := fun q hq hne => hHeld.out.block q (by have := dz.out; omega) (fun e => hne (by injection e with e))
   have lW : Hid (w7.heap[w.heap.size + 2]? = some (.cells #[.int .i64 c, .slice none 0 0, .int .i64 0, .slice none 0 0, v] 39)) := aa ((ji _ (by omega)).trans ((kU _ (by omega) jF).trans dz.out.2.2.1))
   have y4 : w7.cell? ⟨w.heap.size + 1 + 1, 4, none⟩ = some v := aj lW.out 4
   have y5 : w7.frozen? ⟨w.heap.size + 1 + 1, 4, none⟩ = false := aS lW.out 4
   refine mo 8 fun K hK => ?_
   go_simp
   refine hK.out _ _ ?_
   clear hK K
   refine mo 9 fun K hK => ?_
   go_simp
   refine hK.out _ _ ?_
   clear hK K
   refine jf ?_
   clear hO y4 y5
   obtain ⟨v2, hv2⟩ : ∃ z, Value.slice (some ⟨g, 0, none⟩) (ts.length + 1) cap = z := ⟨_, rfl⟩
   have eP : v2.ownBlock = some g := by rw [← hv2]; rfl
   rw [hv2] at dM ⊢
   have oH : Hid ((w7.setCell ⟨w.heap.size + 1 + 1, 4, none⟩ v2).heap[w.heap.size + 2]? = some (.cells #[.int .i64 c, .slice none 0 0, .int .i64 0, .slice none 0 0, v2] 39)) := aa (heap_setCell_same w7 (w.heap.size + 2) 4 _ _ _ lW.out)
   have hoth : ∀ q, q ≠ w.heap.size + 2 → (w7.setCell ⟨w.heap.size + 1 + 1, 4, none⟩ v2).heap[q]? = w7.heap[q]? := fun q hq => Go.Deep.blk_setCell_other _ _ _ _ hq
   have gG : (w7.setCell ⟨w.heap.size + 1 + 1, 4, none⟩ v2).heap.size = w7.heap.size := World.size_setCell _ _ _
   have vk : Hid (w.grownBy (w7.setCell ⟨w.heap.size + 1 + 1, 4, none⟩ v2) (some b)) := aa (dh (mR (ax iq.out cO) aR (fun q e => by have := hnew q e; omega)) (by omega) v2)
   obtain ⟨w8, hw8⟩ : ∃ u, w7.setCell ⟨w.heap.size + 1 + 1, 4, none⟩ v2 = u := ⟨_, rfl⟩
   rw [hw8] at oH hoth vk gG ⊢
   have hg3 : w.heap.size + 3 ≤ g := by
    rcases oC with h | h
    · exact hnew g h
    · omega
   have Dk : Hid (gp w8 b P Q G e5) := aa (ku.out.agree (((hoth b (by omega)).trans (ji b (by have := HN.out; omega))).trans (iT.out.block b ku.out.lt)))
   have Dn : Hid (w8.heap[w.heap.size]? = some (fO kind Y yn yc B bn bc (some ⟨bb, oo, none⟩) ln lc) ∧ w8.heap[w.heap.size + 1]? = some (tO 0 none 0 0 0 none 0 0 none 0 0) ∧ w8.heap[w.heap.size + 2]? = some (.cells #[.int .i64 c, .slice none 0 0, .int .i64 0, .slice none 0 0, v2] 39) ∧ w.heap.size + 3 ≤ w8.heap.size) := aa ⟨(hoth _ (by omega)).trans ((ji _ (by omega)).trans ((kU _ (by omega) (by have := HN.out; omega)).trans dz.out.1)), (hoth _ (by omega)).trans ((ji _ (by omega)).trans ((kU _ (by omega) (by have := HN.out; omega)).trans dz.out.2.1)), oH.out, by have := aR.size; omega⟩
   have Dm : Hid (fq w8 (w.heap.size + 3) v2 (ts ++ [t])) := aa (fq.agree (w := w7) (by
    unfold fq
    rw [List.length_append, List.length_singleton, List.flatMap_append, List.flatMap_singleton]
    exact dM) (fun q e => by rw [eP] at e; injection e with e; exact hoth q (by omega)))
   have ou : ∀ s, kW v.ownBlock (w.heap.size + 3) w6 s → kW v2.ownBlock (w.heap.size + 3) w8 s := fun s h => by
    refine kW.step h (fun q h1 h2 h3 => (hoth q (by omega)).trans (aR.block q h2 (fun e => h3 e.symm))) (by rw [gG]; exact aR.size) (fun q e => ?_)
    rw [eP] at e
    injection e with e
    subst e
    rcases oC with h | h
    · exact .inl h
    · exact .inr (by omega)
   have Dq : Hid (e5 = 0 → e0 = 0 ∧ sg (k + 1) (lf) (ts ++ [t]) v2.ownBlock (w.heap.size + 3) w8) := aa (fun h0 => by
    obtain ⟨a1, a2, a3, a4⟩ := H5.out h0
    obtain ⟨b1, b2⟩ := HE.out (zh.out a1)
    refine ⟨b1, qm.out lf (lf) (c) ts t _ _ _ _ _ b2 iW.out a2 a3 vU.out.2.2.1 vU.out.2.2.2.1 (fun s h => ou s (kW.gb h cO (by have := HN.out; omega))) (ou t (kW.mono (kW.gb a4 (aC iT.out (some b)) (by have := HN.out; have := dz.out; have h9 : w3.drew.heap.size = w3.heap.size := rfl; omega)) (by have := dz.out; have h9 : w3.drew.heap.size = w3.heap.size := rfl; omega) (fun q e => by have h8 := (HO.out.lt q e).2; have := dz.out; have h9 : w3.drew.heap.size = w3.heap.size := rfl; omega)))⟩)
   have X3 := aa vU.out.2.2.2.2
   clear hw8 hoth gG ou oH lW ji kU dM aR oC oq cO oI hs6 eP hv2 hnew H5 ku iT k6 hHeld nW vC dz zh vU qm fQ HE HO HM HP iq hnb jF zA
   go_wp2
   go_roundw
   case rel => exact ⟨k + 1, lf, e5, v2, ts ++ [t], by omega, by go_num, rfl, X3.out.1, X3.out.2, by rw [List.length_append, List.length_singleton, iW.out], Dk, vk, Dn, Dm, Dq⟩
   case measure => simp [intOf]; omega
  have hk3 : kind = 3 := by omega
  have GG := aa hk2
  have d3 : (kind == 3) = true := by simp [hk3]
  by_cases hla : k + 1 < ln
  ·
   clear hk2 hk3
   have d5 : (k : Int) < (ln : Int) - 1 := by omega
   go_upto_region 15 with (fail)
   go_wp2_with fail
   refine (mM P Q G b e (by have := HN.out; omega) hQ w3 (kD.out _ (dx hB' iG rfl Ex.out)) Bh).mono ?_
   rintro ee w4 ⟨e4, x, rfl, Q4, hg4, hee, hx0, hx1⟩
   have Dl := aa Q4
   have GH := aa hg4
   have M_ := aa hee
   obtain ⟨-, q1, -⟩ := Dl.out.c0
   clear z0 z3 Q4 hg4 hee
   go_wp2
   go_quiet (fail)
   go_upto_region 17 with (fail)
   clear q1
   obtain ⟨wz, hwz⟩ : ∃ u, w4.drewN nq = u := ⟨_, rfl⟩
   have hbz : Below w4.heap.size w4 wz := by rw [← hwz]; exact ⟨rfl, rfl, rfl, Nat.le_refl _, fun _ _ => rfl⟩
   rw [hwz]
   clear hwz
   have nW := aa (Dl.out.below hbz)
   have oK := ax GH.out (aC hbz (some b))
   have vC := aa (ax (aC HB3.out (some b)) oK)
   have dz : Hid (wz.heap[w.heap.size]? = some (fO kind Y yn yc B bn bc (some ⟨bb, oo, none⟩) ln lc) ∧ wz.heap[w.heap.size + 1]? = some (tO 0 none 0 0 0 none 0 0 none 0 0) ∧ wz.heap[w.heap.size + 2]? = some (.cells #[.int .i64 c, .slice none 0 0, .int .i64 0, .slice none 0 0, v] 39) ∧ wz.heap[wr.heap.size]? = some (fO xk xY jL jM xB jN jO xL jm jo) ∧ w.heap.size + 3 ≤ wr.heap.size ∧ wr.heap.size < wz.heap.size) := aa (by
    have h1 := PE.out
    have h2 := HN.out
    have h3 := oK.size
    exact ⟨gW oK (by omega) h1.1, gW oK (by omega) h1.2.1, gW oK (by omega) h1.2.2.1, gW oK (by omega) h1.2.2.2.1, h1.2.2.2.2.1, by omega⟩)
   have zh := M_
   have hq0 : Q ≠ 0 := by have := HN.out; omega
   have hq1 : 0 < Q := by have := HN.out; omega
   have vU : Hid (0 ≤ x ∧ x < Q ∧ (kind = 2 → x = c) ∧ (kind ≠ 2 → ((lf - x + Q) % Q + x) % Q = lf % Q ∧ (k + 1 = l.length → (lf - x + Q) % Q = 0)) ∧ 0 ≤ (lf - x + Q) % Q ∧ (lf - x + Q) % Q < Q) := aa ⟨hx0, hx1, fun h => absurd h GG.out, fun _ => ⟨by rw [Int.emod_add_emod, show lf - x + Q + x = lf + Q by omega, Int.add_emod_right], fun h => by omega⟩, Int.emod_nonneg _ hq0, Int.emod_lt_of_pos _ hq1⟩
   obtain ⟨lg, Xn⟩ : ∃ z, (lf - x + Q) % Q = z := ⟨_, rfl⟩
   rw [Xn] at vU ⊢
   clear Xn hq0 hq1 oK hbz M_ Dl GH Bh Ex PE hx0 hx1
   have y4 : wz.cell? ⟨w.heap.size + 1 + 1, 4, none⟩ = some v := aj dz.out.2.2.1 4
   have z0 : wz.cell? ⟨wr.heap.size, 0, none⟩ = some (.int .i64 xk) := aj dz.out.2.2.2.1 0
   have z1 : wz.cell? ⟨wr.heap.size, 1, none⟩ = some (.slice xY jL jM) := aj dz.out.2.2.2.1 1
   have z2 : wz.cell? ⟨wr.heap.size, 2, none⟩ = some (.slice xB jN jO) := aj dz.out.2.2.2.1 2
   have z3 : wz.cell? ⟨wr.heap.size, 3, none⟩ = some (.slice xL jm jo) := aj dz.out.2.2.2.1 3
   have hnb : wr.heap.size ≠ b := by have := HN.out; have := dz.out; omega
   have jF : w.heap.size + 1 + 1 ≠ b := by have := HN.out; omega
   have hO := aa (fun (u : World) (hu : Hid (wz.grownBy u (some b))) => And.intro (aI hu.out jF y4) (And.intro (aI hu.out hnb z0) (And.intro (aI hu.out hnb z1) (And.intro (aI hu.out hnb z2) (aI hu.out hnb z3)))))
   have zA := dx hB' iG rfl (ax iq.out vC.out)
   clear y4 z0 z1 z2 z3
   refine BK (fun u => wz.grownBy u (some b)) [7, 8, 9] (aa (aC (Below.refl _ _).drew _)) (fun hHeld => ?_)
   refine aX 0 1 2 3 ?_
   refine aQ 4 ?_
   refine dO 5 fun K hK => ?_
   go_simp
   refine (fQ.out x e4 _ vU.out.1 vU.out.2.1 (dx zA iG rfl hHeld.out) (aa (nW.out.agree rfl))).mono ?_
   rintro e_ w5 ⟨e5, t, rfl, uD, hg5, h5⟩
   refine hK.out _ _ (aa (ax hHeld.out hg5)) (fun hHeld => ?_)
   clear hK K
   have ku := aa uD
   have H5 := aa h5
   clear uD hg5 h5
   refine dO 6 fun K hK => ?_
   rw [show (if Region.wanted _ _ = true then _ else _ : Prop) = _ from if_pos rfl]
   refine GX 37 39 _ rfl t i0 Tryz.underlying37 hi hz0 hz1 rfl ?_
   refine hK.out _ _ (aa (bT hHeld.out _)) (fun hHeld => ?_)
   clear hK K
   obtain ⟨w6, pM, iT, -, -, k6⟩ := su (.cells #[.int .i64 t.c, .slice t.A t.na t.ca, .int .i64 t.pc, .slice t.Z t.nz t.cz, .slice t.L t.ln t.lc] 39) Br w5
   rw [pM] at hHeld ⊢
   clear pM
   obtain ⟨s0, s1, s2, s3, s4⟩ := k6.out _ (dS w6)
   have cO := ax vC.out hHeld.out
   have oI : fq w6 (w.heap.size + 3) v ts := HO.out.agree (fun g hg => cO.block g (HO.out.lt g hg).2 (fun e => by injection e with e; have := (HO.out.lt g hg).1; have := HN.out; omega))
   have hs6 : w.heap.size + 3 ≤ w6.heap.size := by have := cO.size; have := dz.out; omega
   refine mo 7 fun K hK => ?_
   rw [show (if Region.wanted _ _ = true then _ else _ : Prop) = _ from if_pos rfl]
   refine wp_append_lies _ _ _ 37 rfl (w.heap.size + 3) 39 i0 _ 5 88 Tryz.underlying37 hi hz0 hz1 hz2 rfl (by decide) v ts.length (ts.flatMap tC) rfl oI ⟨w5.heap.size, 0, none⟩ 1 1 (tC t) rfl rfl (fun j u hj => by
    have Cq : j < 5 := (List.getElem?_eq_some_iff.1 hj).1
    rw [iK, Nat.zero_add]
    match j, Cq, hj with
    | 0, _, hj => cases hj; exact s0
    | 1, _, hj => cases hj; exact s1
    | 2, _, hj => cases hj; exact s2
    | 3, _, hj => cases hj; exact s3
    | 4, _, hj => cases hj; exact s4) (fun u hu => tN [t] u (by simpa using hu)) (by omega) (by unfold maxLen; rw [iW.out]; omega) (by rw [iW.out]; omega) hs6 w6.heap.size rfl ?_
   intro g cap w7 dM aR oC oq
   refine hK.out _ _ ?_
   clear hK K
   clear s0 s1 s2 s3 s4
   have hnew : ∀ q, v.ownBlock = some q → w.heap.size + 3 ≤ q := fun q e => (HO.out.lt q e).1
   have ji : ∀ q, q < w.heap.size + 3 → w7.heap[q]? = w6.heap[q]? := fun q hq => aR.block q (by omega) (fun e => by have := hnew q e.symm; omega)
   have kU : ∀ q, q < w.heap.size + 3 → q ≠ b → w6.heap[q]? = wz.heap[q]? := fun q hq hne => hHeld.out.block q (by have := dz.out; omega) (fun e => hne (by injection e with e))
   have lW : Hid (w7.heap[w.heap.size + 2]? = some (.cells #[.int .i64 c, .slice none 0 0, .int .i64 0, .slice none 0 0, v] 39)) := aa ((ji _ (by omega)).trans ((kU _ (by omega) jF).trans dz.out.2.2.1))
   have y4 : w7.cell? ⟨w.heap.size + 1 + 1, 4, none⟩ = some v := aj lW.out 4
   have y5 : w7.frozen? ⟨w.heap.size + 1 + 1, 4, none⟩ = false := aS lW.out 4
   refine mo 8 fun K hK => ?_
   go_simp
   refine hK.out _ _ ?_
   clear hK K
   refine mo 9 fun K hK => ?_
   go_simp
   refine hK.out _ _ ?_
   clear hK K
   refine jf ?_
   clear hO y4 y5
   obtain ⟨v2, hv2⟩ : ∃ z, Value.slice (some ⟨g, 0, none⟩) (ts.length + 1) cap = z := ⟨_, rfl⟩
   have eP : v2.ownBlock = some g := by rw [← hv2]; rfl
   rw [hv2] at dM ⊢
   have oH : Hid ((w7.setCell ⟨w.heap.size + 1 + 1, 4, none⟩ v2).heap[w.heap.size + 2]? = some (.cells #[.int .i64 c, .slice none 0 0, .int .i64 0, .slice none 0 0, v2] 39)) := aa (heap_setCell_same w7 (w.heap.size + 2) 4 _ _ _ lW.out)
   have hoth : ∀ q, q ≠ w.heap.size + 2 → (w7.setCell ⟨w.heap.size + 1 + 1, 4, none⟩ v2).heap[q]? = w7.heap[q]? := fun q hq => Go.Deep.blk_setCell_other _ _ _ _ hq
   have gG : (w7.setCell ⟨w.heap.size + 1 + 1, 4, none⟩ v2).heap.size = w7.heap.size := World.size_setCell _ _ _
   have vk : Hid (w.grownBy (w7.setCell ⟨w.heap.size + 1 + 1, 4, none⟩ v2) (some b)) := aa (dh (mR (ax iq.out cO) aR (fun q e => by have := hnew q e; omega)) (by omega) v2)
   obtain ⟨w8, hw8⟩ : ∃ u, w7.setCell ⟨w.heap.size + 1 + 1, 4, none⟩ v2 = u := ⟨_, rfl⟩
   rw [hw8] at oH hoth vk gG ⊢
   have hg3 : w.heap.size + 3 ≤ g := by
    rcases oC with h | h
    · exact hnew g h
    · omega
   have Dk : Hid (gp w8 b P Q G e5) := aa (ku.out.agree (((hoth b (by omega)).trans (ji b (by have := HN.out; omega))).trans (iT.out.block b ku.out.lt)))
   have Dn : Hid (w8.heap[w.heap.size]? = some (fO kind Y yn yc B bn bc (some ⟨bb, oo, none⟩) ln lc) ∧ w8.heap[w.heap.size + 1]? = some (tO 0 none 0 0 0 none 0 0 none 0 0) ∧ w8.heap[w.heap.size + 2]? = some (.cells #[.int .i64 c, .slice none 0 0, .int .i64 0, .slice none 0 0, v2] 39) ∧ w.heap.size + 3 ≤ w8.heap.size) := aa ⟨(hoth _ (by omega)).trans ((ji _ (by omega)).trans ((kU _ (by omega) (by have := HN.out; omega)).trans dz.out.1)), (hoth _ (by omega)).trans ((ji _ (by omega)).trans ((kU _ (by omega) (by have := HN.out; omega)).trans dz.out.2.1)), oH.out, by have := aR.size; omega⟩
   have Dm : Hid (fq w8 (w.heap.size + 3) v2 (ts ++ [t])) := aa (fq.agree (w := w7) (by
    unfold fq
    rw [List.length_append, List.length_singleton, List.flatMap_append, List.flatMap_singleton]
    exact dM) (fun q e => by rw [eP] at e; injection e with e; exact hoth q (by omega)))
   have ou : ∀ s, kW v.ownBlock (w.heap.size + 3) w6 s → kW v2.ownBlock (w.heap.size + 3) w8 s := fun s h => by
    refine kW.step h (fun q h1 h2 h3 => (hoth q (by omega)).trans (aR.block q h2 (fun e => h3 e.symm))) (by rw [gG]; exact aR.size) (fun q e => ?_)
    rw [eP] at e
    injection e with e
    subst e
    rcases oC with h | h
    · exact .inl h
    · exact .inr (by omega)
   have Dq : Hid (e5 = 0 → e0 = 0 ∧ sg (k + 1) (lg) (ts ++ [t]) v2.ownBlock (w.heap.size + 3) w8) := aa (fun h0 => by
    obtain ⟨a1, a2, a3, a4⟩ := H5.out h0
    obtain ⟨b1, b2⟩ := HE.out (zh.out a1)
    refine ⟨b1, qm.out lf (lg) (x) ts t _ _ _ _ _ b2 iW.out a2 a3 vU.out.2.2.1 vU.out.2.2.2.1 (fun s h => ou s (kW.gb h cO (by have := HN.out; omega))) (ou t (kW.mono (kW.gb a4 (aC iT.out (some b)) (by have := HN.out; have := dz.out; have h9 : wz.drew.heap.size = wz.heap.size := rfl; omega)) (by have := dz.out; have h9 : wz.drew.heap.size = wz.heap.size := rfl; omega) (fun q e => by have h8 := (HO.out.lt q e).2; have := dz.out; have h9 : wz.drew.heap.size = wz.heap.size := rfl; omega)))⟩)
   have X0 := aa vU.out.2.2.2.2
   clear hw8 hoth gG ou oH lW ji kU dM aR oC oq cO oI hs6 eP hv2 hnew H5 ku iT k6 hHeld nW vC dz zh vU qm fQ HE HO HM HP iq hnb jF zA
   go_wp2
   go_roundw
   case rel => exact ⟨k + 1, lg, e5, v2, ts ++ [t], by omega, by go_num, rfl, X0.out.1, X0.out.2, by rw [List.length_append, List.length_singleton, iW.out], Dk, vk, Dn, Dm, Dq⟩
   case measure => simp [intOf]; omega
  ·
   clear hk2 hk3
   have d5 : ¬ ((k : Int) < (ln : Int) - 1) := by omega
   obtain ⟨-, q1, -⟩ := Bh.out.c0
   go_upto_region 16 with (fail)
   clear z0 z3
   go_quiet (fail)
   go_upto_region 17 with (fail)
   clear q1
   obtain ⟨wz, hwz⟩ : ∃ u, w3.drewN nq = u := ⟨_, rfl⟩
   have hbz : Below w3.heap.size w3 wz := by rw [← hwz]; exact ⟨rfl, rfl, rfl, Nat.le_refl _, fun _ _ => rfl⟩
   rw [hwz]
   clear hwz
   have nW := aa (Bh.out.below hbz)
   have oK := aC hbz (some b)
   have vC := aa (ax (aC HB3.out (some b)) oK)
   have dz : Hid (wz.heap[w.heap.size]? = some (fO kind Y yn yc B bn bc (some ⟨bb, oo, none⟩) ln lc) ∧ wz.heap[w.heap.size + 1]? = some (tO 0 none 0 0 0 none 0 0 none 0 0) ∧ wz.heap[w.heap.size + 2]? = some (.cells #[.int .i64 c, .slice none 0 0, .int .i64 0, .slice none 0 0, v] 39) ∧ wz.heap[wr.heap.size]? = some (fO xk xY jL jM xB jN jO xL jm jo) ∧ w.heap.size + 3 ≤ wr.heap.size ∧ wr.heap.size < wz.heap.size) := aa (by
    have h1 := PE.out
    have h2 := HN.out
    have h3 := oK.size
    exact ⟨gW oK (by omega) h1.1, gW oK (by omega) h1.2.1, gW oK (by omega) h1.2.2.1, gW oK (by omega) h1.2.2.2.1, h1.2.2.2.2.1, by omega⟩)
   have zh : Hid (e = 0 → e = 0) := aa (fun h => h)
   have vU : Hid (0 ≤ lf ∧ lf < Q ∧ (kind = 2 → lf = c) ∧ (kind ≠ 2 → ((0 : Int) + lf) % Q = lf % Q ∧ (k + 1 = l.length → (0 : Int) = 0)) ∧ (0 : Int) ≤ 0 ∧ (0 : Int) < Q) := aa ⟨hl0, hl2, fun h => absurd h GG.out, fun _ => ⟨by rw [Int.zero_add], fun _ => rfl⟩, Int.le_refl _, by omega⟩
   clear oK hbz Bh Ex PE
   have y4 : wz.cell? ⟨w.heap.size + 1 + 1, 4, none⟩ = some v := aj dz.out.2.2.1 4
   have z0 : wz.cell? ⟨wr.heap.size, 0, none⟩ = some (.int .i64 xk) := aj dz.out.2.2.2.1 0
   have z1 : wz.cell? ⟨wr.heap.size, 1, none⟩ = some (.slice xY jL jM) := aj dz.out.2.2.2.1 1
   have z2 : wz.cell? ⟨wr.heap.size, 2, none⟩ = some (.slice xB jN jO) := aj dz.out.2.2.2.1 2
   have z3 : wz.cell? ⟨wr.heap.size, 3, none⟩ = some (.slice xL jm jo) := aj dz.out.2.2.2.1 3
   have hnb : wr.heap.size ≠ b := by have := HN.out; have := dz.out; omega
   have jF : w.heap.size + 1 + 1 ≠ b := by have := HN.out; omega
   have hO := aa (fun (u : World) (hu : Hid (wz.grownBy u (some b))) => And.intro (aI hu.out jF y4) (And.intro (aI hu.out hnb z0) (And.intro (aI hu.out hnb z1) (And.intro (aI hu.out hnb z2) (aI hu.out hnb z3)))))
   have zA := dx hB' iG rfl (ax iq.out vC.out)
   clear y4 z0 z1 z2 z3
   refine BK (fun u => wz.grownBy u (some b)) [7, 8, 9] (aa (aC (Below.refl _ _).drew _)) (fun hHeld => ?_)
   refine aX 0 1 2 3 ?_
   refine aQ 4 ?_
   refine dO 5 fun K hK => ?_
   go_simp
   refine (fQ.out lf e _ vU.out.1 vU.out.2.1 (dx zA iG rfl hHeld.out) (aa (nW.out.agree rfl))).mono ?_
   rintro e_ w5 ⟨e5, t, rfl, uD, hg5, h5⟩
   refine hK.out _ _ (aa (ax hHeld.out hg5)) (fun hHeld => ?_)
   clear hK K
   have ku := aa uD
   have H5 := aa h5
   clear uD hg5 h5
   refine dO 6 fun K hK => ?_
   rw [show (if Region.wanted _ _ = true then _ else _ : Prop) = _ from if_pos rfl]
   refine GX 37 39 _ rfl t i0 Tryz.underlying37 hi hz0 hz1 rfl ?_
   refine hK.out _ _ (aa (bT hHeld.out _)) (fun hHeld => ?_)
   clear hK K
   obtain ⟨w6, pM, iT, -, -, k6⟩ := su (.cells #[.int .i64 t.c, .slice t.A t.na t.ca, .int .i64 t.pc, .slice t.Z t.nz t.cz, .slice t.L t.ln t.lc] 39) Br w5
   rw [pM] at hHeld ⊢
   clear pM
   obtain ⟨s0, s1, s2, s3, s4⟩ := k6.out _ (dS w6)
   have cO := ax vC.out hHeld.out
   have oI : fq w6 (w.heap.size + 3) v ts := HO.out.agree (fun g hg => cO.block g (HO.out.lt g hg).2 (fun e => by injection e with e; have := (HO.out.lt g hg).1; have := HN.out; omega))
   have hs6 : w.heap.size + 3 ≤ w6.heap.size := by have := cO.size; have := dz.out; omega
   refine mo 7 fun K hK => ?_
   rw [show (if Region.wanted _ _ = true then _ else _ : Prop) = _ from if_pos rfl]
   refine wp_append_lies _ _ _ 37 rfl (w.heap.size + 3) 39 i0 _ 5 88 Tryz.underlying37 hi hz0 hz1 hz2 rfl (by decide) v ts.length (ts.flatMap tC) rfl oI ⟨w5.heap.size, 0, none⟩ 1 1 (tC t) rfl rfl (fun j u hj => by
    have Cq : j < 5 := (List.getElem?_eq_some_iff.1 hj).1
    rw [iK, Nat.zero_add]
    match j, Cq, hj with
    | 0, _, hj => cases hj; exact s0
    | 1, _, hj => cases hj; exact s1
    | 2, _, hj => cases hj; exact s2
    | 3, _, hj => cases hj; exact s3
    | 4, _, hj => cases hj; exact s4) (fun u hu => tN [t] u (by simpa using hu)) (by omega) (by unfold maxLen; rw [iW.out]; omega) (by rw [iW.out]; omega) hs6 w6.heap.size rfl ?_
   intro g cap w7 dM aR oC oq
   refine hK.out _ _ ?_
   clear hK K
   clear s0 s1 s2 s3 s4
   have hnew : ∀ q, v.ownBlock = some q → w.heap.size + 3 ≤ q := fun q e => (HO.out.lt q e).1
   have ji : ∀ q, q < w.heap.size + 3 → w7.heap[q]? = w6.heap[q]? := fun q hq => aR.block q (by omega) (fun e => by have := hnew q e.symm; omega)
   have kU : ∀ q, q < w.heap.size + 3 → q ≠ b → w6.heap[q]? = wz.heap[q]? := fun q hq hne => hHeld.out.block q (by have := dz.out; omega) (fun e => hne (by injection e with e))
   have lW : Hid (w7.heap[w.heap.size + 2]? = some (.cells #[.int .i64 c, .slice none 0 0, .int .i64 0, .slice none 0 0, v] 39)) := aa ((ji _ (by omega)).trans ((kU _ (by omega) jF).trans dz.out.2.2.1))
   have y4 : w7.cell? ⟨w.heap.size + 1 + 1, 4, none⟩ = some v := aj lW.out 4
   have y5 : w7.frozen? ⟨w.heap.size + 1 + 1, 4, none⟩ = false := aS lW.out 4
   refine mo 8 fun K hK => ?_
   go_simp
   refine hK.out _ _ ?_
   clear hK K
   refine mo 9 fun K hK => ?_
   go_simp
   refine hK.out _ _ ?_
   clear hK K
   refine jf ?_
   clear hO y4 y5
   obtain ⟨v2, hv2⟩ : ∃ z, Value.slice (some ⟨g, 0, none⟩) (ts.length + 1) cap = z := ⟨_, rfl⟩
   have eP : v2.ownBlock = some g := by rw [← hv2]; rfl
   rw [hv2] at dM ⊢
   have oH : Hid ((w7.setCell ⟨w.heap.size + 1 + 1, 4, none⟩ v2).heap[w.heap.size + 2]? = some (.cells #[.int .i64 c, .slice none 0 0, .int .i64 0, .slice none 0 0, v2] 39)) := aa (heap_setCell_same w7 (w.heap.size + 2) 4 _ _ _ lW.out)
   have hoth : ∀ q, q ≠ w.heap.size + 2 → (w7.setCell ⟨w.heap.size + 1 + 1, 4, none⟩ v2).heap[q]? = w7.heap[q]? := fun q hq => Go.Deep.blk_setCell_other _ _ _ _ hq
   have gG : (w7.setCell ⟨w.heap.size + 1 + 1, 4, none⟩ v2).heap.size = w7.heap.size := World.size_setCell _ _ _
   have vk : Hid (w.grownBy (w7.setCell ⟨w.heap.size + 1 + 1, 4, none⟩ v2) (some b)) := aa (dh (mR (ax iq.out cO) aR (fun q e => by have := hnew q e; omega)) (by omega) v2)
   obtain ⟨w8, hw8⟩ : ∃ u, w7.setCell ⟨w.heap.size + 1 + 1, 4, none⟩ v2 = u := ⟨_, rfl⟩
   rw [hw8] at oH hoth vk gG ⊢
   have hg3 : w.heap.size + 3 ≤ g := by
    rcases oC with h | h
    · exact hnew g h
    · omega
   have Dk : Hid (gp w8 b P Q G e5) := aa (ku.out.agree (((hoth b (by omega)).trans (ji b (by have := HN.out; omega))).trans (iT.out.block b ku.out.lt)))
   have Dn : Hid (w8.heap[w.heap.size]? = some (fO kind Y yn yc B bn bc (some ⟨bb, oo, none⟩) ln lc) ∧ w8.heap[w.heap.size + 1]? = some (tO 0 none 0 0 0 none 0 0 none 0 0) ∧ w8.heap[w.heap.size + 2]? = some (.cells #[.int .i64 c, .slice none 0 0, .int .i64 0, .slice none 0 0, v2] 39) ∧ w.heap.size + 3 ≤ w8.heap.size) := aa ⟨(hoth _ (by omega)).trans ((ji _ (by omega)).trans ((kU _ (by omega) (by have := HN.out; omega)).trans dz.out.1)), (hoth _ (by omega)).trans ((ji _ (by omega)).trans ((kU _ (by omega) (by have := HN.out; omega)).trans dz.out.2.1)), oH.out, by have := aR.size; omega⟩
   have Dm : Hid (fq w8 (w.heap.size + 3) v2 (ts ++ [t])) := aa (fq.agree (w := w7) (by
    unfold fq
    rw [List.length_append, List.length_singleton, List.flatMap_append, List.flatMap_singleton]
    exact dM) (fun q e => by rw [eP] at e; injection e with e; exact hoth q (by omega)))
   have ou : ∀ s, kW v.ownBlock (w.heap.size + 3) w6 s → kW v2.ownBlock (w.heap.size + 3) w8 s := fun s h => by
    refine kW.step h (fun q h1 h2 h3 => (hoth q (by omega)).trans (aR.block q h2 (fun e => h3 e.symm))) (by rw [gG]; exact aR.size) (fun q e => ?_)
    rw [eP] at e
    injection e with e
    subst e
    rcases oC with h | h
    · exact .inl h
    · exact .inr (by omega)
   have Dq : Hid (e5 = 0 → e0 = 0 ∧ sg (k + 1) (0) (ts ++ [t]) v2.ownBlock (w.heap.size + 3) w8) := aa (fun h0 => by
    obtain ⟨a1, a2, a3, a4⟩ := H5.out h0
    obtain ⟨b1, b2⟩ := HE.out (zh.out a1)
    refine ⟨b1, qm.out lf (0) (lf) ts t _ _ _ _ _ b2 iW.out a2 a3 vU.out.2.2.1 vU.out.2.2.2.1 (fun s h => ou s (kW.gb h cO (by have := HN.out; omega))) (ou t (kW.mono (kW.gb a4 (aC iT.out (some b)) (by have := HN.out; have := dz.out; have h9 : wz.drew.heap.size = wz.heap.size := rfl; omega)) (by have := dz.out; have h9 : wz.drew.heap.size = wz.heap.size := rfl; omega) (fun q e => by have h8 := (HO.out.lt q e).2; have := dz.out; have h9 : wz.drew.heap.size = wz.heap.size := rfl; omega)))⟩)
   have H0 := aa vU.out.2.2.2.2
   clear hw8 hoth gG ou oH lW ji kU dM aR oC oq cO oI hs6 eP hv2 hnew H5 ku iT k6 hHeld nW vC dz zh vU qm fQ HE HO HM HP iq hnb jF zA
   go_wp2
   go_roundw
   case rel => exact ⟨k + 1, 0, e5, v2, ts ++ [t], by omega, by go_num, rfl, H0.out.1, H0.out.2, by rw [List.length_append, List.length_singleton, iW.out], Dk, vk, Dn, Dm, Dq⟩
   case measure => simp [intOf]; omega
theorem zK (P Q G : Int) (hG : Hid (aJ P Q G = true)) (W0 : World) (b : Nat) (iG : W0.heap.size ≤ b) (hv : Hid (Vars W0)) (hd : Hid (bX W0)) : ∀ (d : Nat) (f : FT) (c e0 : Int) (w : World), f.dp ≤ d → Hid (dU W0 f) → f.sh → f.at_ P Q G → 0 ≤ c → c < Q → Hid (Below W0.heap.size W0 w) → Hid (gp w b P Q G e0) →
  Calls Tryz.prog 71 #[.pointer (some ⟨b, 0, none⟩), fV f, .int .i64 c] w (qg P Q G b f c e0 w)
 | 0, f, _, _, _, h, _, _, _, _, _, _, _ => by have := f.dp_eq; omega
 | d + 1, f, c, e0, w, h, hF, hs, ha, hc0, hc1, hB, hS => by
  by_cases hk : f.kind = 1
  ·
   have hl : f.l = [] := by
    rcases f.sh_eq.1 hs with ⟨_, h⟩ | ⟨h, _⟩
    · exact h
    · omega
   exact EX P Q G hG W0 b iG hv hd f c e0 hc0 hc1 w hB hF hS hk ha hl
  ·
   refine EW P Q G hG W0 b iG hv hd f c e0 hc0 hc1 w hB hF hS hs hk (aa fun k hkl c' e' u h0 h1 Jj OG => ?_)
   have hks : (f.l.getD k aY).sh := by
    rcases f.sh_eq.1 hs with ⟨h, _⟩ | ⟨_, _, _, _, h⟩
    · exact absurd h hk
    · exact h k hkl
   have hka : (f.l.getD k aY).at_ P Q G := by
    rcases f.at_eq.1 ha with ⟨h, _⟩ | ⟨_, h⟩
    · exact absurd h hk
    · exact h k hkl
   have Qc : dU W0 (f.l.getD k aY) := by
    obtain ⟨_, _, _, _, _, _, _, hX⟩ := hF.out.kid (k := k) (by have := hF.out.lens; omega)
    exact hX
   exact zK P Q G hG W0 b iG hv hd d _ c' e' u (FT.kid_dp h hkl) (aa Qc) hks hka h0 h1 Jj OG
end Go.Proofs.YtbljkkpnpcgjfaaGreatDoor
namespace Go.Proofs.YtbljkkpnpcgjfaaGreatDoor
open Go.ChangeShapes Go.WideShapes Go.ChangeAt Go.RowKit rM
theorem Ej : Tryz.prog.cellsOf 30 = 4 := by kernel_rfl
theorem Ei : Tryz.prog.cellsOf 39 = 5 := by kernel_rfl
theorem Gb : Tryz.prog.cellsOf 36 = 3 := by kernel_rfl
theorem JV : Tryz.prog.cellsOf 28 = 1 := by kernel_rfl
theorem JS : Tryz.prog.cellsOf 37 = 1 := by kernel_rfl
section
variable {H : Type} {enc : TypeId × Value → H} {w : World} {base : Nat} {held : Bool}
theorem mP {P : Program} {t e : TypeId} {sp : Nat → Bool} {fuel : Nat} {cs : List Value} {x : DataW H × List MemPlace} (ht : P.underlying t = some (.slice e)) (h : DataW.trod enc P w base sp held fuel t cs = some x) :
  cs = [.slice none 0 0] ∨ ∃ (a : Addr) (len cap n : Nat), fuel = n + 1 ∧ cs = [.slice (some a) len cap] ∧ len ≤ cap ∧ cap ≤ maxLen ∧
   ∀ i, i < len → ∃ cs' y, w.cells? base (a.add (i * P.cellsOf e)) (P.cellsOf e) = some cs' ∧ DataW.trod enc P w base sp held n e cs' = some y := by
 rcases DataW.trod_slice ht h with h0 | ⟨a, len, cap, elems, rest, n, hf, h1, _, _, hl, hm, hlen, hel, _, _⟩
 · exact .inl h0.1
 ·
  refine .inr ⟨a, len, cap, n, hf, h1, hl, hm, fun i hi => ?_⟩
  have h2 := hel i hi
  rw [List.getElem?_eq_getElem (by omega), Option.bind_eq_some_iff] at h2
  obtain ⟨cs', h3, h4⟩ := h2
  exact ⟨cs', _, h3, h4⟩
theorem KD {w : World} : ∀ {l : List FT}, (∀ k, k < l.length → dU w (l.getD k aY)) → Bw w l
 | [], _ => by rw [Bw]; trivial
 | t :: l, h => by
  rw [Bw]
  exact ⟨by have := h 0 (by simp); rwa [List.getD_cons_zero] at this, KD fun k hk => by have := h (k + 1) (by simpa using hk); rwa [List.getD_cons_succ] at this⟩
theorem ny {α : Type _} (f : Nat → α) (d : α) {n k : Nat} (hk : k < n) : ((List.range n).map f).getD k d = f k := by
 rw [List.getD_eq_getElem?_getD, List.getElem?_eq_getElem (by simpa using hk)]
 simp
theorem LA : ∀ (N n : Nat), n ≤ N → ∀ {cs : List Value} {x : DataW H × List MemPlace}, DataW.trod enc Tryz.prog w base (fun _ => true) held n 30 cs = some x →
  ∃ f : FT, cs = [.int .i64 f.kind, .slice f.Y f.yn f.yc, .slice f.B f.bn f.bc, .slice f.L f.ln f.lc] ∧ dU w f := by
 intro N
 induction N with
 | zero =>
  intro n hn cs x h
  obtain rfl : n = 0 := by omega
  simp [DataW.trod] at h
 | succ N ih =>
  intro n hn cs x h
  obtain ⟨xs, m, rfl, _, hl, hxl, hf⟩ := DataW.trod_struct Tryz.underlying30 h
  rw [Ej] at hl
  match cs, hl with
  | [c0, c1, c2, c3], _ =>
   have f0 : DataW.trod enc Tryz.prog w base (fun _ => true) held m 3 (([c0, c1, c2, c3].drop 0).take (Tryz.prog.cellsOf 3)) = xs[0]? := hf 0 _ rfl
   have f1 : DataW.trod enc Tryz.prog w base (fun _ => true) held m 27 (([c0, c1, c2, c3].drop 1).take (Tryz.prog.cellsOf 27)) = xs[1]? := hf 1 _ rfl
   have f2 : DataW.trod enc Tryz.prog w base (fun _ => true) held m 28 (([c0, c1, c2, c3].drop 3).take (Tryz.prog.cellsOf 28)) = xs[2]? := hf 2 _ rfl
   rw [jH] at f0
   rw [JW] at f1
   rw [JV] at f2
   have hl3 : xs.length = 3 := hxl
   match xs, hl3 with
   | [x0, x1, x2], _ =>
    obtain ⟨kd, hK, _, _⟩ := DataW.trod_int Tryz.underlying3 f0
    obtain ⟨ys, m2, _, _, hl2, hyl, hg⟩ := DataW.trod_struct Tryz.underlying27 f1
    have g0 : DataW.trod enc Tryz.prog w base (fun _ => true) held m2 24 (([c1, c2].drop 0).take (Tryz.prog.cellsOf 24)) = ys[0]? := hg 0 _ rfl
    have g1 : DataW.trod enc Tryz.prog w base (fun _ => true) held m2 25 (([c1, c2].drop 1).take (Tryz.prog.cellsOf 25)) = ys[1]? := hg 1 _ rfl
    rw [uU] at g0
    rw [JU] at g1
    have hl4 : ys.length = 2 := hyl
    match ys, hl4 with
    | [y0, y1], _ =>
     obtain ⟨R, hA, oA⟩ := open_row g0
     obtain ⟨B, bn, bc, rows, hB, hbn, oB⟩ := Fq g1
     simp at hK hA hB
     subst hK; subst hA; subst hB
     rcases mP Tryz.underlying28 f2 with h0 | ⟨a', len, cap, n', hm', h0, hlc, hcm, hx⟩
     ·
      simp at h0
      subst h0
      refine ⟨⟨kd, R.p, R.n, R.c, R.xs, B, bn, bc, rows, none, 0, 0, []⟩, rfl, ?_⟩
      rw [dU]
      exact ⟨⟨oA.1, hbn, rfl, by decide⟩, oA.2, oB, fun k hk => absurd hk (by simp), by rw [Bw]; trivial⟩
     ·
      simp at h0
      subst h0
      haveI : Inhabited FT := ⟨aY⟩
      obtain ⟨f, Al⟩ := Go.Deep.choose_lt (α := FT) (n := len) (p := fun i p => (∀ r, r < 4 → w.cell? ((a'.add (i * 4)).add r) = ([.int .i64 p.kind, .slice p.Y p.yn p.yc, .slice p.B p.bn p.bc, .slice p.L p.ln p.lc] : List Value)[r]?) ∧ dU w p) (fun i hi => by
       obtain ⟨cs', y, h1, h2⟩ := hx i hi
       rw [Ej] at h1
       obtain ⟨_, hlen, hcell⟩ := World.cells?_some h1
       obtain ⟨p, hp, hr⟩ := ih n' (by omega) h2
       exact ⟨p, fun r hr => by rw [hcell r hr, hp], hr⟩)
      refine ⟨⟨kd, R.p, R.n, R.c, R.xs, B, bn, bc, rows, some a', len, cap, (List.range len).map f⟩, rfl, ?_⟩
      rw [dU]
      refine ⟨⟨oA.1, hbn, by simp, by unfold maxLen at hcm; omega⟩, oA.2, oB, fun k hk => ?_, KD fun k hk => ?_⟩
      ·
       have hk' : k < len := by simpa using hk
       rw [ny f aY hk']
       obtain ⟨h1, _⟩ := Al k hk'
       obtain ⟨b, off, spot⟩ := a'
       have hspot : spot = none := by
        have := World.cell?_spot ((Al 0 (by omega)).1 0 (by omega))
        rw [Nat.zero_mul] at this
        have h9 : (((⟨b, off, spot⟩ : Addr).add 0).add 0) = ⟨b, off, spot⟩ := by unfold Addr.add; simp
        rw [h9] at this
        exact this
       subst hspot
       have key : ∀ r, r < 4 → w.cell? ⟨b, off + k * 4 + r, none⟩ = ([.int .i64 (f k).kind, .slice (f k).Y (f k).yn (f k).yc, .slice (f k).B (f k).bn (f k).bc, .slice (f k).L (f k).ln (f k).lc] : List Value)[r]? := fun r hr => by
        have := h1 r hr
        rw [Go.WideShapes.add_plain, Go.WideShapes.add_plain] at this
        exact this
       exact ⟨b, off, rfl, key 0 (by omega), key 1 (by omega), key 2 (by omega), key 3 (by omega)⟩
      ·
       have hk' : k < len := by simpa using hk
       rw [ny f aY hk']
       exact (Al k hk').2
theorem Lv : ∀ (N n : Nat), n ≤ N → ∀ {cs : List Value} {x : DataW H × List MemPlace}, DataW.trod enc Tryz.prog w base (fun _ => true) held n 39 cs = some x →
  ∃ t : TT, cs = [.int .i64 t.c, .slice t.A t.na t.ca, .int .i64 t.pc, .slice t.Z t.nz t.cz, .slice t.L t.ln t.lc] ∧ bI w t := by
 intro N
 induction N with
 | zero =>
  intro n hn cs x h
  obtain rfl : n = 0 := by omega
  simp [DataW.trod] at h
 | succ N ih =>
  intro n hn cs x h
  obtain ⟨xs, m, rfl, _, hl, hxl, hf⟩ := DataW.trod_struct Tryz.underlying39 h
  rw [Ei] at hl
  match cs, hl with
  | [c0, c1, c2, c3, c4], _ =>
   have f0 : DataW.trod enc Tryz.prog w base (fun _ => true) held m 3 (([c0, c1, c2, c3, c4].drop 0).take (Tryz.prog.cellsOf 3)) = xs[0]? := hf 0 _ rfl
   have f1 : DataW.trod enc Tryz.prog w base (fun _ => true) held m 36 (([c0, c1, c2, c3, c4].drop 1).take (Tryz.prog.cellsOf 36)) = xs[1]? := hf 1 _ rfl
   have f2 : DataW.trod enc Tryz.prog w base (fun _ => true) held m 37 (([c0, c1, c2, c3, c4].drop 4).take (Tryz.prog.cellsOf 37)) = xs[2]? := hf 2 _ rfl
   rw [jH] at f0
   rw [Gb] at f1
   rw [JS] at f2
   have hl3 : xs.length = 3 := hxl
   match xs, hl3 with
   | [x0, x1, x2], _ =>
    obtain ⟨C, hC, _, _⟩ := DataW.trod_int Tryz.underlying3 f0
    obtain ⟨ys, m2, _, _, hl2, hyl, hg⟩ := DataW.trod_struct Tryz.underlying36 f1
    have g0 : DataW.trod enc Tryz.prog w base (fun _ => true) held m2 24 (([c1, c2, c3].drop 0).take (Tryz.prog.cellsOf 24)) = ys[0]? := hg 0 _ rfl
    have g1 : DataW.trod enc Tryz.prog w base (fun _ => true) held m2 3 (([c1, c2, c3].drop 1).take (Tryz.prog.cellsOf 3)) = ys[1]? := hg 1 _ rfl
    have g2 : DataW.trod enc Tryz.prog w base (fun _ => true) held m2 24 (([c1, c2, c3].drop 2).take (Tryz.prog.cellsOf 24)) = ys[2]? := hg 2 _ rfl
    rw [uU] at g0 g2
    rw [jH] at g1
    have hl4 : ys.length = 3 := hyl
    match ys, hl4 with
    | [y0, y1, y2], _ =>
     obtain ⟨RA, hA, oA⟩ := open_row g0
     obtain ⟨pC, Xk, _, _⟩ := DataW.trod_int Tryz.underlying3 g1
     obtain ⟨RZ, hZ, oZ⟩ := open_row g2
     simp at hC hA Xk hZ
     subst hC; subst hA; subst Xk; subst hZ
     rcases mP Tryz.underlying37 f2 with h0 | ⟨a', len, cap, n', hm', h0, hlc, hcm, hx⟩
     ·
      simp at h0
      subst h0
      refine ⟨⟨C, RA.p, RA.n, RA.c, RA.xs, pC, RZ.p, RZ.n, RZ.c, RZ.xs, none, 0, 0, []⟩, rfl, ?_⟩
      rw [bI]
      exact ⟨⟨oA.1, oZ.1, rfl, by decide⟩, oA.2, oZ.2, fun k hk => absurd hk (by simp), by rw [xy]; trivial⟩
     ·
      simp at h0
      subst h0
      haveI : Inhabited TT := ⟨noT⟩
      obtain ⟨f, Al⟩ := Go.Deep.choose_lt (α := TT) (n := len) (p := fun i p => (∀ r, r < 5 → w.cell? ((a'.add (i * 5)).add r) = ([.int .i64 p.c, .slice p.A p.na p.ca, .int .i64 p.pc, .slice p.Z p.nz p.cz, .slice p.L p.ln p.lc] : List Value)[r]?) ∧ bI w p) (fun i hi => by
       obtain ⟨cs', y, h1, h2⟩ := hx i hi
       rw [Ei] at h1
       obtain ⟨_, hlen, hcell⟩ := World.cells?_some h1
       obtain ⟨p, hp, hr⟩ := ih n' (by omega) h2
       exact ⟨p, fun r hr => by rw [hcell r hr, hp], hr⟩)
      refine ⟨⟨C, RA.p, RA.n, RA.c, RA.xs, pC, RZ.p, RZ.n, RZ.c, RZ.xs, some a', len, cap, (List.range len).map f⟩, rfl, ?_⟩
      rw [bI]
      refine ⟨⟨oA.1, oZ.1, by simp, by unfold maxLen at hcm; omega⟩, oA.2, oZ.2, fun k hk => ?_, y8 fun k hk => ?_⟩
      ·
       have hk' : k < len := by simpa using hk
       rw [ny f noT hk']
       obtain ⟨h1, _⟩ := Al k hk'
       obtain ⟨b, off, spot⟩ := a'
       have hspot : spot = none := by
        have := World.cell?_spot ((Al 0 (by omega)).1 0 (by omega))
        rw [Nat.zero_mul] at this
        have h9 : (((⟨b, off, spot⟩ : Addr).add 0).add 0) = ⟨b, off, spot⟩ := by unfold Addr.add; simp
        rw [h9] at this
        exact this
       subst hspot
       have key : ∀ r, r < 5 → w.cell? ⟨b, off + k * 5 + r, none⟩ = ([.int .i64 (f k).c, .slice (f k).A (f k).na (f k).ca, .int .i64 (f k).pc, .slice (f k).Z (f k).nz (f k).cz, .slice (f k).L (f k).ln (f k).lc] : List Value)[r]? := fun r hr => by
        have := h1 r hr
        rw [Go.WideShapes.add_plain, Go.WideShapes.add_plain] at this
        exact this
       exact ⟨b, off, rfl, key 0 (by omega), key 1 (by omega), key 2 (by omega), key 3 (by omega), key 4 (by omega)⟩
      ·
       have hk' : k < len := by simpa using hk
       rw [ny f noT hk']
       exact (Al k hk').2
theorem yj {r : Reach} {b0 : Nat} {v : Value} {d : DataW H} {ps : List MemPlace} (hval : Value.okWide Tryz.prog w r b0 30 v) (hd : DataW.Trod enc Tryz.prog w base (fun _ => true) held 30 v d ps) : ∃ f : FT, v = fV f ∧ dU w f := by
 obtain ⟨cs, rfl, hsz⟩ := okWide_struct Tryz.underlying30 hval
 obtain ⟨n, h⟩ := hd
 obtain ⟨f, hf, hr⟩ := LA n n (Nat.le_refl _) h
 obtain ⟨cl⟩ := cs
 simp only [Value.cells] at hf
 subst hf
 exact ⟨f, rfl, hr⟩
theorem open_tree {r : Reach} {b0 : Nat} {v : Value} {d : DataW H} {ps : List MemPlace} (hval : Value.okWide Tryz.prog w r b0 39 v) (hd : DataW.Trod enc Tryz.prog w base (fun _ => true) held 39 v d ps) : ∃ t : TT, v = tV t ∧ bI w t := by
 obtain ⟨cs, rfl, hsz⟩ := okWide_struct Tryz.underlying39 hval
 obtain ⟨n, h⟩ := hd
 obtain ⟨f, hf, hr⟩ := Lv n n (Nat.le_refl _) h
 obtain ⟨cl⟩ := cs
 simp only [Value.cells] at hf
 subst hf
 exact ⟨f, rfl, hr⟩
theorem Iu {r : Reach} {b0 : Nat} {v : Value} {d : DataW H} {ps : List MemPlace} (hval : Value.okWide Tryz.prog w r b0 24 v) (hd : DataW.Trod enc Tryz.prog w base (fun _ => true) held 24 v d ps) :
  ∃ (A : Option Addr) (n c : Nat) (xs : List Int), v = .slice A n c ∧ xs.length = n ∧ n ≤ c ∧ n < 9223372036854775808 ∧ Sl w A xs := by
 obtain ⟨a, len, cap, rfl⟩ := okWide_slice Tryz.underlying24 hval
 obtain ⟨A, n, c, xs, e, h1, h2⟩ := Lx hval hd
 cases e
 obtain ⟨n', h⟩ := hd
 rcases mP Tryz.underlying24 h with h0 | ⟨a', len', cap', n'', _, h0, hlc, hcm, _⟩
 ·
  simp [Value.cells] at h0
  exact ⟨_, _, _, xs, rfl, h1, by omega, by first | omega | (unfold maxLen at hcm; omega), h2⟩
 ·
  simp [Value.cells] at h0
  exact ⟨_, _, _, xs, rfl, h1, by omega, by first | omega | (unfold maxLen at hcm; omega), h2⟩
end
end Go.Proofs.YtbljkkpnpcgjfaaGreatDoor
namespace Go.Proofs.YtbljkkpnpcgjfaaGreatDoor
open Go.RowKit rM
structure PD where
 f : FT
 t : TT
 p : Nat
 K : Option Addr
 kn : Nat
 kc : Nat
 ks : List Int
 A : Option Addr
 an : Nat
 ac : Nat
 ch : Int
 dn : Bool
 l : List PD
abbrev eG : PD := ⟨aY, noT, 0, none, 0, 0, [], none, 0, 0, 0, false, []⟩
abbrev YZ (f : FT) (t : TT) (K : Option Addr) (kn kc : Nat) (A : Option Addr) (an ac : Nat) (ch : Int) (dn : Bool) : Array Value := #[.int .i64 f.kind, .slice f.Y f.yn f.yc, .slice f.B f.bn f.bc, .slice f.L f.ln f.lc, .int .i64 t.c, .slice t.A t.na t.ca, .int .i64 t.pc, .slice t.Z t.nz t.cz, .slice t.L t.ln t.lc, .slice K kn kc, .slice A an ac, .int .i64 ch, .bool dn]
abbrev t_ (f : FT) (t : TT) (K : Option Addr) (kn kc : Nat) (A : Option Addr) (an ac : Nat) (ch : Int) (dn : Bool) : Obj := .cells (YZ f t K kn kc A an ac ch dn) 100
abbrev oM (p : Nat) : Value := .pointer (some ⟨p, 0, none⟩)
def VH (w : World) (A : Option Addr) (l : List PD) : Prop := ∀ k, k < l.length → ∃ b o, A = some ⟨b, o, none⟩ ∧ w.cell? ⟨b, o + k, none⟩ = some (oM (l.getD k eG).p)
mutual
def jP (w : World) : PD → Prop
 | ⟨f, t, p, K, kn, kc, ks, A, an, ac, ch, dn, l⟩ => w.heap[p]? = some (t_ f t K kn kc A an ac ch dn) ∧ (ks.length = kn ∧ l.length = an) ∧ Sl w K ks ∧ bI w t ∧ VH w A l ∧ xE w l
def xE (w : World) : List PD → Prop
 | [] => True
 | d :: l => jP w d ∧ xE w l
end
theorem jP.parts {w : World} {d : PD} (h : jP w d) : w.heap[d.p]? = some (t_ d.f d.t d.K d.kn d.kc d.A d.an d.ac d.ch d.dn) ∧ (d.ks.length = d.kn ∧ d.l.length = d.an) ∧ Sl w d.K d.ks ∧ bI w d.t ∧ VH w d.A d.l ∧ xE w d.l := by
 cases d
 rwa [jP] at h
theorem xE.get {w : World} : ∀ {l : List PD} {k : Nat}, xE w l → k < l.length → jP w (l.getD k eG)
 | d :: l, 0, h, _ => by rw [xE] at h; exact h.1
 | d :: l, k + 1, h, hk => by
  rw [xE] at h
  rw [List.getD_cons_succ]
  exact xE.get h.2 (by simpa using hk)
theorem Ke {w : World} : ∀ {l : List PD}, (∀ k, k < l.length → jP w (l.getD k eG)) → xE w l
 | [], _ => by rw [xE]; trivial
 | d :: l, h => by
  rw [xE]
  exact ⟨by have := h 0 (by simp); rwa [List.getD_cons_zero] at this, Ke fun k hk => by have := h (k + 1) (by simpa using hk); rwa [List.getD_cons_succ] at this⟩
mutual
theorem jP.below {w w' : World} (hb : Below w.heap.size w w') : ∀ {d : PD}, jP w d → jP w' d
 | ⟨f, t, p, K, kn, kc, ks, A, an, ac, ch, dn, l⟩, h => by
  rw [jP] at h ⊢
  refine ⟨(hb.block p (Array.getElem?_eq_some_iff.1 h.1).1).trans h.1, h.2.1, h.2.2.1.below hb, bI.below hb h.2.2.2.1, fun k hk => ?_, xE.below hb h.2.2.2.2.2⟩
  obtain ⟨b, o, e, hc⟩ := h.2.2.2.2.1 k hk
  exact ⟨b, o, e, cell_below hc hb⟩
theorem xE.below {w w' : World} (hb : Below w.heap.size w w') : ∀ {l : List PD}, xE w l → xE w' l
 | [], _ => by rw [xE]; trivial
 | d :: l, h => by
  rw [xE] at h ⊢
  exact ⟨jP.below hb h.1, xE.below hb h.2⟩
end
def fB (D : Nat → Prop) (w : World) (R : World → Prop) : Prop := ∀ u : World, (∀ k, k < w.heap.size → D k → u.heap[k]? = w.heap[k]?) → R u
theorem fB.here {D : Nat → Prop} {w : World} {R : World → Prop} (h : fB D w R) : R w := h w (fun _ _ _ => rfl)
theorem fB.step {D D2 : Nat → Prop} {w w2 : World} {R : World → Prop} (h : fB D w R) (ha : ∀ k, k < w.heap.size → D k → w2.heap[k]? = w.heap[k]?) (hz : w.heap.size ≤ w2.heap.size) (hD : ∀ k, k < w.heap.size → D k → D2 k) : fB D2 w2 R := fun u hu => h u (fun k h1 h2 => (hu k (by omega) (hD k h1 h2)).trans (ha k h1 h2))
theorem fB.mono {D D2 : Nat → Prop} {w : World} {R : World → Prop} (h : fB D w R) (hD : ∀ k, k < w.heap.size → D k → D2 k) : fB D2 w R := h.step (fun _ _ _ => rfl) (Nat.le_refl _) hD
mutual
def PD.gd (P Q G : Int) (xs : List Int) : PD → Prop
 | ⟨f, t, p, K, kn, kc, ks, A, an, ac, ch, dn, l⟩ => (dn = true ∧ f.acc P Q t) ∨ (dn = false ∧ ((f.kind = 1 ∧ l = [] ∧ ks.length = aU f.rows ∧ ks.all (cu Q) = true ∧ t.al = (f.rows.map fun r => aO P 1 r.xs ks) ∧ t.na = t.al.length ∧ lS P Q G f.ys f.rows (xs.take (aU f.rows)) = true) ∨
   (f.kind ≠ 1 ∧ l.length = f.l.length ∧ RI P Q G xs f.l l ∧ (f.kind = 2 → ∀ k, k < l.length → (l.getD k eG).dn = false) ∧ (f.kind ≠ 2 → ∃ j, j < l.length ∧ ch = (j : Int) ∧ ∀ k, k < l.length → (l.getD k eG).dn = decide (k ≠ j)))))
def RI (P Q G : Int) (xs : List Int) : List FT → List PD → Prop
 | f :: fs, d :: ds => (d.f = f ∧ d.gd P Q G xs) ∧ RI P Q G xs fs ds
 | _, _ => True
end
theorem yH {P Q G : Int} {xs : List Int} : ∀ {fs : List FT} {ds : List PD}, ds.length = fs.length → (RI P Q G xs fs ds ↔ ∀ k, k < ds.length → (ds.getD k eG).f = fs.getD k aY ∧ (ds.getD k eG).gd P Q G xs)
 | [], [], _ => by rw [RI]; simp; simp
 | f :: fs, d :: ds, h => by
  rw [RI, yH (by simpa using h)]
  constructor
  ·
   rintro ⟨h1, h2⟩ k hk
   cases k with
   | zero => simpa using h1
   | succ k => simpa using h2 k (by simpa using hk)
  ·
   intro h
   refine ⟨by simpa using h 0 (by simp), fun k hk => ?_⟩
   simpa using h (k + 1) (by simpa using hk)
theorem PD.gd_eq {P Q G : Int} {xs : List Int} (d : PD) : d.gd P Q G xs ↔ (d.dn = true ∧ d.f.acc P Q d.t) ∨ (d.dn = false ∧ ((d.f.kind = 1 ∧ d.l = [] ∧ d.ks.length = aU d.f.rows ∧ d.ks.all (cu Q) = true ∧ d.t.al = (d.f.rows.map fun r => aO P 1 r.xs d.ks) ∧ d.t.na = d.t.al.length ∧ lS P Q G d.f.ys d.f.rows (xs.take (aU d.f.rows)) = true) ∨
      (d.f.kind ≠ 1 ∧ d.l.length = d.f.l.length ∧ (∀ k, k < d.l.length → (d.l.getD k eG).f = d.f.l.getD k aY ∧ (d.l.getD k eG).gd P Q G xs) ∧ (d.f.kind = 2 → ∀ k, k < d.l.length → (d.l.getD k eG).dn = false) ∧ (d.f.kind ≠ 2 → ∃ j, j < d.l.length ∧ d.ch = (j : Int) ∧ ∀ k, k < d.l.length → (d.l.getD k eG).dn = decide (k ≠ j))))) := by
  obtain ⟨f, t, p, K, kn, kc, ks, A, an, ac, ch, dn, l⟩ := d
  rw [PD.gd]
  constructor
  · rintro (h | ⟨h0, h | ⟨h1, h2, h3, h4⟩⟩)
    · exact .inl h
    · exact .inr ⟨h0, .inl h⟩
    · exact .inr ⟨h0, .inr ⟨h1, h2, (yH h2).1 h3, h4⟩⟩
  · rintro (h | ⟨h0, h | ⟨h1, h2, h3, h4⟩⟩)
    · exact .inl h
    · exact .inr ⟨h0, .inl h⟩
    · exact .inr ⟨h0, .inr ⟨h1, h2, (yH h2).2 h3, h4⟩⟩
mutual
def PD.com : PD → List Row
 | ⟨f, t, p, K, kn, kc, ks, A, an, ac, ch, dn, l⟩ => if dn = true then f.com t else if f.kind = 1 then [⟨t.A, t.na, t.ca, t.al⟩] else iC l
def iC : List PD → List Row
 | d :: l => d.com ++ iC l
 | [] => []
end
theorem PD.com_eq (d : PD) : d.com = if d.dn = true then d.f.com d.t else if d.f.kind = 1 then [⟨d.t.A, d.t.na, d.t.ca, d.t.al⟩] else iC d.l := by cases d; rw [PD.com]
def rR (P Q G : Int) (xs : List Int) (b : Nat) (f : FT) (e0 : Int) (w : World) (e : Ending) (w' : World) : Prop :=
 ∃ (e1 : Int) (d : PD), e = .returned (oM d.p) ∧ gp w' b P Q G e1 ∧ w.grownBy w' (some b) ∧ (e1 = 0 → e0 = 0 ∧ d.f = f ∧ d.dn = false ∧ d.gd P Q G xs ∧ fB (fun k => w.heap.size ≤ k) w' (fun u => jP u d))
theorem JN {P Q G : Int} {ys : List Int} {rows : List Row} {ls : List Int} (h1 : aP P Q G ys rows = true) (h2 : ls.length = aU rows) (h3 : ls.all (cu Q) = true) : p9 P Q G ys rows ls [] = 0 := by
 unfold p9
 rw [if_pos h1, if_pos h2, if_pos h3, if_pos (by simp)]
theorem uM (w : World) (o1 o2 o3 o4 : Obj) : ∃ w0, Hid ((((w.alloc o1).alloc o2).alloc o3).alloc o4 = w0) ∧ Below w.heap.size w w0 ∧ w0.heap.size = w.heap.size + 4 ∧ w0.heap[w.heap.size]? = some o1 ∧ w0.heap[w.heap.size + 1]? = some o2 ∧ w0.heap[w.heap.size + 2]? = some o3 ∧ w0.heap[w.heap.size + 3]? = some o4 := by
 obtain ⟨u, hu, hb, hs, h1, h2, h3⟩ := qA w o1 o2 o3
 have b4 := ai u o4
 have h4 := heap_alloc_new u o4
 rw [hs] at h4
 refine ⟨_, aa (by rw [hu.out]), af hb b4, by simp [hs], ?_, ?_, ?_, h4⟩
 · exact (b4.block _ (by omega)).trans h1
 · exact (b4.block _ (by omega)).trans h2
 · exact (b4.block _ (by omega)).trans h3
theorem AP (P Q G : Int) (hG : Hid (aJ P Q G = true)) (W0 : World) (b : Nat) (iG : W0.heap.size ≤ b) (hv : Hid (Vars W0)) (hd : Hid (bX W0)) (X : Option Addr) (xs : List Int) (xn xc : Nat) (f : FT) (e0 : Int) (w : World) (hB : Hid (Below W0.heap.size W0 w)) (hF : Hid (dU W0 f)) (hS : Hid (gp w b P Q G e0)) (hk : f.kind = 1) (ha : f.at_ P Q G) (hl : f.l = []) (hh : f.hld P Q G xs = true) :
  Calls Tryz.prog 29 #[.pointer (some ⟨b, 0, none⟩), fV f, .slice X xn xc] w (rR P Q G xs b f e0 w) := by
 obtain ⟨p1, p2, p3, p4⟩ := aM hG.out
 have hblt := hS.out.lt
 have kr := VF.rel ha hk
 have HU := aa (fun u hF => mU P Q G f.dp f u (Nat.le_refl _) hF ha)
 have hun : f.unk = aU f.rows := by rw [f.unk_eq, if_pos hk]
 rw [hun] at HU
 have h12 := (ak kr).2.2.2.2.2.2.1
 rw [f.hld_eq, if_pos hk] at hh
 have Ws := aa (fun (d : PD) (h : d.f = f) => h)
 clear ha hun
 obtain ⟨kind, Y, yn, yc, ys, B, bn, bc, rows, L, ln, lc, l⟩ := f
 obtain ⟨hyn, hbn, hln, hlb⟩ := hF.out.lens
 dsimp only at hk kr HU h12 hyn hbn hln hlb hl hh
 subst hk
 obtain rfl : bn = yn := by rw [← hyn, ← hbn]; exact (ak kr).2.2.2.1
 obtain ⟨nu, hnu⟩ : ∃ z, aU rows = z := ⟨_, rfl⟩
 rw [hnu] at HU h12
 obtain ⟨w0, HW, hbw, hsz, m0, m1, m2, m3⟩ := uM w (.cells #[.pointer (some ⟨b, 0, none⟩)] 67) (fO 1 Y bn yc B bn bc L ln lc) (.cells #[.slice X xn xc] 24) (t_ ⟨1, Y, bn, yc, ys, B, bn, bc, rows, L, ln, lc, l⟩ noT none 0 0 none 0 0 0 false)
 have av := aa hbw
 have hS0 := hS.out.below hbw
 have hh' : aU rows = nu := hnu
 have HB0 := cZ hB hbw
 have kF := aa (fun (u : World) (h : Hid (Below W0.heap.size W0 u)) => aa (hF.out.below h.out))
 have kV := aa (fun (u : World) (h : Hid (Below W0.heap.size W0 u)) => aa (hv.out.below h.out))
 have kD := aa (fun (u : World) (h : Hid (Below W0.heap.size W0 u)) => aa (hd.out.below h.out))
 have nE := aa hS0
 have M := aa (And.intro m0 (And.intro m1 m3))
 have HN := aa (And.intro p1 (And.intro p2 (And.intro p3 (And.intro p4 (And.intro hblt hsz)))))
 have hQ : Q < 9223372036854775808 := by omega
 have VQ := aa kr
 have HH := aa hh
 have Uh := aa (And.intro hyn (And.intro hbn hnu))
 have hBw := hB
 clear hS0 m2 hS hB hbw hF hv hd p1 p2 p3 p4 hblt hsz kr hh hyn hbn hnu hh'
 go_in
 go_upto_region 2 with (fail)
 rw [show (((w.alloc (.cells #[.pointer (some ⟨b, 0, none⟩)] 67)).alloc (fO 1 Y bn yc B bn bc L ln lc)).alloc (.cells #[.slice X xn xc] 24)).alloc (t_ ⟨1, Y, bn, yc, ys, B, bn, bc, rows, L, ln, lc, l⟩ noT none 0 0 none 0 0 0 false) = w0 from HW.out]
 have c0 : w0.cell? ⟨w.heap.size, 0, none⟩ = some (.pointer (some ⟨b, 0, none⟩)) := aj m0 0
 have f0 : w0.cell? ⟨w.heap.size + 1, 0, none⟩ = some (.int .i64 1) := aj m1 0
 have f1 : w0.cell? ⟨w.heap.size + 1, 1, none⟩ = some (.slice Y bn yc) := aj m1 1
 have f2 : w0.cell? ⟨w.heap.size + 1, 2, none⟩ = some (.slice B bn bc) := aj m1 2
 have f3 : w0.cell? ⟨w.heap.size + 1, 3, none⟩ = some (.slice L ln lc) := aj m1 3
 clear m0 m1 m3
 go_upto_region 12 with (fail)
 have hn0 : w.heap.size ≠ b := by have := HN.out; omega
 have hn1 : w.heap.size + 1 ≠ b := by have := HN.out; omega
 have Q7 : w.heap.size + 3 ≠ b := by have := HN.out; omega
 have hO := aa (fun (u : World) (hu : Hid (w0.grownBy u (some b))) => And.intro (aI hu.out hn0 c0) (And.intro (aI hu.out hn1 f0) (And.intro (aI hu.out hn1 f1) (And.intro (aI hu.out hn1 f2) (aI hu.out hn1 f3)))))
 clear c0 f0 f1 f2 f3
 refine BK (fun u => w0.grownBy u (some b)) [7] (aa (aC (Below.refl _ _).drew _)) (fun hHeld => ?_)
 refine aQ 0 ?_
 refine aQ 1 ?_
 refine aQ 2 ?_
 refine dO 3 fun K hK => ?_
 go_simp
 refine (HU.out _ (kF.out _ (dx HB0 iG rfl hHeld.out))).mono ?_
 rintro e w1 ⟨rfl, hb1⟩
 have lX := aa ((nE.out.agree (w' := w0.drew) rfl).below hb1)
 refine hK.out _ _ (aa (ax hHeld.out (aC hb1 _))) (fun hHeld => ?_)
 clear hK K hb1
 refine dO 4 fun K hK => ?_
 go_simp
 refine (o9 P Q G b e0 nu (by omega) (by have := HN.out; omega) (by have := HN.out; omega) w1 (kD.out _ (dx HB0 iG rfl hHeld.out)) lX).mono ?_
 rintro e w2 ⟨e1, A, m, ca, ks, rfl, hp2, hg2, hfin⟩
 have MX := aa hHeld.out.size
 refine hK.out _ _ (aa (ax hHeld.out hg2)) (fun hHeld => ?_)
 clear hK K
 refine aQ 5 ?_
 refine aQ 6 ?_
 have sF : Hid (w2.heap[w.heap.size + 3]? = some (t_ ⟨1, Y, bn, yc, ys, B, bn, bc, rows, L, ln, lc, l⟩ noT none 0 0 none 0 0 0 false)) := aa (gW hHeld.out Q7 M.out.2.2)
 have k1 : w2.cell? ⟨w.heap.size + 1 + 1 + 1, 9, none⟩ = some (.slice none 0 0) := aj sF.out 9
 have k2 : w2.frozen? ⟨w.heap.size + 1 + 1 + 1, 9, none⟩ = false := aS sF.out 9
 refine mo 7 fun K hK => ?_
 go_simp
 refine hK.out _ _ ?_
 clear hK K
 refine jf ?_
 clear hO k1 k2
 have Bh := aa (hp2.agree (w' := w2.setCell ⟨w.heap.size + 1 + 1 + 1, 9, none⟩ (.slice A m ca)) (Go.Deep.blk_setCell_other _ _ _ _ (Ne.symm Q7)))
 have M4 : Hid ((w2.setCell ⟨w.heap.size + 1 + 1 + 1, 9, none⟩ (.slice A m ca)).heap[w.heap.size + 3]? = some (t_ ⟨1, Y, bn, yc, ys, B, bn, bc, rows, L, ln, lc, l⟩ noT A m ca none 0 0 0 false)) := aa (heap_setCell_same w2 (w.heap.size + 3) 9 _ _ _ sF.out)
 have I9 : ∀ k, k ≠ w.heap.size + 3 → (w2.setCell ⟨w.heap.size + 1 + 1 + 1, 9, none⟩ (.slice A m ca)).heap[k]? = w2.heap[k]? := fun k hk => Go.Deep.blk_setCell_other _ _ _ _ hk
 have uB : (w2.setCell ⟨w.heap.size + 1 + 1 + 1, 9, none⟩ (.slice A m ca)).heap.size = w2.heap.size := World.size_setCell _ _ _
 have Ex : Hid (w.grownBy (w2.setCell ⟨w.heap.size + 1 + 1 + 1, 9, none⟩ (.slice A m ca)) (some b)) := aa (dh (ax (aC av.out (some b)) hHeld.out) (by omega) _)
 obtain ⟨w3, hw3⟩ : ∃ u, w2.setCell ⟨w.heap.size + 1 + 1 + 1, 9, none⟩ (.slice A m ca) = u := ⟨_, rfl⟩
 rw [hw3] at Bh M4 I9 Ex uB ⊢
 clear hw3
 have KW := aa ((I9 _ (by omega)).trans (gW hHeld.out hn0 M.out.1))
 have PM := aa ((I9 (w.heap.size + 1) (by omega)).trans (gW hHeld.out hn1 M.out.2.1))
 have GI := aa hfin
 have Qm := aa I9
 have HZ := aa (And.intro uB (And.intro hg2.size (And.intro MX.out hHeld.out.size)))
 clear hp2 hg2 hfin hHeld I9 uB lX nE sF M HU
 obtain ⟨q1, q2⟩ := Bh.out.ce
 have c0 : w3.cell? ⟨w.heap.size, 0, none⟩ = some (.pointer (some ⟨b, 0, none⟩)) := aj KW.out 0
 by_cases he1 : e1 = 0
 case neg =>
  have d1 : (e1 == 0) = false := by simp [he1]
  have Dr := aa he1
  clear he1
  go_wp2
  go_ret
  exact ⟨e1, { eG with p := w.heap.size + 3 }, rfl, Bh.out, Ex.out, fun h => absurd h Dr.out⟩
 subst he1
 have Bi : Hid (e0 = 0 ∧ m = nu ∧ ks.length = nu ∧ ks.all (cu Q) = true ∧ Sl w3 A ks ∧ (0 < ks.length → ∃ g, A = some ⟨g, 0, none⟩ ∧ w1.heap.size ≤ g)) := aa (by
  obtain ⟨f1, f2, f3, f4, f5, f6⟩ := GI.out rfl
  refine ⟨f1, f2, f3, f4, f5.agree (fun bb o e h0 => ?_), f6⟩
  obtain ⟨g, g1, g2⟩ := f6 h0
  rw [e] at g1
  cases g1
  exact Qm.out bb (by have := HZ.out; have := HN.out; omega))
 have hr : Hid (p9 P Q G ys rows ks [] = 0) := aa (by
  exact JN VQ.out (by rw [Uh.out.2.2]; exact Bi.out.2.2.1) Bi.out.2.2.2.1)
 have hkm : ks.length = m := by rw [Bi.out.2.1]; exact Bi.out.2.2.1
 have Zj : m ≤ 12 := by have := Bi.out; omega
 clear GI Qm
 go_upto_region 14 with (fail)
 clear q1 q2 c0
 have HB3 := dx (W := W0) (w := w) (u := w3) hBw iG rfl Ex.out
 refine BK (fun u => u.cell? ⟨w.heap.size, 0, none⟩ = some (.pointer (some ⟨b, 0, none⟩)) ∧ (u.cell? ⟨b, 0, none⟩ = some (.int .i64 P) ∧ u.cell? ⟨b, 1, none⟩ = some (.int .i64 Q) ∧ u.cell? ⟨b, 2, none⟩ = some (.int .i64 G)) ∧ u.cell? ⟨w.heap.size + 1, 1, none⟩ = some (.slice Y bn yc) ∧ u.cell? ⟨w.heap.size + 1, 2, none⟩ = some (.slice B bn bc) ∧ u.cell? ⟨w.heap.size + 1 + 1 + 1, 9, none⟩ = some (.slice A m ca)) []
  (aa ⟨aj KW.out 0, Bh.out.c0, aj PM.out 1, aj PM.out 2, aj M4.out 9⟩) (fun hHeld => ?_)
 have hO := aa (fun (u : World) (hu : Hid (u.cell? ⟨w.heap.size, 0, none⟩ = some (.pointer (some ⟨b, 0, none⟩)) ∧ (u.cell? ⟨b, 0, none⟩ = some (.int .i64 P) ∧ u.cell? ⟨b, 1, none⟩ = some (.int .i64 Q) ∧ u.cell? ⟨b, 2, none⟩ = some (.int .i64 G)) ∧ u.cell? ⟨w.heap.size + 1, 1, none⟩ = some (.slice Y bn yc) ∧ u.cell? ⟨w.heap.size + 1, 2, none⟩ = some (.slice B bn bc) ∧ u.cell? ⟨w.heap.size + 1 + 1 + 1, 9, none⟩ = some (.slice A m ca))) => hu.out)
 refine aX 0 1 2 3 ?_
 refine aX 4 5 6 7 ?_
 refine aX 8 9 10 11 ?_
 refine dO 12 fun K hK => ?_
 go_simp
 have hu0 : Hid (Below W0.heap.size W0 w3.drew) := aa HB3.out.drew
 obtain ⟨hS1, hS2⟩ := (kF.out _ hu0).out.rel
 refine (Ck P Q G Y ys bn yc B rows bn bc A ks m ca hr (aa Uh.out.1) (aa Uh.out.2.1) (aa hkm) (by omega) hQ _ (kV.out _ hu0) (aa hS1) (aa hS2) (aa (Bi.out.2.2.2.2.1.agree (fun _ _ _ _ => rfl)))).mono ?_
 rintro e w4 ⟨v4, rfl, nT, hb4⟩
 obtain ⟨A2, n2, c2, hv2, hn2, hA2, hf2⟩ := qF nT
 subst hv2
 have KR := aa hn2
 clear hn2
 have Am : Below w3.heap.size w3 w4 := af ((Below.refl _ _).drew) hb4
 have M3 : Hid (w4.heap[w.heap.size + 3]? = some (t_ ⟨1, Y, bn, yc, ys, B, bn, bc, rows, L, ln, lc, l⟩ noT A m ca none 0 0 0 false)) := aa ((Am.block _ (Array.getElem?_eq_some_iff.1 M4.out).1).trans M4.out)
 have YL := aa ((Am.block _ (Array.getElem?_eq_some_iff.1 KW.out).1).trans KW.out)
 have Wu := aa ((Am.block _ (Array.getElem?_eq_some_iff.1 PM.out).1).trans PM.out)
 have Dl := aa (Bh.out.below Am)
 refine hK.out _ _ (aa ⟨aj YL.out 0, Dl.out.c0, aj Wu.out 1, aj Wu.out 2, aj M3.out 9⟩) (fun hHeld => ?_)
 clear hK K hu0 hS1 hS2 nT
 refine aX 13 14 15 16 ?_
 refine aQ 17 ?_
 refine aQ 18 ?_
 refine aQ 19 ?_
 have k1 : w4.cell? ⟨w.heap.size + 1 + 1 + 1, 5, none⟩ = some (.slice none 0 0) := aj M3.out 5
 have k2 : w4.frozen? ⟨w.heap.size + 1 + 1 + 1, 5, none⟩ = false := aS M3.out 5
 refine dO 20 fun K hK => ?_
 go_simp
 have M0 : Hid ((w4.setCell ⟨w.heap.size + 1 + 1 + 1, 5, none⟩ (.slice A2 n2 c2)).heap[w.heap.size + 3]? = some (t_ ⟨1, Y, bn, yc, ys, B, bn, bc, rows, L, ln, lc, l⟩ ⟨0, A2, n2, c2, (rows.map fun r => aO P 1 r.xs ks), 0, none, 0, 0, [], none, 0, 0, []⟩ A m ca none 0 0 0 false)) := aa (heap_setCell_same w4 (w.heap.size + 3) 5 _ _ _ M3.out)
 have pQ : ∀ k, k ≠ w.heap.size + 3 → (w4.setCell ⟨w.heap.size + 1 + 1 + 1, 5, none⟩ (.slice A2 n2 c2)).heap[k]? = w4.heap[k]? := fun k hk => Go.Deep.blk_setCell_other _ _ _ _ hk
 have hsz5 : (w4.setCell ⟨w.heap.size + 1 + 1 + 1, 5, none⟩ (.slice A2 n2 c2)).heap.size = w4.heap.size := World.size_setCell _ _ _
 have S9 : Hid (w.grownBy (w4.setCell ⟨w.heap.size + 1 + 1 + 1, 5, none⟩ (.slice A2 n2 c2)) (some b)) := aa (dh (ax Ex.out (aC Am (some b))) (by omega) _)
 obtain ⟨w5, KH⟩ : ∃ u, w4.setCell ⟨w.heap.size + 1 + 1 + 1, 5, none⟩ (.slice A2 n2 c2) = u := ⟨_, rfl⟩
 rw [KH] at M0 pQ S9 hsz5 ⊢
 clear KH k1 k2
 have ku := aa (Dl.out.agree (pQ b (Ne.symm Q7)))
 have YK := aa ((pQ _ (by omega)).trans YL.out)
 have Un := aa ((pQ (w.heap.size + 1) (by omega)).trans Wu.out)
 refine hK.out _ _ (aa ⟨aj YK.out 0, ku.out.c0, aj Un.out 1, aj Un.out 2, aj M0.out 9⟩) (fun hHeld => ?_)
 clear hK K
 refine aQ 21 ?_
 refine aQ 22 ?_
 obtain ⟨q1, q2⟩ := ku.out.ce
 refine dO 23 fun K hK => ?_
 go_simp
 have GA := aa (ku.out.setE 0 (fun h => h))
 have om : ∀ k, k ≠ b → (w5.setCell ⟨b, 36, none⟩ (.int .i64 0)).heap[k]? = w5.heap[k]? := fun k hk => Go.Deep.blk_setCell_other _ _ _ _ hk
 have QW : (w5.setCell ⟨b, 36, none⟩ (.int .i64 0)).heap.size = w5.heap.size := World.size_setCell _ _ _
 have ND := aa (ax S9.out (eF b 36 (.int .i64 0)))
 obtain ⟨w6, pM⟩ : ∃ u, w5.setCell ⟨b, 36, none⟩ (.int .i64 0) = u := ⟨_, rfl⟩
 rw [pM] at GA om ND QW ⊢
 clear pM q1 q2
 refine hK.out _ _ (aa ⟨aj ((om _ hn0).trans YK.out) 0, GA.out.c0, aj ((om _ hn1).trans Un.out) 1, aj ((om _ hn1).trans Un.out) 2, aj ((om _ Q7).trans M0.out) 9⟩) (fun hHeld => ?_)
 clear hK K
 refine jf ?_
 clear hO
 have qo : Hid (fB (fun k => w.heap.size ≤ k) w6 (fun u => jP u ⟨⟨1, Y, bn, yc, ys, B, bn, bc, rows, L, ln, lc, l⟩, ⟨0, A2, n2, c2, (rows.map fun r => aO P 1 r.xs ks), 0, none, 0, 0, [], none, 0, 0, []⟩, w.heap.size + 3, A, m, ca, ks, none, 0, 0, 0, false, []⟩)) := aa (by
  have hN := HN.out
  have hZ := HZ.out
  have Zf := Am.size
  intro u hu
  rw [jP]
  have Zh : w6.heap[w.heap.size + 3]? = some (t_ ⟨1, Y, bn, yc, ys, B, bn, bc, rows, L, ln, lc, l⟩ ⟨0, A2, n2, c2, (rows.map fun r => aO P 1 r.xs ks), 0, none, 0, 0, [], none, 0, 0, []⟩ A m ca none 0 0 0 false) := (om _ Q7).trans M0.out
  refine ⟨(hu _ (by omega) (by omega)).trans Zh, ⟨hkm, rfl⟩, ?_, ?_, fun k hk => absurd hk (by simp), by rw [xE]; trivial⟩
  ·
   refine Bi.out.2.2.2.2.1.agree (fun bb o e h0 => ?_)
   obtain ⟨g, g1, g2⟩ := Bi.out.2.2.2.2.2 h0
   rw [e] at g1
   cases g1
   obtain ⟨_, _, e2, hc2⟩ := Bi.out.2.2.2.2.1 0 h0
   rw [e] at e2
   cases e2
   have hlt : bb < w3.heap.size := World.block_lt_of_cell? _ _ hc2
   exact (hu bb (by omega) (by omega)).trans ((om bb (by omega)).trans ((pQ bb (by omega)).trans (Am.block bb hlt)))
  ·
   rw [bI]
   refine ⟨⟨KR.out.symm, rfl, rfl, by decide⟩, ?_, fun k hk => absurd hk (by simp), fun k hk => absurd hk (by simp), by rw [xy]; trivial⟩
   refine hA2.agree (fun bb o e h0 => ?_)
   obtain ⟨g, g1, g2⟩ := hf2 h0
   rw [e] at g1
   cases g1
   obtain ⟨_, _, e2, hc2⟩ := hA2 0 h0
   rw [e] at e2
   cases e2
   have hlt : bb < w4.heap.size := World.block_lt_of_cell? _ _ hc2
   have hdr : w3.drew.heap.size = w3.heap.size := rfl
   exact (hu bb (by omega) (by omega)).trans ((om bb (by omega)).trans (pQ bb (by omega))))
 clear om QW pQ hsz5 hA2 hf2 Am hb4 hHeld
 go_wp2
 go_ret
 refine ⟨0, ⟨⟨1, Y, bn, yc, ys, B, bn, bc, rows, L, ln, lc, l⟩, ⟨0, A2, n2, c2, (rows.map fun r => aO P 1 r.xs ks), 0, none, 0, 0, [], none, 0, 0, []⟩, w.heap.size + 3, A, m, ca, ks, none, 0, 0, 0, false, []⟩, rfl, GA.out, ND.out, fun _ => ⟨Bi.out.1, rfl, rfl, ?_, qo.out⟩⟩
 rw [PD.gd]
 exact .inr ⟨rfl, .inl ⟨rfl, rfl, by rw [Uh.out.2.2]; exact Bi.out.2.2.1, Bi.out.2.2.2.1, rfl, KR.out, HH.out⟩⟩
end Go.Proofs.YtbljkkpnpcgjfaaGreatDoor