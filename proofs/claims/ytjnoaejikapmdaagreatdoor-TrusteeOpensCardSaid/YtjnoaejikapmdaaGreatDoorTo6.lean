/- Contracts and lemmas: LcB, LinG, LinI, LinJ, LinK, LinO, LinP, LinQ, LinW, LcC, TrI. -/
import Derived.Test.YtjnoaejikapmdaaGreatDoorTo5
namespace Go.Proofs.YtjnoaejikapmdaaGreatDoor
open Go.RowKit SpM
set_option linter.unusedVariables false
set_option linter.unusedSimpArgs false
set_option maxRecDepth 100000
def lbGroup : ByteArray := { data := #[103, 114, 111, 117, 112] }
def lbY : ByteArray := { data := #[121] }
def lbBases : ByteArray := { data := #[98, 97, 115, 101, 115] }
def lbCommit : ByteArray := { data := #[99, 111, 109, 109, 105, 116] }
def lbCh : ByteArray := { data := #[99, 104, 97, 108, 108, 101, 110, 103, 101] }
theorem labGroup : Hid (labB (bys lbGroup) = true) := Lib.hid (by kernel_rfl)
theorem labY : Hid (labB (bys lbY) = true) := Lib.hid (by kernel_rfl)
theorem labBases : Hid (labB (bys lbBases) = true) := Lib.hid (by kernel_rfl)
theorem labCommit : Hid (labB (bys lbCommit) = true) := Lib.hid (by kernel_rfl)
theorem labCh : Hid (labB (bys lbCh) = true) := Lib.hid (by kernel_rfl)
def chRows (h : List Int) : List Row → List Int
  | [] => h
  | r :: rs => chRows (absL h (bys lbBases) r.xs) rs
def chalV (P Q G : Int) (lb : List Int) (ys : List Int) (rows : List Row) (al : List Int) : Int :=
  chN Q (absL (chRows (absL (absL (newL lb) (bys lbGroup) [P, Q, G]) (bys lbY) ys) rows) (bys lbCommit) al) (bys lbCh)
theorem chRows_step {h : List Int} {rows : List Row} {k : Nat} (hk : k < rows.length) : chRows h (rows.drop k) = chRows (absL h (bys lbBases) (rows.getD k noRow).xs) (rows.drop (k + 1)) := by
  rw [List.drop_eq_getElem_cons hk, List.getD_eq_getElem?_getD, List.getElem?_eq_getElem hk]
  rfl
def St32 (h : List Int) : Prop := h.length = 32 ∧ bytesB h = true
theorem st_abs (h s l : List Int) : St32 (absL h s l) := ⟨absL_len _ _ _, absL_bytes _ _ _⟩
theorem st_new (l : List Int) : St32 (newL l) := ⟨tagged_len _ _, sha_bytes _⟩
def LcI (W : World) (a : Nat) (h : List Int) (c : Int) (x : Int) (u : World) : Prop := TBlk u a h c ∧ Own u ⟨a + 1, 0, none⟩ (.int .i64 x) ∧ Below W.heap.size W u
theorem LcI.alloc {W : World} {a : Nat} {h : List Int} {c x : Int} {u : World} (hI : LcI W a h c x u) (o : Obj) : LcI W a h c x (u.alloc o) :=
  ⟨hI.1.below (below_box0 _ _), hI.2.1.below (below_box0 _ _), below_ext hI.2.2 (below_box0 _ _)⟩
theorem LcI.below {W : World} {a : Nat} {h : List Int} {c x : Int} {u u' : World} (hI : LcI W a h c x u) (hb : Below u.heap.size u u') : LcI W a h c x u' :=
  ⟨hI.1.below hb, hI.2.1.below hb, below_ext hI.2.2 hb⟩
theorem absorb_st (W : World) (a : Nat) (hWa : W.heap.size ≤ a) (h : List Int) (hst : Hid (St32 h)) (c : Int) (hc0 : 0 ≤ c) (hc1 : c < 1000) (s : ByteArray) (hs : s.size ≤ 1000) (hr : Hid (labB (bys s) = true)) (A : Option Addr) (l : List Int) (n cA : Nat) (hn : Hid (l.length = n)) (hok : Hid (okL l)) (u : World) (hv : Hid (VarsD W)) (hS : Hid (Sl u A l)) (hI : Hid (LcI W a h c 0 u)) :
    Calls Tryz.prog 270 #[.string s, .slice A n cA, .pointer (some ⟨a + 1, 0, none⟩), .pointer (some ⟨a, 0, none⟩)] u fun e u' => (∃ v, e = .returned v) ∧ LcI W a (absL h (bys s) l) (c + 1) 0 u' := by
  refine (absorb_ok h (Lib.hid hst.out.1) (Lib.hid hst.out.2) c hc0 hc1 s hs hr A l n cA hn hok a (a + 1) a u (Lib.hid (hv.out.below hI.out.2.2)) hS (Lib.hid hI.out.1) (Lib.hid hI.out.2.1) (by omega) (Nat.le_refl _) (by omega)).mono ?_
  rintro e u' ⟨he, hT, hE, hb⟩
  exact ⟨he, hT, hE, hI.out.2.2.trans (hb.mono hWa)⟩
theorem cells3l (w : World) (T : TypeId) (a b c : Int) : Cells (w.alloc (.cells #[.int .i64 a, .int .i64 b, .int .i64 c] T)) w.heap.size [a, b, c] := by
  intro k hk
  rw [World.cell?_alloc_at _ _ _ _ rfl]
  match k, hk with
  | 0, _ => rfl
  | 1, _ => rfl
  | 2, _ => rfl
theorem two_boxes {w1 : World} {S0 : List Int} {c x : Int} (hl : S0.length = 32) :
    LcI w1 w1.heap.size S0 c x ((((w1.alloc (.cells #[.int .u8 0, .int .u8 0, .int .u8 0, .int .u8 0, .int .u8 0, .int .u8 0, .int .u8 0, .int .u8 0, .int .u8 0, .int .u8 0, .int .u8 0, .int .u8 0, .int .u8 0, .int .u8 0, .int .u8 0, .int .u8 0, .int .u8 0, .int .u8 0, .int .u8 0, .int .u8 0, .int .u8 0, .int .u8 0, .int .u8 0, .int .u8 0, .int .u8 0, .int .u8 0, .int .u8 0, .int .u8 0, .int .u8 0, .int .u8 0, .int .u8 0, .int .u8 0, .int .i64 0] 204)).alloc (.cells #[.int .i64 0] 30)).setRow w1.heap.size (tcs S0 c)).setCell ⟨w1.heap.size + 1, 0, none⟩ (.int .i64 x)) := by
  have hT : TBlk ((w1.alloc (.cells #[.int .u8 0, .int .u8 0, .int .u8 0, .int .u8 0, .int .u8 0, .int .u8 0, .int .u8 0, .int .u8 0, .int .u8 0, .int .u8 0, .int .u8 0, .int .u8 0, .int .u8 0, .int .u8 0, .int .u8 0, .int .u8 0, .int .u8 0, .int .u8 0, .int .u8 0, .int .u8 0, .int .u8 0, .int .u8 0, .int .u8 0, .int .u8 0, .int .u8 0, .int .u8 0, .int .u8 0, .int .u8 0, .int .u8 0, .int .u8 0, .int .u8 0, .int .u8 0, .int .i64 0] 204)).alloc (.cells #[.int .i64 0] 30)) w1.heap.size (zer 32) 0 := by rw [ztr]; exact heap_alloc2_old _ _ _
  have hE : Own ((w1.alloc (.cells #[.int .u8 0, .int .u8 0, .int .u8 0, .int .u8 0, .int .u8 0, .int .u8 0, .int .u8 0, .int .u8 0, .int .u8 0, .int .u8 0, .int .u8 0, .int .u8 0, .int .u8 0, .int .u8 0, .int .u8 0, .int .u8 0, .int .u8 0, .int .u8 0, .int .u8 0, .int .u8 0, .int .u8 0, .int .u8 0, .int .u8 0, .int .u8 0, .int .u8 0, .int .u8 0, .int .u8 0, .int .u8 0, .int .u8 0, .int .u8 0, .int .u8 0, .int .u8 0, .int .i64 0] 204)).alloc (.cells #[.int .i64 0] 30)) ⟨w1.heap.size + 1, 0, none⟩ (.int .i64 0) := ⟨cell_blk (heap_alloc2_new _ _ _) 0, frozen_blk (heap_alloc2_new _ _ _) 0⟩
  have hb : Below w1.heap.size w1 ((w1.alloc (.cells #[.int .u8 0, .int .u8 0, .int .u8 0, .int .u8 0, .int .u8 0, .int .u8 0, .int .u8 0, .int .u8 0, .int .u8 0, .int .u8 0, .int .u8 0, .int .u8 0, .int .u8 0, .int .u8 0, .int .u8 0, .int .u8 0, .int .u8 0, .int .u8 0, .int .u8 0, .int .u8 0, .int .u8 0, .int .u8 0, .int .u8 0, .int .u8 0, .int .u8 0, .int .u8 0, .int .u8 0, .int .u8 0, .int .u8 0, .int .u8 0, .int .u8 0, .int .u8 0, .int .i64 0] 204)).alloc (.cells #[.int .i64 0] 30)) := below_two (Below.refl _ _)
  refine ⟨(heap_setCell_other _ _ _ _ (show w1.heap.size ≠ w1.heap.size + 1 by omega)).trans hT.setRow, own_set_eq2 (own_setRow hE (show w1.heap.size + 1 ≠ w1.heap.size by omega)), (below_setRow' hb (Nat.le_refl _)).setCell (Nat.le_succ _) _⟩
set_option maxHeartbeats 6400000 in
theorem lchal_ok (P Q G : Int) (Y : Option Addr) (ys : List Int) (yn yc : Nat) (B : Option Addr) (rows : List Row) (bn bc : Nat) (A : Option Addr) (al : List Int) (na ca : Nat) (s : ByteArray) (hs : s.size ≤ 1000) (hr : Hid (labB (bys s) = true))
    (hyn : Hid (ys.length = yn)) (hbn : Hid (rows.length = bn)) (hna : Hid (al.length = na)) (hb9 : bn ≤ 900) (okg : Hid (okL [P, Q, G])) (oky : Hid (okL ys)) (oka : Hid (okL al)) (okr : Hid (∀ k, k < rows.length → okL (rows.getD k noRow).xs))
    (hQ1 : 2 ≤ Q) (hQ2 : Q < 2305843009213693952) (V : Int) (hV : Kp (chalV P Q G (bys s) ys rows al = V)) (w : World) (hv : Hid (VarsD w)) (hY : Hid (Sl w Y ys)) (hB : Hid (Rw w B rows)) (hA : Hid (Sl w A al)) :
    Calls Tryz.prog 209 #[gv P Q G, .agg #[.slice Y yn yc, .slice B bn bc], .slice A na ca, .string s] w fun e w' => e = .returned (.tuple #[.int .i64 V, .int .i64 0]) ∧ Below w.heap.size w w' := by
  obtain ⟨W, hW⟩ : ∃ W, (w.alloc (gObj P Q G)).alloc (.cells #[.slice Y yn yc, .slice B bn bc] 128) = W := ⟨_, rfl⟩
  have HBX : Hid (Below w.heap.size w W) := Lib.hid (by rw [← hW]; exact below_two (Below.refl _ _))
  have HGX : Hid (GBox W w.heap.size P Q G) := Lib.hid (by rw [← hW]; exact (gbox_alloc w P Q G).below (below_box0 _ _))
  have HRX : Hid (RBox W (w.heap.size + 1) (.slice Y yn yc) (.slice B bn bc)) := Lib.hid (by rw [← hW]; exact rbox_alloc1 w _ _ _ _)
  have HV := Lib.hid (hv.out.below HBX.out)
  have HYY := Lib.hid (hY.out.below HBX.out)
  have HBB := Lib.hid (hB.out.below HBX.out)
  have HAA := Lib.hid (hA.out.below HBX.out)
  have HW := Lib.hid hW
  clear hW hv hY hB hA
  go_enter Tryz.func209, Tryz.ntmps209
  go_upto_region 1 with (fail)
  rw [HW.out]
  clear HW
  go_wp2_with fail
  refine (tnew_ok s hs hr _ HV).mono ?_
  rintro e w1 ⟨rfl, hb1⟩
  obtain ⟨S0, hS0⟩ : ∃ S, newL (bys s) = S := ⟨_, rfl⟩
  have HS0 : Hid (St32 S0) := Lib.hid (by rw [← hS0]; exact st_new _)
  have HV0 : Kp (chN Q (absL (chRows (absL (absL S0 (bys lbGroup) [P, Q, G]) (bys lbY) ys) rows) (bys lbCommit) al) (bys lbCh) = V) := ⟨by rw [← hS0]; exact hV.1⟩
  rw [hS0, show TrE S0 0 0 = .tuple #[.agg (tcs S0 0), .int .i64 0] from rfl]
  have HB1 := Lib.hid hb1
  have HL0 := Lib.hid HS0.out.1
  clear hb1 hS0 hV
  have HTz : Hid (TBlk ((w1.alloc (.cells #[.int .u8 0, .int .u8 0, .int .u8 0, .int .u8 0, .int .u8 0, .int .u8 0, .int .u8 0, .int .u8 0, .int .u8 0, .int .u8 0, .int .u8 0, .int .u8 0, .int .u8 0, .int .u8 0, .int .u8 0, .int .u8 0, .int .u8 0, .int .u8 0, .int .u8 0, .int .u8 0, .int .u8 0, .int .u8 0, .int .u8 0, .int .u8 0, .int .u8 0, .int .u8 0, .int .u8 0, .int .u8 0, .int .u8 0, .int .u8 0, .int .u8 0, .int .u8 0, .int .i64 0] 204)).alloc (.cells #[.int .i64 0] 30)) w1.heap.size (zer 32) 0) := Lib.hid (by rw [ztr]; exact heap_alloc2_old _ _ _)
  have HEz : Hid (Own ((w1.alloc (.cells #[.int .u8 0, .int .u8 0, .int .u8 0, .int .u8 0, .int .u8 0, .int .u8 0, .int .u8 0, .int .u8 0, .int .u8 0, .int .u8 0, .int .u8 0, .int .u8 0, .int .u8 0, .int .u8 0, .int .u8 0, .int .u8 0, .int .u8 0, .int .u8 0, .int .u8 0, .int .u8 0, .int .u8 0, .int .u8 0, .int .u8 0, .int .u8 0, .int .u8 0, .int .u8 0, .int .u8 0, .int .u8 0, .int .u8 0, .int .u8 0, .int .u8 0, .int .u8 0, .int .i64 0] 204)).alloc (.cells #[.int .i64 0] 30)) ⟨w1.heap.size + 1, 0, none⟩ (.int .i64 0)) := Lib.hid ⟨cell_blk (heap_alloc2_new _ _ _) 0, frozen_blk (heap_alloc2_new _ _ _) 0⟩
  have HEy := Lib.hid (own_setRow (a := w1.heap.size) (cs := tcs S0 0) HEz.out (show w1.heap.size + 1 ≠ w1.heap.size by omega))
  obtain ⟨q1, q2⟩ := HEy.out
  go_upto_region 2 with ((with_reducible show wpList _ _ _ (⟨none, _, _, _, _, _⟩ :: _) _ _); refine wpList_store_row rfl 204 _ _ rfl w1.heap.size (tcs S0 0) rfl rfl _ _ HTz.out (tr_info HL0.out) (tcs_sz (h := zer 32) (c := 0) rfl HL0.out) (tcs_one _ _) ?_)
  clear q1 q2 HTz HEz HEy
  have hI2 := two_boxes (w1 := w1) (c := 0) (x := 0) HL0.out
  obtain ⟨W2, hW2⟩ : ∃ u, ((((w1.alloc (.cells #[.int .u8 0, .int .u8 0, .int .u8 0, .int .u8 0, .int .u8 0, .int .u8 0, .int .u8 0, .int .u8 0, .int .u8 0, .int .u8 0, .int .u8 0, .int .u8 0, .int .u8 0, .int .u8 0, .int .u8 0, .int .u8 0, .int .u8 0, .int .u8 0, .int .u8 0, .int .u8 0, .int .u8 0, .int .u8 0, .int .u8 0, .int .u8 0, .int .u8 0, .int .u8 0, .int .u8 0, .int .u8 0, .int .u8 0, .int .u8 0, .int .u8 0, .int .u8 0, .int .i64 0] 204)).alloc (.cells #[.int .i64 0] 30)).setRow w1.heap.size (tcs S0 0)).setCell ⟨w1.heap.size + 1, 0, none⟩ (.int .i64 0)) = u := ⟨_, rfl⟩
  rw [hW2] at hI2 ⊢
  obtain ⟨a, ha⟩ : ∃ a, w1.heap.size = a := ⟨_, rfl⟩
  have hWa : W.heap.size ≤ a := by rw [← ha]; exact HB1.out.size
  have hI2' : LcI W a S0 0 0 W2 := ⟨by rw [← ha]; exact hI2.1, by rw [← ha]; exact hI2.2.1, below_ext HB1.out hI2.2.2⟩
  rw [ha]
  have HI2 := Lib.hid hI2'
  clear hW2 hI2 hI2' ha HB1
  obtain ⟨c0, c1, c2⟩ := HGX.out.below HI2.out.2.2
  go_wp2_with fail
  refine (absorb_st W a hWa S0 HS0 0 (by omega) (by omega) lbGroup (by decide) labGroup (some ⟨W2.heap.size, 0, none⟩) [P, Q, G] 3 3 (Lib.hid rfl) okg _ HV (Lib.hid (sl_of_cells (cells3l W2 _ P Q G))) (Lib.hid (HI2.out.alloc _))).mono ?_
  rintro e w3 ⟨⟨v3, rfl⟩, hI3⟩
  clear c0 c1 c2 HI2
  obtain ⟨S1, hS1⟩ : ∃ S, absL S0 (bys lbGroup) [P, Q, G] = S := ⟨_, rfl⟩
  have HS1 : Hid (St32 S1) := Lib.hid (by rw [← hS1]; exact st_abs _ _ _)
  have HV1 : Kp (chN Q (absL (chRows (absL S1 (bys lbY) ys) rows) (bys lbCommit) al) (bys lbCh) = V) := ⟨by rw [← hS1]; exact HV0.1⟩
  rw [hS1] at hI3
  have HI3 := Lib.hid hI3
  clear hI3 hS1 HV0
  obtain ⟨d0, d1⟩ := HRX.out.below HI3.out.2.2
  go_wp2_with fail
  refine (absorb_st W a hWa S1 HS1 (0 + 1) (by omega) (by omega) lbY (by decide) labY Y ys yn yc hyn oky _ HV (Lib.hid (HYY.out.below HI3.out.2.2)) HI3).mono ?_
  rintro e w4 ⟨⟨v4, rfl⟩, hI4⟩
  clear d0 d1 HI3
  obtain ⟨S2, hS2⟩ : ∃ S, absL S1 (bys lbY) ys = S := ⟨_, rfl⟩
  have HS2 : Hid (St32 S2) := Lib.hid (by rw [← hS2]; exact st_abs _ _ _)
  have HV2 : Kp (chN Q (absL (chRows S2 rows) (bys lbCommit) al) (bys lbCh) = V) := ⟨by rw [← hS2]; exact HV1.1⟩
  rw [hS2] at hI4
  have HI4 := Lib.hid hI4
  clear hI4 hS2 HV1
  obtain ⟨S3, hS3⟩ : ∃ S, chRows S2 rows = S := ⟨_, rfl⟩
  have HR3 : Kp (chRows S2 (rows.drop 0) = S3) := ⟨hS3⟩
  have HV3 : Kp (chN Q (absL S3 (bys lbCommit) al) (bys lbCh) = V) := ⟨by rw [← hS3]; exact HV2.1⟩
  clear hS3 HV2
  obtain ⟨d0, d1⟩ := HRX.out.below HI4.out.2.2
  go_wp2_with fail
  clear d0 d1
  go_loopw [39] (fun i u => ∃ (k : Nat) (S : List Int), k ≤ bn ∧ i = .int .i64 k ∧ Hid (St32 S) ∧ Kp (chRows S (rows.drop k) = S3) ∧ Hid (LcI W a S (2 + k) 0 u)) (fun i _ => bn - (intOf i).toNat)
  case atStart => exact ⟨0, S2, by omega, rfl, HS2, HR3, HI4⟩
  case round =>
    obtain ⟨k, S, hk, rfl, HS, HR, HI⟩ := hrel
    by_cases hlt : k < bn
    · have hkl : k < rows.length := by rw [hbn.out]; exact hlt
      obtain ⟨⟨b, o, hA, hi0⟩, hok⟩ := HBB.out.below HI.out.2.2 k hkl
      subst hA
      have HRN := Kp.mk ((chRows_step (h := S) hkl).symm.trans HR.1)
      have HOK := Lib.hid (okr.out k hkl)
      obtain ⟨R, hR⟩ : ∃ R, rows.getD k noRow = R := ⟨_, rfl⟩
      rw [hR] at hi0 hok HRN HOK
      obtain ⟨p, rn, rc, xs⟩ := R
      have HL := Lib.hid hok.1
      have HX := Lib.hid hok.2
      dsimp only [Row.val] at hi0 HRN HOK
      clear hR hok hkl
      go_wp2_with fail
      refine (absorb_st W a hWa S HS (2 + k) (by omega) (by omega) lbBases (by decide) labBases p xs rn rc HL HOK _ HV HX HI).mono ?_
      rintro e w5 ⟨⟨v5, rfl⟩, hI5⟩
      obtain ⟨S', hS'⟩ : ∃ S', absL S (bys lbBases) xs = S' := ⟨_, rfl⟩
      have HS' : Hid (St32 S') := Lib.hid (by rw [← hS']; exact st_abs _ _ _)
      have HRR : Kp (chRows S' (rows.drop (k + 1)) = S3) := ⟨by rw [← hS']; exact HRN.1⟩
      rw [hS', show (2 + (k : Int) + 1) = 2 + ((k + 1 : Nat) : Int) by omega] at hI5
      have HI5 := Lib.hid hI5
      clear hI5 hS' HRN hi0
      go_wp2
      go_roundw
      case rel => exact ⟨k + 1, S', by omega, by go_num, HS', HRR, HI5⟩
      case measure => simp [intOf]; omega
    · obtain rfl : k = bn := by omega
      have hd : rows.drop k = [] := List.drop_of_length_le (by rw [hbn.out]; exact Nat.le_refl _)
      have HSE : Kp (S = S3) := ⟨by have h := HR.1; rwa [hd] at h⟩
      have HV4 : Kp (chN Q (absL S (bys lbCommit) al) (bys lbCh) = V) := ⟨by rw [HSE.1]; exact HV3.1⟩
      clear hd HR HSE HV3 hlt
      go_wp2_with fail
      refine (absorb_st W a hWa S HS (2 + k) (by omega) (by omega) lbCommit (by decide) labCommit A al na ca hna oka _ HV (Lib.hid (HAA.out.below HI.out.2.2)) HI).mono ?_
      rintro e w6 ⟨⟨v6, rfl⟩, hI6⟩
      obtain ⟨S4, hS4⟩ : ∃ S', absL S (bys lbCommit) al = S' := ⟨_, rfl⟩
      have HS4 : Hid (St32 S4) := Lib.hid (by rw [← hS4]; exact st_abs _ _ _)
      have HV5 : Kp (chN Q S4 (bys lbCh) = V) := ⟨by rw [← hS4]; exact HV4.1⟩
      rw [hS4] at hI6
      have HI6 := Lib.hid hI6
      have HL4 := Lib.hid HS4.out.1
      clear hI6 hS4 HV4 HI
      obtain ⟨z0, z1⟩ := HI6.out.2.1
      obtain ⟨c0, c1, c2⟩ := HGX.out.below HI6.out.2.2
      have HT6 := Lib.hid HI6.out.1
      go_wp2_with ((with_reducible show wpList _ _ _ (⟨some 54, _, _, _, _, _⟩ :: _) _ _); refine wpList_load_row rfl 204 _ rfl a rfl _ _ _ _ HT6.out Tryz.underlying204 rfl (tr_info HL4.out) ?_)
      refine (tchal_ok S4 HL4 (Lib.hid HS4.out.2) (2 + k + 1) (by omega) (by omega) lbCh (by decide) labCh Q hQ1 hQ2 _ (Lib.hid (HV.out.below HI6.out.2.2))).mono ?_
      rintro e w7 ⟨rfl, hb7⟩
      obtain ⟨G4, hG4⟩ : ∃ G4, chL Q S4 (bys lbCh) = G4 := ⟨_, rfl⟩
      have HG4 : Hid (G4.length = 32) := Lib.hid (by rw [← hG4]; exact abL_len _ _ _)
      rw [hG4, HV5.1, show ChE G4 (2 + (k : Int) + 1 + 1) V 0 = .tuple #[.agg (tcs G4 (2 + (k : Int) + 1 + 1)), .int .i64 V, .int .i64 0] from rfl]
      have HI7 := Lib.hid (HI6.out.below hb7)
      obtain ⟨y0, y1⟩ := HI7.out.2.1
      clear hb7 hG4 z0 z1 c0 c1 c2
      have HTy : Hid (TBlk (w7.alloc (.cells #[.int .u8 0, .int .u8 0, .int .u8 0, .int .u8 0, .int .u8 0, .int .u8 0, .int .u8 0, .int .u8 0, .int .u8 0, .int .u8 0, .int .u8 0, .int .u8 0, .int .u8 0, .int .u8 0, .int .u8 0, .int .u8 0, .int .u8 0, .int .u8 0, .int .u8 0, .int .u8 0, .int .u8 0, .int .u8 0, .int .u8 0, .int .u8 0, .int .u8 0, .int .u8 0, .int .u8 0, .int .u8 0, .int .u8 0, .int .u8 0, .int .u8 0, .int .u8 0, .int .i64 0] 204)) w7.heap.size (zer 32) 0) := Lib.hid (by rw [ztr]; exact heap_alloc_new _ _)
      have HEw := Lib.hid (own_setRow (a := w7.heap.size) (cs := tcs G4 (2 + (k : Int) + 1 + 1)) (HI7.out.2.1.below (below_box0 w7 (.cells #[.int .u8 0, .int .u8 0, .int .u8 0, .int .u8 0, .int .u8 0, .int .u8 0, .int .u8 0, .int .u8 0, .int .u8 0, .int .u8 0, .int .u8 0, .int .u8 0, .int .u8 0, .int .u8 0, .int .u8 0, .int .u8 0, .int .u8 0, .int .u8 0, .int .u8 0, .int .u8 0, .int .u8 0, .int .u8 0, .int .u8 0, .int .u8 0, .int .u8 0, .int .u8 0, .int .u8 0, .int .u8 0, .int .u8 0, .int .u8 0, .int .u8 0, .int .u8 0, .int .i64 0] 204))) (show a + 1 ≠ w7.heap.size by have := HI7.out.1.lt; have := World.block_lt_of_cell? _ _ y0; simp at this; omega))
      obtain ⟨x0, x1⟩ := HEw.out
      go_wp2_with ((with_reducible show wpList _ _ _ (⟨none, _, _, _, _, _⟩ :: _) _ _); refine wpList_store_row rfl 204 _ _ rfl w7.heap.size (tcs G4 (2 + (k : Int) + 1 + 1)) rfl rfl _ _ HTy.out (tr_info HG4.out) (tcs_sz (h := zer 32) (c := 0) rfl HG4.out) (tcs_one _ _) ?_)
      have hZ := own_set_eq2 (u := .int .i64 0) HEw.out
      have hBF : Below w.heap.size w (((w7.alloc (.cells #[.int .u8 0, .int .u8 0, .int .u8 0, .int .u8 0, .int .u8 0, .int .u8 0, .int .u8 0, .int .u8 0, .int .u8 0, .int .u8 0, .int .u8 0, .int .u8 0, .int .u8 0, .int .u8 0, .int .u8 0, .int .u8 0, .int .u8 0, .int .u8 0, .int .u8 0, .int .u8 0, .int .u8 0, .int .u8 0, .int .u8 0, .int .u8 0, .int .u8 0, .int .u8 0, .int .u8 0, .int .u8 0, .int .u8 0, .int .u8 0, .int .u8 0, .int .u8 0, .int .i64 0] 204)).setRow w7.heap.size (tcs G4 (2 + (k : Int) + 1 + 1))).setCell ⟨a + 1, 0, none⟩ (.int .i64 0)) := by
        have h1 := below_ext HI7.out.2.2 (below_setRow' (cs := tcs G4 (2 + (k : Int) + 1 + 1)) (below_box0 w7 (.cells #[.int .u8 0, .int .u8 0, .int .u8 0, .int .u8 0, .int .u8 0, .int .u8 0, .int .u8 0, .int .u8 0, .int .u8 0, .int .u8 0, .int .u8 0, .int .u8 0, .int .u8 0, .int .u8 0, .int .u8 0, .int .u8 0, .int .u8 0, .int .u8 0, .int .u8 0, .int .u8 0, .int .u8 0, .int .u8 0, .int .u8 0, .int .u8 0, .int .u8 0, .int .u8 0, .int .u8 0, .int .u8 0, .int .u8 0, .int .u8 0, .int .u8 0, .int .u8 0, .int .i64 0] 204)) (Nat.le_refl _))
        exact below_ext HBX.out (h1.setCell (by show W.heap.size ≤ a + 1; omega) _)
      have HBF := Lib.hid hBF
      have hz0 := hZ.1
      obtain ⟨W8, hW8⟩ : ∃ u, (((w7.alloc (.cells #[.int .u8 0, .int .u8 0, .int .u8 0, .int .u8 0, .int .u8 0, .int .u8 0, .int .u8 0, .int .u8 0, .int .u8 0, .int .u8 0, .int .u8 0, .int .u8 0, .int .u8 0, .int .u8 0, .int .u8 0, .int .u8 0, .int .u8 0, .int .u8 0, .int .u8 0, .int .u8 0, .int .u8 0, .int .u8 0, .int .u8 0, .int .u8 0, .int .u8 0, .int .u8 0, .int .u8 0, .int .u8 0, .int .u8 0, .int .u8 0, .int .u8 0, .int .u8 0, .int .i64 0] 204)).setRow w7.heap.size (tcs G4 (2 + (k : Int) + 1 + 1))).setCell ⟨a + 1, 0, none⟩ (.int .i64 0)) = u := ⟨_, rfl⟩
      rw [hW8] at hz0 HBF ⊢
      clear hZ hBF hW8 x0 x1 HEw HTy y0 y1
      go_region
      go_wp2
      go_ret2
      exact ⟨rfl, below_drawN HBF.out _⟩
set_option maxHeartbeats 6400000 in
theorem lchal_bad (P Q G : Int) (Y : Option Addr) (ys : List Int) (yn yc : Nat) (B : Option Addr) (rows : List Row) (bn bc : Nat) (A : Option Addr) (al : List Int) (na ca : Nat) (s : ByteArray) (hs : s.size ≤ 1000) (hr : Hid (labB (bys s) = false))
    (hbn : Hid (rows.length = bn)) (hb9 : bn ≤ 900) (w : World) (hB : Hid (Rw w B rows)) :
    Calls Tryz.prog 209 #[gv P Q G, .agg #[.slice Y yn yc, .slice B bn bc], .slice A na ca, .string s] w fun e w' => e = .returned (.tuple #[.int .i64 0, .int .i64 1]) ∧ Below w.heap.size w w' := by
  obtain ⟨W, hW⟩ : ∃ W, (w.alloc (gObj P Q G)).alloc (.cells #[.slice Y yn yc, .slice B bn bc] 128) = W := ⟨_, rfl⟩
  have HBX : Hid (Below w.heap.size w W) := Lib.hid (by rw [← hW]; exact below_two (Below.refl _ _))
  have HGX : Hid (GBox W w.heap.size P Q G) := Lib.hid (by rw [← hW]; exact (gbox_alloc w P Q G).below (below_box0 _ _))
  have HRX : Hid (RBox W (w.heap.size + 1) (.slice Y yn yc) (.slice B bn bc)) := Lib.hid (by rw [← hW]; exact rbox_alloc1 w _ _ _ _)
  have HBB := Lib.hid (hB.out.below HBX.out)
  have HW := Lib.hid hW
  clear hW hB
  go_enter Tryz.func209, Tryz.ntmps209
  go_upto_region 1 with (fail)
  rw [HW.out]
  clear HW
  go_wp2_with fail
  refine (tnew_bad s hs hr _).mono ?_
  rintro e w1 ⟨rfl, hb1⟩
  obtain ⟨S0, hS0⟩ : ∃ S, zer 32 = S := ⟨_, rfl⟩
  have HL0 : Hid (S0.length = 32) := Lib.hid (by rw [← hS0]; rfl)
  rw [hS0, show TrE S0 0 1 = .tuple #[.agg (tcs S0 0), .int .i64 1] from rfl]
  have HB1 := Lib.hid hb1
  clear hb1 hS0
  have HTz : Hid (TBlk ((w1.alloc (.cells #[.int .u8 0, .int .u8 0, .int .u8 0, .int .u8 0, .int .u8 0, .int .u8 0, .int .u8 0, .int .u8 0, .int .u8 0, .int .u8 0, .int .u8 0, .int .u8 0, .int .u8 0, .int .u8 0, .int .u8 0, .int .u8 0, .int .u8 0, .int .u8 0, .int .u8 0, .int .u8 0, .int .u8 0, .int .u8 0, .int .u8 0, .int .u8 0, .int .u8 0, .int .u8 0, .int .u8 0, .int .u8 0, .int .u8 0, .int .u8 0, .int .u8 0, .int .u8 0, .int .i64 0] 204)).alloc (.cells #[.int .i64 0] 30)) w1.heap.size (zer 32) 0) := Lib.hid (by rw [ztr]; exact heap_alloc2_old _ _ _)
  have HEz : Hid (Own ((w1.alloc (.cells #[.int .u8 0, .int .u8 0, .int .u8 0, .int .u8 0, .int .u8 0, .int .u8 0, .int .u8 0, .int .u8 0, .int .u8 0, .int .u8 0, .int .u8 0, .int .u8 0, .int .u8 0, .int .u8 0, .int .u8 0, .int .u8 0, .int .u8 0, .int .u8 0, .int .u8 0, .int .u8 0, .int .u8 0, .int .u8 0, .int .u8 0, .int .u8 0, .int .u8 0, .int .u8 0, .int .u8 0, .int .u8 0, .int .u8 0, .int .u8 0, .int .u8 0, .int .u8 0, .int .i64 0] 204)).alloc (.cells #[.int .i64 0] 30)) ⟨w1.heap.size + 1, 0, none⟩ (.int .i64 0)) := Lib.hid ⟨cell_blk (heap_alloc2_new _ _ _) 0, frozen_blk (heap_alloc2_new _ _ _) 0⟩
  have HEy := Lib.hid (own_setRow (a := w1.heap.size) (cs := tcs S0 0) HEz.out (show w1.heap.size + 1 ≠ w1.heap.size by omega))
  obtain ⟨q1, q2⟩ := HEy.out
  go_upto_region 2 with ((with_reducible show wpList _ _ _ (⟨none, _, _, _, _, _⟩ :: _) _ _); refine wpList_store_row rfl 204 _ _ rfl w1.heap.size (tcs S0 0) rfl rfl _ _ HTz.out (tr_info HL0.out) (tcs_sz (h := zer 32) (c := 0) rfl HL0.out) (tcs_one _ _) ?_)
  clear q1 q2 HTz HEz HEy
  have hI2 := two_boxes (w1 := w1) (c := 0) (x := 1) HL0.out
  obtain ⟨W2, hW2⟩ : ∃ u, ((((w1.alloc (.cells #[.int .u8 0, .int .u8 0, .int .u8 0, .int .u8 0, .int .u8 0, .int .u8 0, .int .u8 0, .int .u8 0, .int .u8 0, .int .u8 0, .int .u8 0, .int .u8 0, .int .u8 0, .int .u8 0, .int .u8 0, .int .u8 0, .int .u8 0, .int .u8 0, .int .u8 0, .int .u8 0, .int .u8 0, .int .u8 0, .int .u8 0, .int .u8 0, .int .u8 0, .int .u8 0, .int .u8 0, .int .u8 0, .int .u8 0, .int .u8 0, .int .u8 0, .int .u8 0, .int .i64 0] 204)).alloc (.cells #[.int .i64 0] 30)).setRow w1.heap.size (tcs S0 0)).setCell ⟨w1.heap.size + 1, 0, none⟩ (.int .i64 1)) = u := ⟨_, rfl⟩
  rw [hW2] at hI2 ⊢
  obtain ⟨a, ha⟩ : ∃ a, w1.heap.size = a := ⟨_, rfl⟩
  have hI2' : LcI W a S0 0 1 W2 := ⟨by rw [← ha]; exact hI2.1, by rw [← ha]; exact hI2.2.1, below_ext HB1.out hI2.2.2⟩
  rw [ha]
  have HI2 := Lib.hid hI2'
  clear hW2 hI2 hI2' ha HB1
  obtain ⟨c0, c1, c2⟩ := HGX.out.below HI2.out.2.2
  go_wp2_with fail
  refine (absorb_no (some ⟨W2.heap.size, 0, none⟩) 3 3 lbGroup a (a + 1) 1 rfl _ (Lib.hid (HI2.out.alloc _).2.1)).mono ?_
  rintro e w3 ⟨⟨v3, rfl⟩, rfl⟩
  have HI3 := Lib.hid (HI2.out.alloc (.cells #[.int .i64 P, .int .i64 Q, .int .i64 G] 3))
  obtain ⟨W3, hW3⟩ : ∃ u, W2.alloc (.cells #[.int .i64 P, .int .i64 Q, .int .i64 G] 3) = u := ⟨_, rfl⟩
  rw [hW3] at HI3 ⊢
  clear c0 c1 c2 HI2 hW3
  obtain ⟨d0, d1⟩ := HRX.out.below HI3.out.2.2
  go_wp2_with fail
  refine (absorb_no Y yn yc lbY a (a + 1) 1 rfl _ (Lib.hid HI3.out.2.1)).mono ?_
  rintro e w4 ⟨⟨v4, rfl⟩, rfl⟩
  go_wp2_with fail
  clear d0 d1
  go_loopw [39] (fun i u => ∃ (k : Nat), k ≤ bn ∧ i = .int .i64 k ∧ Hid (LcI W a S0 0 1 u)) (fun i _ => bn - (intOf i).toNat)
  case atStart => exact ⟨0, by omega, rfl, HI3⟩
  case round =>
    obtain ⟨k, hk, rfl, HI⟩ := hrel
    by_cases hlt : k < bn
    · have hkl : k < rows.length := by rw [hbn.out]; exact hlt
      obtain ⟨⟨b, o, hA, hi0⟩, hok⟩ := HBB.out.below HI.out.2.2 k hkl
      subst hA
      obtain ⟨R, hR⟩ : ∃ R, rows.getD k noRow = R := ⟨_, rfl⟩
      rw [hR] at hi0 hok
      obtain ⟨p, rn, rc, xs⟩ := R
      dsimp only [Row.val] at hi0
      clear hR hok hkl
      go_wp2_with fail
      refine (absorb_no p rn rc lbBases a (a + 1) 1 rfl _ (Lib.hid HI.out.2.1)).mono ?_
      rintro e w5 ⟨⟨v5, rfl⟩, rfl⟩
      clear hi0
      go_wp2
      go_roundw
      case rel => exact ⟨k + 1, by omega, by go_num, HI⟩
      case measure => simp [intOf]; omega
    · go_wp2_with fail
      refine (absorb_no A na ca lbCommit a (a + 1) 1 rfl _ (Lib.hid HI.out.2.1)).mono ?_
      rintro e w6 ⟨⟨v6, rfl⟩, rfl⟩
      obtain ⟨z0, z1⟩ := HI.out.2.1
      have HBF := Lib.hid (below_ext HBX.out HI.out.2.2)
      go_wp2
      go_region
      go_wp2
      go_ret2
      exact ⟨rfl, below_drawN HBF.out _⟩
end Go.Proofs.YtjnoaejikapmdaaGreatDoor
namespace Go.Proofs.YtjnoaejikapmdaaGreatDoor
open Go.RowKit SpM
set_option linter.unusedVariables false
set_option linter.unusedSimpArgs false
set_option maxRecDepth 20000
theorem scB_neg {Q x : Int} (h : x < 0) : scB Q x = false := by simp [scB]; omega
theorem scB_big {Q x : Int} (h : Q ≤ x) : scB Q x = false := by simp [scB]; omega
theorem scB_in {Q x : Int} (h0 : ¬ x < 0) (h1 : ¬ Q ≤ x) : scB Q x = true := by simp [scB]; omega
theorem all_step {f : Int → Bool} {xs : List Int} {k : Nat} (hk : k < xs.length) (h : f (xs.getD k 0) = true) : (xs.drop k).all f = (xs.drop (k + 1)).all f := by
  rw [List.drop_eq_getElem_cons hk, List.all_cons]
  rw [List.getD_eq_getElem?_getD, List.getElem?_eq_getElem hk] at h
  simp at h
  rw [h, Bool.true_and]
theorem all_hit {f : Int → Bool} {xs : List Int} {k : Nat} (hk : k < xs.length) (h : f (xs.getD k 0) = false) : (xs.drop k).all f = false := by
  rw [List.drop_eq_getElem_cons hk, List.all_cons]
  rw [List.getD_eq_getElem?_getD, List.getElem?_eq_getElem hk] at h
  simp at h
  rw [h, Bool.false_and]
set_option maxHeartbeats 3200000 in
theorem rscalars_any (P Q G : Int) (A : Option Addr) (xs : List Int) (n c : Nat) (r : Bool) (hr : Hid (xs.all (scB Q) = r)) (hn : Hid (xs.length = n)) (hbig : n < 1000000) (w : World) (hs : Hid (Sl w A xs)) :
    Calls Tryz.prog 212 #[gv P Q G, .slice A n c] w fun e' w' => e' = .returned (.bool r) ∧ Below w.heap.size w w' := by
  have HBX := Lib.hid (below_box0 w (gObj P Q G))
  have HX0 := Lib.hid (gbox_alloc w P Q G)
  have HS0 := Lib.hid (hs.out.below HBX.out)
  obtain ⟨W, hW⟩ : ∃ W, w.alloc (gObj P Q G) = W := ⟨_, rfl⟩
  rw [hW] at HX0 HS0 HBX
  have HW := Lib.hid hW
  clear hW hs
  go_enter Tryz.func212, Tryz.ntmps212
  go_wp2
  rw [HW.out]
  go_loopw [5] (fun i wr => ∃ k : Nat, k ≤ n ∧ i = .int .i64 k ∧ Hid ((xs.drop k).all (scB Q) = r) ∧ Hid (Below W.heap.size W wr)) (fun i _ => n - (intOf i).toNat)
  case atStart => exact ⟨0, by omega, rfl, Lib.hid (by rw [List.drop_zero]; exact hr.out), Lib.hid (Below.refl _ _)⟩
  case round =>
    obtain ⟨k, hk, rfl, HR, HBr⟩ := hrel
    by_cases hlt : k < n
    · have hkl : k < xs.length := by rw [hn.out]; exact hlt
      obtain ⟨b, o, hA, hi⟩ := HS0.out.below HBr.out k hkl
      subst hA
      obtain ⟨c0, c1, c2⟩ := HX0.out.below HBr.out
      by_cases h0 : xs.getD k 0 < 0
      · have hf : scB Q (xs.getD k 0) = false := scB_neg h0
        obtain rfl : r = false := HR.out.symm.trans (all_hit hkl hf)
        obtain ⟨x, hx⟩ : ∃ x, xs.getD k 0 = x := ⟨_, rfl⟩
        rw [hx] at hi h0
        have d0 : decide (x < 0) = true := by simp; omega
        have hbF := fun q => below_drawN (below_ext HBX.out HBr.out) q
        clear hx hf hkl HR
        go_wp2
        go_quiet (fail)
        go_wp2
        go_ret
        exact ⟨rfl, hbF _⟩
      · by_cases h1 : Q ≤ xs.getD k 0
        · have hf : scB Q (xs.getD k 0) = false := scB_big h1
          obtain rfl : r = false := HR.out.symm.trans (all_hit hkl hf)
          obtain ⟨x, hx⟩ : ∃ x, xs.getD k 0 = x := ⟨_, rfl⟩
          rw [hx] at hi h0 h1
          have d0 : decide (x < 0) = false := by simp; omega
          have d1 : decide (Q ≤ x) = true := by simp; omega
          have hbF := fun q => below_drawN (below_ext HBX.out HBr.out) q
          clear hx hf hkl HR
          go_wp2
          go_quiet (fail)
          go_wp2
          go_ret
          exact ⟨rfl, hbF _⟩
        · have hf : scB Q (xs.getD k 0) = true := scB_in h0 h1
          have HR2 : Hid ((xs.drop (k + 1)).all (scB Q) = r) := Lib.hid ((all_step hkl hf).symm.trans HR.out)
          obtain ⟨x, hx⟩ : ∃ x, xs.getD k 0 = x := ⟨_, rfl⟩
          rw [hx] at hi h0 h1
          have d0 : decide (x < 0) = false := by simp; omega
          have d1 : decide (Q ≤ x) = false := by simp; omega
          have HB2 := Lib.hid (fun q => below_drawN HBr.out q)
          clear hx hf hkl HR
          go_wp2
          go_quiet (fail)
          go_wp2
          go_roundw
          case rel => exact ⟨k + 1, by omega, by go_num, HR2, Lib.hid (HB2.out _)⟩
          case measure => simp [intOf]; omega
    · obtain rfl : k = n := by omega
      obtain rfl : r = true := by rw [← HR.out, ← hn.out, List.drop_length]; rfl
      have hbF := below_ext HBX.out HBr.out
      clear HR hlt
      go_wp2
      go_ret
      exact ⟨rfl, hbF⟩
set_option maxHeartbeats 6400000 in
theorem rproduct_any (P Q G : Int) (A : Option Addr) (xs : List Int) (n c : Nat) (E : Option Addr) (es : List Int) (m d : Nat) (V : Int) (hV : Hid (prodF P 1 xs es = V)) (hn : Hid (xs.length = n)) (hm : Hid (es.length = m)) (hnm : n ≤ m) (hbig : m < 1000000)
    (hx : Hid (xs.all (memG P Q) = true)) (he : Hid (es.all (scB Q) = true)) (hp2 : 2 ≤ P) (hp : P < 2305843009213693952) (hQ : Q < 9223372036854775808) (w : World) (hA : Hid (Sl w A xs)) (hE : Hid (Sl w E es)) :
    Calls Tryz.prog 213 #[gv P Q G, .slice A n c, .slice E m d] w fun e' w' => e' = .returned (.int .i64 V) ∧ Below w.heap.size w w' := by
  have HBX := Lib.hid (below_box0 w (gObj P Q G))
  have HX0 := Lib.hid (gbox_alloc w P Q G)
  have HA0 := Lib.hid (hA.out.below HBX.out)
  have HE0 := Lib.hid (hE.out.below HBX.out)
  obtain ⟨W, hW⟩ : ∃ W, w.alloc (gObj P Q G) = W := ⟨_, rfl⟩
  rw [hW] at HX0 HA0 HE0 HBX
  have HW := Lib.hid hW
  clear hW hA hE
  go_enter Tryz.func213, Tryz.ntmps213
  go_wp2
  rw [HW.out]
  go_loopw [7, 8] (fun y i wr => ∃ (k : Nat) (acc : Int), k ≤ n ∧ y = .int .i64 acc ∧ i = .int .i64 k ∧ 0 ≤ acc ∧ acc < P ∧ Hid (prodF P acc (xs.drop k) (es.drop k) = V) ∧ Hid (Below W.heap.size W wr)) (fun _ i _ => n - (intOf i).toNat)
  case atStart => exact ⟨0, 1, by omega, rfl, rfl, by omega, by omega, prodF_start hV, Lib.hid (Below.refl _ _)⟩
  case round =>
    obtain ⟨k, acc, hk, rfl, rfl, a0, a1, HJ, HBr⟩ := hrel
    by_cases hlt : k < n
    · have hkl : k < xs.length := by rw [hn.out]; exact hlt
      have hkm : k < m := by omega
      have hke : k < es.length := by rw [hm.out]; exact hkm
      obtain ⟨b, o, hA, hi0⟩ := HA0.out.below HBr.out k hkl
      obtain ⟨b2, o2, hE, hi1⟩ := HE0.out.below HBr.out k hke
      subst hA
      subst hE
      obtain ⟨c0, c1, c2⟩ := HX0.out.below HBr.out
      have hm1 := all_get hx.out hkl
      have hm2 := all_get he.out hke
      have hst := prodF_step (P := P) (acc := acc) hkl hke
      obtain ⟨x, hxx⟩ : ∃ x, xs.getD k 0 = x := ⟨_, rfl⟩
      obtain ⟨ex, hee⟩ : ∃ x, es.getD k 0 = x := ⟨_, rfl⟩
      rw [hxx] at hi0 hm1 hst
      rw [hee] at hi1 hm2 hst
      have x0 := memG_lo hm1
      have x1 := memG_hi hm1
      have e0 := scB_lo hm2
      have e1 := scB_hi hm2
      obtain ⟨p, hp1⟩ : ∃ p, pw x ex P = p := ⟨_, rfl⟩
      obtain ⟨p0, p1⟩ : 0 ≤ p ∧ p < P := by rw [← hp1]; exact pw_lt _ _ _ (by omega)
      rw [hp1] at hst
      obtain ⟨acc2, hac⟩ : ∃ a, acc * p % P = a := ⟨_, rfl⟩
      rw [hac] at hst
      have q0 : 0 ≤ acc2 := by rw [← hac]; exact Int.emod_nonneg _ (by omega)
      have q1 : acc2 < P := by rw [← hac]; exact Int.emod_lt_of_pos _ (by omega)
      have HJ2 : Hid (prodF P acc2 (xs.drop (k + 1)) (es.drop (k + 1)) = V) := Lib.hid (hst.symm.trans HJ.out)
      have HP1 := Lib.hid hp1
      have HAC := Lib.hid hac
      have HB2 := Lib.hid (fun q => below_drawN HBr.out q)
      clear hm1 hm2 hst hxx hee hp1 hac hkl hke HJ
      go_wp2
      go_quiet ((first | (go_at_call 74; exact quiet_left (rpow_any x ex P p HP1 (by omega) hp (by omega) x1 e0 (by omega) _)) | (go_at_call 62; exact quiet_left (rmul_any acc p P acc2 HAC hp a0 a1 p0 p1 _))))
      go_wp2
      go_roundw
      case rel => exact ⟨k + 1, acc2, by omega, rfl, by go_num, q0, q1, HJ2, Lib.hid (HB2.out _)⟩
      case measure => simp [intOf]; omega
    · obtain rfl : k = n := by omega
      obtain rfl := prodF_end hn.out HJ
      have hbF := below_ext HBX.out HBr.out
      clear HJ hlt
      go_wp2
      go_ret
      exact ⟨rfl, hbF⟩
end Go.Proofs.YtjnoaejikapmdaaGreatDoor
namespace Go.Proofs.YtjnoaejikapmdaaGreatDoor
open Go.RowKit SpM
set_option linter.unusedVariables false
set_option linter.unusedSimpArgs false
set_option maxRecDepth 100000
theorem allR_step {f : Row → Bool} {xs : List Row} {k : Nat} (hk : k < xs.length) : (xs.drop k).all f = (f (xs.getD k noRow) && (xs.drop (k + 1)).all f) := by
  rw [List.drop_eq_getElem_cons hk, List.all_cons, List.getD_eq_getElem?_getD, List.getElem?_eq_getElem hk]
  rfl
theorem allI_step {f : Int → Bool} {xs : List Int} {k : Nat} (hk : k < xs.length) : (xs.drop k).all f = (f (xs.getD k 0) && (xs.drop (k + 1)).all f) := by
  rw [List.drop_eq_getElem_cons hk, List.all_cons, List.getD_eq_getElem?_getD, List.getElem?_eq_getElem hk]
  rfl
def leftV (P Q : Int) (n : Nat) (ys : List Int) (rows : List Row) (k : Nat) : Bool := (ys.drop k).all (memG P Q) && (rows.drop k).all (rowB P Q n)
theorem leftV_step {P Q : Int} {n : Nat} {ys : List Int} {rows : List Row} {k : Nat} (hk : k < ys.length) (hr : k < rows.length) :
    leftV P Q n ys rows k = (memG P Q (ys.getD k 0) && (rowB P Q n (rows.getD k noRow) && leftV P Q n ys rows (k + 1))) := by
  rw [leftV, allI_step hk, allR_step hr, leftV]
  cases memG P Q (ys.getD k 0) <;> cases rowB P Q n (rows.getD k noRow) <;> simp
set_option maxHeartbeats 12800000 in
theorem rvloop17 (P Q G : Int) (Y : Option Addr) (ys : List Int) (yn yc : Nat) (B : Option Addr) (rows : List Row) (bc n0 : Nat) (r : Bool) (HG : Hid (validG P Q G = true)) (hr : Hid (leftV P Q n0 ys rows 0 = r)) (hn : Hid (rowN rows = n0)) (hyn : Hid (ys.length = yn)) (hbn : Hid (rows.length = yn))
    (h1 : 1 ≤ yn) (h2 : yn ≤ 8) (h3 : 1 ≤ n0) (h4 : n0 ≤ 12) (hQ : Q < 9223372036854775808) (w : World) (hY : Hid (Sl w Y ys)) (hB : Hid (Rw w B rows)) :
    Calls Tryz.prog 210 #[gv P Q G, relV Y yn yc B yn bc] w fun e' w' => e' = .returned (.bool r) ∧ Below w.heap.size w w' := by
  obtain ⟨hp2, hp, hq3, hqp⟩ := validG_P HG.out
  obtain ⟨b, o, rfl⟩ := hB.out.some (by rw [hbn.out]; omega)
  obtain ⟨b1, o1, rfl, _⟩ := hY.out 0 (by rw [hyn.out]; omega)
  obtain ⟨w0, hW⟩ : ∃ W, (w.alloc (gObj P Q G)).alloc (relO (some ⟨b1, o1, none⟩) yn yc (some ⟨b, o, none⟩) yn bc) = W := ⟨_, rfl⟩
  have HBw : Hid (Below w.heap.size w w0) := Lib.hid (by rw [← hW]; exact below_two (Below.refl _ _))
  have HX0 : Hid (GBox w0 w.heap.size P Q G) := Lib.hid (by rw [← hW]; exact (gbox_alloc w P Q G).below (below_box0 _ _))
  have HR0 : Hid (RBox w0 (w.heap.size + 1) (.slice (some ⟨b1, o1, none⟩) yn yc) (.slice (some ⟨b, o, none⟩) yn bc)) := Lib.hid (by rw [← hW]; exact rbox_alloc1 _ _ _ _ _)
  have HY0 := Lib.hid (hY.out.below HBw.out)
  have HA0 := Lib.hid (hB.out.below HBw.out)
  have HW := Lib.hid hW
  have d1 : decide ((yn : Int) < 1) = false := by simp; omega
  have d2 : decide ((8 : Int) < (yn : Int)) = false := by simp; omega
  have d3 : decide ((n0 : Int) < 1) = false := by simp; omega
  have d4 : decide ((12 : Int) < (n0 : Int)) = false := by simp; omega
  clear hW hY hB
  go_enter Tryz.func210, Tryz.ntmps210
  go_wp2_with fail
  rw [HW.out]
  refine (rvalid_any P Q G true HG hQ _).mono ?_
  rintro e w1 ⟨rfl, hb0⟩
  have hb1 := below_ext HBw.out hb0
  have HX1 := Lib.hid (HX0.out.below hb0)
  have HR1 := Lib.hid (HR0.out.below hb0)
  have HY1 := Lib.hid (HY0.out.below hb0)
  have HA1 := Lib.hid (HA0.out.below hb0)
  clear hb0
  obtain ⟨d5, d6⟩ := HR1.out
  obtain ⟨c0, c1, c2⟩ := HX1.out
  go_wp2_with fail
  refine (runknowns_any (some ⟨b1, o1, none⟩) yn yc (some ⟨b, o, none⟩) rows yn bc n0 hbn (by omega) hn _ HA1).mono ?_
  rintro e W ⟨rfl, hb0⟩
  have HBW := Lib.hid (below_ext hb1 hb0)
  have HXW := Lib.hid (HX1.out.below hb0)
  have HRW := Lib.hid (HR1.out.below hb0)
  have HYW := Lib.hid (HY1.out.below hb0)
  have HAW := Lib.hid (HA1.out.below hb0)
  clear hb0 d5 d6 c0 c1 c2
  go_wp2
  go_loopw [6] (fun i wr => ∃ k : Nat, k ≤ yn ∧ i = .int .i64 k ∧ Hid (leftV P Q n0 ys rows k = r) ∧ Hid (Below W.heap.size W wr)) (fun i _ => yn - (intOf i).toNat)
  case atStart => exact ⟨0, by omega, rfl, hr, Lib.hid (Below.refl _ _)⟩
  case round =>
    obtain ⟨k, hk, rfl, HV_, HBr⟩ := hrel
    obtain ⟨wo, rfl⟩ : ∃ wo : World, wo = wr := ⟨_, rfl⟩
    obtain ⟨d5, d6⟩ := HRW.out.below HBr.out
    by_cases hlt : k < yn
    · have hkl : k < ys.length := by rw [hyn.out]; exact hlt
      have hkr : k < rows.length := by rw [hbn.out]; exact hlt
      obtain ⟨bb, oo, e1, hi0⟩ := HYW.out k hkl
      cases e1
      have hrow := HAW.out.at hkr
      have hok := (HAW.out k hkr).2
      have hst := leftV_step (P := P) (Q := Q) (n := n0) hkl hkr
      rw [HV_.out] at hst
      obtain ⟨y, hy⟩ : ∃ x, ys.getD k 0 = x := ⟨_, rfl⟩
      obtain ⟨R, hR⟩ : ∃ R, rows.getD k noRow = R := ⟨_, rfl⟩
      rw [hy] at hi0 hst
      rw [hR] at hrow hok hst
      obtain ⟨p, rn, rc, xs⟩ := R
      dsimp only [Row.val] at hrow
      have HI0 := Lib.hid hi0
      have HI1 := Lib.hid hrow
      have HL := Lib.hid hok.1
      have HS := Lib.hid hok.2
      have hS := Lib.hid (show ∀ u1 : World, Below W.heap.size W u1 → (u1.cell? ⟨w.heap.size, 0, none⟩ = some (.int .i64 P) ∧ u1.cell? ⟨w.heap.size, 1, none⟩ = some (.int .i64 Q) ∧ u1.cell? ⟨w.heap.size, 2, none⟩ = some (.int .i64 G) ∧ u1.cell? ⟨w.heap.size + 1, 0, none⟩ = some (.slice (some ⟨b1, o1, none⟩) yn yc) ∧ u1.cell? ⟨w.heap.size + 1, 1, none⟩ = some (.slice (some ⟨b, o, none⟩) yn bc) ∧ u1.cell? ⟨b1, o1 + k, none⟩ = some (.int .i64 y) ∧ u1.cell? ⟨b, o + k, none⟩ = some (.slice p rn rc) ∧ Hid (Below W.heap.size W u1)) from fun u1 h1 => ⟨(HXW.out.below h1).1, (HXW.out.below h1).2.1, (HXW.out.below h1).2.2, (HRW.out.below h1).1, (HRW.out.below h1).2, cell_below HI0.out h1, cell_below HI1.out h1, Lib.hid h1⟩)
      clear hi0 hrow hok hy hR hkl hkr
      cases hmy : memG P Q y with
      | false =>
        rw [hmy, Bool.false_and] at hst
        obtain rfl : r = false := hst
        have HM := Lib.hid hmy
        clear hmy HV_
        go_wp2
        refine wp_region_held_drew (S := fun w' => w'.cell? ⟨w.heap.size, 0, none⟩ = some (.int .i64 P) ∧ w'.cell? ⟨w.heap.size, 1, none⟩ = some (.int .i64 Q) ∧ w'.cell? ⟨w.heap.size, 2, none⟩ = some (.int .i64 G) ∧ w'.cell? ⟨w.heap.size + 1, 0, none⟩ = some (.slice (some ⟨b1, o1, none⟩) yn yc) ∧ w'.cell? ⟨w.heap.size + 1, 1, none⟩ = some (.slice (some ⟨b, o, none⟩) yn bc) ∧ w'.cell? ⟨b1, o1 + k, none⟩ = some (.int .i64 y) ∧ w'.cell? ⟨b, o + k, none⟩ = some (.slice p rn rc) ∧ Hid (Below W.heap.size W w')) (by kernel_rfl) (hS.out _ HBr.out.drew) (fun hHeld => ?_)
        refine wpAnyH_take (i := 0) (oi := _) (v := ?_) rfl (by kernel_rfl) (by kernel_rfl) (by kernel_rfl) (fun _ _ _ h => h) (Or.inl ⟨by rfl, ?_⟩) (by assumption) ?_
        rotate_left; (intro wS hSw; (try dsimp only at hSw); go_simp <;> with_reducible rfl)
        try simp only [qq1, qq2, qq3, Act.put, qq4, qq5, qq6]
        refine wpAnyH_take (i := 1) (oi := _) (v := ?_) rfl (by kernel_rfl) (by kernel_rfl) (by kernel_rfl) (fun _ _ _ h => h) (Or.inl ⟨by rfl, ?_⟩) (by assumption) ?_
        rotate_left; (intro wS hSw; (try dsimp only at hSw); go_simp <;> with_reducible rfl)
        try simp only [qq1, qq2, qq3, Act.put, qq4, qq5, qq6]
        refine wpAnyH_take (i := 2) (oi := _) (v := ?_) rfl (by kernel_rfl) (by kernel_rfl) (by kernel_rfl) (fun _ _ _ h => h) (Or.inl ⟨by rfl, ?_⟩) (by assumption) ?_
        rotate_left; (intro wS hSw; (try dsimp only at hSw); go_simp <;> with_reducible rfl)
        try simp only [qq1, qq2, qq3, Act.put, qq4, qq5, qq6]
        refine wpAnyH_take (i := 3) (oi := _) (v := ?_) rfl (by kernel_rfl) (by kernel_rfl) (by kernel_rfl) (fun _ _ _ h => h) (Or.inl ⟨by rfl, ?_⟩) (by assumption) ?_
        rotate_left; (intro wS hSw; (try dsimp only at hSw); go_simp <;> with_reducible rfl)
        try simp only [qq1, qq2, qq3, Act.put, qq4, qq5, qq6]
        refine wpAnyH_take (i := 4) (oi := _) (v := ?_) rfl (by kernel_rfl) (by kernel_rfl) (by kernel_rfl) (fun _ _ _ h => h) (Or.inl ⟨by rfl, ?_⟩) (by assumption) ?_
        rotate_left; (intro wS hSw; (try dsimp only at hSw); go_simp <;> with_reducible rfl)
        try simp only [qq1, qq2, qq3, Act.put, qq4, qq5, qq6]
        refine wpAnyH_take (i := 5) (oi := _) (v := ?_) rfl (by kernel_rfl) (by kernel_rfl) (by kernel_rfl) (fun _ _ _ h => h) (Or.inl ⟨by rfl, ?_⟩) (by assumption) ?_
        rotate_left; (intro wS hSw; (try dsimp only at hSw); go_simp <;> with_reducible rfl)
        try simp only [qq1, qq2, qq3, Act.put, qq4, qq5, qq6]
        refine wpAnyH_ready (rs := [6]) (by kernel_rfl) (by simp) ?_
        refine AllReadyH.cons rfl (fun K hK => ?_) AllReadyH.nil
        go_simp
        (with_reducible refine (rmember_any P Q G y false HM hp (by omega) hQ _).mono ?_); rintro e wA ⟨rfl, hbA⟩
        refine hK.out _ _ ?_ (fun hHeld => ?_)
        · (go_split_ands; exact hS.out _ (HBr.out.drew.trans (hbA.mono HBr.out.size)))
        clear hK K
        try simp only [qq1, qq2, qq3, Act.put, qq4, qq5, qq6]
        refine wpAnyH_take (i := 7) (oi := _) (v := ?_) rfl (by kernel_rfl) (by kernel_rfl) (by kernel_rfl) (fun _ _ _ h => h) (Or.inl ⟨by rfl, ?_⟩) (by assumption) ?_
        rotate_left; (intro wS hSw; (try dsimp only at hSw); go_simp <;> with_reducible rfl)
        try simp only [qq1, qq2, qq3, Act.put, qq4, qq5, qq6]
        refine wpAnyH_take (i := 8) (oi := _) (v := ?_) rfl (by kernel_rfl) (by kernel_rfl) (by kernel_rfl) (fun _ _ _ h => h) (Or.inl ⟨by rfl, ?_⟩) (by assumption) ?_
        rotate_left; (intro wS hSw; (try dsimp only at hSw); go_simp <;> with_reducible rfl)
        try simp only [qq1, qq2, qq3, Act.put, qq4, qq5, qq6]
        refine wpAnyH_take (i := 9) (oi := _) (v := undef) rfl (by kernel_rfl) (by kernel_rfl) (by kernel_rfl) (fun _ _ _ h => h) (Or.inr ⟨by rfl, rfl⟩) (by assumption) ?_
        try simp only [qq1, qq2, qq3, Act.put, qq4, qq5, qq6]
        refine wpAnyH_take (i := 10) (oi := _) (v := undef) rfl (by kernel_rfl) (by kernel_rfl) (by kernel_rfl) (fun _ _ _ h => h) (Or.inr ⟨by rfl, rfl⟩) (by assumption) ?_
        try simp only [qq1, qq2, qq3, Act.put, qq4, qq5, qq6]
        refine wpAnyH_take (i := 11) (oi := _) (v := undef) rfl (by kernel_rfl) (by kernel_rfl) (by kernel_rfl) (fun _ _ _ h => h) (Or.inr ⟨by rfl, rfl⟩) (by assumption) ?_
        try simp only [qq1, qq2, qq3, Act.put, qq4, qq5, qq6]
        refine wpAnyH_take (i := 12) (oi := _) (v := undef) rfl (by kernel_rfl) (by kernel_rfl) (by kernel_rfl) (fun _ _ _ h => h) (Or.inr ⟨by rfl, rfl⟩) (by assumption) ?_
        try simp only [qq1, qq2, qq3, Act.put, qq4, qq5, qq6]
        refine wpAnyH_take (i := 13) (oi := _) (v := undef) rfl (by kernel_rfl) (by kernel_rfl) (by kernel_rfl) (fun _ _ _ h => h) (Or.inr ⟨by rfl, rfl⟩) (by assumption) ?_
        try simp only [qq1, qq2, qq3, Act.put, qq4, qq5, qq6]
        refine wpAnyH_take (i := 14) (oi := _) (v := undef) rfl (by kernel_rfl) (by kernel_rfl) (by kernel_rfl) (fun _ _ _ h => h) (Or.inr ⟨by rfl, rfl⟩) (by assumption) ?_
        try simp only [qq1, qq2, qq3, Act.put, qq4, qq5, qq6]
        refine wpAnyH_take (i := 15) (oi := _) (v := undef) rfl (by kernel_rfl) (by kernel_rfl) (by kernel_rfl) (fun _ _ _ h => h) (Or.inr ⟨by rfl, rfl⟩) (by assumption) ?_
        try simp only [qq1, qq2, qq3, Act.put, qq4, qq5, qq6]
        refine wpAnyH_take (i := 16) (oi := _) (v := undef) rfl (by kernel_rfl) (by kernel_rfl) (by kernel_rfl) (fun _ _ _ h => h) (Or.inr ⟨by rfl, rfl⟩) (by assumption) ?_
        try simp only [qq1, qq2, qq3, Act.put, qq4, qq5, qq6]
        refine wpAnyH_take (i := 17) (oi := _) (v := ?_) rfl (by kernel_rfl) (by kernel_rfl) (by kernel_rfl) (fun _ _ _ h => h) (Or.inl ⟨by rfl, ?_⟩) (by assumption) ?_
        rotate_left; (intro wS hSw; (try dsimp only at hSw); go_simp <;> with_reducible rfl)
        try simp only [qq1, qq2, qq3, Act.put, qq4, qq5, qq6]
        refine wpAnyH_done (by kernel_rfl) ?_ _
        obtain ⟨x0, x1, x2, x3, x4, x5, x6, HBA⟩ := hHeld
        have hbF := below_ext HBW.out HBA.out
        go_wp2
        go_ret
        exact ⟨rfl, hbF⟩
      | true =>
        rw [hmy, Bool.true_and] at hst
        have HM := Lib.hid hmy
        clear hmy
        by_cases hne : rn = n0
        · subst hne
          have hneq : ((rn : Int) != (rn : Int)) = false := by simp
          obtain ⟨t, ht⟩ : ∃ t, xs.all (memG P Q) = t := ⟨_, rfl⟩
          have hrb : rowB P Q rn ⟨p, rn, rc, xs⟩ = t := by simp [rowB, ht]
          rw [hrb] at hst
          have HST := Lib.hid hst
          have HT : Hid ((xs.drop 0).all (memG P Q) = t) := Lib.hid (by rw [List.drop_zero]; exact ht)
          clear hst hrb ht HV_
          go_wp2
          go_region_held3 (fun w' => w'.cell? ⟨w.heap.size, 0, none⟩ = some (.int .i64 P) ∧ w'.cell? ⟨w.heap.size, 1, none⟩ = some (.int .i64 Q) ∧ w'.cell? ⟨w.heap.size, 2, none⟩ = some (.int .i64 G) ∧ w'.cell? ⟨w.heap.size + 1, 0, none⟩ = some (.slice (some ⟨b1, o1, none⟩) yn yc) ∧ w'.cell? ⟨w.heap.size + 1, 1, none⟩ = some (.slice (some ⟨b, o, none⟩) yn bc) ∧ w'.cell? ⟨b1, o1 + k, none⟩ = some (.int .i64 y) ∧ w'.cell? ⟨b, o + k, none⟩ = some (.slice p rn rc) ∧ Hid (Below W.heap.size W w'))
            (first | exact hS.out _ HBr.out.drew | (go_split_ands; exact hS.out _ (HBr.out.drew.trans (hbA.mono HBr.out.size))) | go_keep)
            ((first | (go_at_call 45; (with_reducible refine (rmember_any P Q G y true HM hp (by omega) hQ _).mono ?_); rintro e wA ⟨rfl, hbA⟩)))
          rename_i hHeld
          obtain ⟨x0, x1, x2, x3, x4, x5, x6, HBA⟩ := hHeld
          clear x0 x1 x2 x3 x4 x5 x6 hS HM hbA
          go_wp2
          go_loopw [7] (fun i wr => ∃ j : Nat, j ≤ rn ∧ i = .int .i64 j ∧ Hid ((xs.drop j).all (memG P Q) = t) ∧ Hid (Below W.heap.size W wr)) (fun i _ => rn - (intOf i).toNat)
          case atStart => exact ⟨0, by omega, rfl, HT, HBA⟩
          case round =>
            obtain ⟨j, hj, rfl, HJ, HBj⟩ := hrel
            obtain ⟨wi, rfl⟩ : ∃ wi : World, wi = wr := ⟨_, rfl⟩
            by_cases hjt : j < rn
            · have hjl : j < xs.length := by rw [HL.out]; exact hjt
              obtain ⟨b2, o2, e2, hi2⟩ := HS.out j hjl
              subst e2
              have hjs := allI_step (f := memG P Q) hjl
              rw [HJ.out] at hjs
              obtain ⟨x, hx⟩ : ∃ x, xs.getD j 0 = x := ⟨_, rfl⟩
              rw [hx] at hi2 hjs
              have HI2 := Lib.hid hi2
              have hS := Lib.hid (show ∀ u1 : World, Below W.heap.size W u1 → (u1.cell? ⟨w.heap.size, 0, none⟩ = some (.int .i64 P) ∧ u1.cell? ⟨w.heap.size, 1, none⟩ = some (.int .i64 Q) ∧ u1.cell? ⟨w.heap.size, 2, none⟩ = some (.int .i64 G) ∧ u1.cell? ⟨w.heap.size + 1, 0, none⟩ = some (.slice (some ⟨b1, o1, none⟩) yn yc) ∧ u1.cell? ⟨w.heap.size + 1, 1, none⟩ = some (.slice (some ⟨b, o, none⟩) yn bc) ∧ u1.cell? ⟨b, o + k, none⟩ = some (.slice (some ⟨b2, o2, none⟩) rn rc) ∧ u1.cell? ⟨b2, o2 + j, none⟩ = some (.int .i64 x) ∧ Hid (Below W.heap.size W u1)) from fun u1 h1 => ⟨(HXW.out.below h1).1, (HXW.out.below h1).2.1, (HXW.out.below h1).2.2, (HRW.out.below h1).1, (HRW.out.below h1).2, cell_below HI1.out h1, cell_below HI2.out h1, Lib.hid h1⟩)
              clear hi2 hx hjl
              cases hmx : memG P Q x with
              | false =>
                rw [hmx, Bool.false_and] at hjs
                obtain rfl : t = false := hjs
                obtain rfl : r = false := HST.out
                have HM := Lib.hid hmx
                clear hmx
                go_wp2
                go_region_held3 (fun w' => w'.cell? ⟨w.heap.size, 0, none⟩ = some (.int .i64 P) ∧ w'.cell? ⟨w.heap.size, 1, none⟩ = some (.int .i64 Q) ∧ w'.cell? ⟨w.heap.size, 2, none⟩ = some (.int .i64 G) ∧ w'.cell? ⟨w.heap.size + 1, 0, none⟩ = some (.slice (some ⟨b1, o1, none⟩) yn yc) ∧ w'.cell? ⟨w.heap.size + 1, 1, none⟩ = some (.slice (some ⟨b, o, none⟩) yn bc) ∧ w'.cell? ⟨b, o + k, none⟩ = some (.slice (some ⟨b2, o2, none⟩) rn rc) ∧ w'.cell? ⟨b2, o2 + j, none⟩ = some (.int .i64 x) ∧ Hid (Below W.heap.size W w'))
                  (first | exact hS.out _ HBj.out.drew | (go_split_ands; exact hS.out _ (HBj.out.drew.trans (hbA.mono HBj.out.size))) | go_keep)
                  ((first | (go_at_call 45; (with_reducible refine (rmember_any P Q G x false HM hp (by omega) hQ _).mono ?_); rintro e wA ⟨rfl, hbA⟩)))
                rename_i hHeld
                obtain ⟨x0, x1, x2, x3, x4, x5, x6, HBB⟩ := hHeld
                have hbF := below_ext HBW.out HBB.out
                clear x0 x1 x2 x3 x4 x5 x6
                go_wp2
                go_ret
                exact ⟨rfl, hbF⟩
              | true =>
                rw [hmx, Bool.true_and] at hjs
                have HJ2 := Lib.hid hjs.symm
                have HM := Lib.hid hmx
                clear hmx hjs HJ
                go_wp2
                go_region_held3 (fun w' => w'.cell? ⟨w.heap.size, 0, none⟩ = some (.int .i64 P) ∧ w'.cell? ⟨w.heap.size, 1, none⟩ = some (.int .i64 Q) ∧ w'.cell? ⟨w.heap.size, 2, none⟩ = some (.int .i64 G) ∧ w'.cell? ⟨w.heap.size + 1, 0, none⟩ = some (.slice (some ⟨b1, o1, none⟩) yn yc) ∧ w'.cell? ⟨w.heap.size + 1, 1, none⟩ = some (.slice (some ⟨b, o, none⟩) yn bc) ∧ w'.cell? ⟨b, o + k, none⟩ = some (.slice (some ⟨b2, o2, none⟩) rn rc) ∧ w'.cell? ⟨b2, o2 + j, none⟩ = some (.int .i64 x) ∧ Hid (Below W.heap.size W w'))
                  (first | exact hS.out _ HBj.out.drew | (go_split_ands; exact hS.out _ (HBj.out.drew.trans (hbA.mono HBj.out.size))) | go_keep)
                  ((first | (go_at_call 45; (with_reducible refine (rmember_any P Q G x true HM hp (by omega) hQ _).mono ?_); rintro e wA ⟨rfl, hbA⟩)))
                rename_i hHeld
                obtain ⟨x0, x1, x2, x3, x4, x5, x6, HBB⟩ := hHeld
                clear x0 x1 x2 x3 x4 x5 x6
                go_wp2
                go_roundw
                case rel => exact ⟨j + 1, by omega, by go_num, HJ2, HBB⟩
                case measure => simp [intOf]; omega
            · obtain rfl : j = rn := by omega
              obtain rfl : t = true := by rw [← HJ.out, ← HL.out, List.drop_length]; rfl
              have HV2 : Hid (leftV P Q j ys rows (k + 1) = r) := Lib.hid (by have h9 := HST.out; rw [Bool.true_and] at h9; exact h9.symm)
              clear HJ hjt
              go_wp2
              go_roundw
              case rel => exact ⟨k + 1, by omega, by go_num, HV2, HBj⟩
              case measure => simp [intOf]; omega
        · have hrb : rowB P Q n0 ⟨p, rn, rc, xs⟩ = false := by simp [rowB, hne]
          rw [hrb, Bool.false_and] at hst
          obtain rfl : r = false := hst
          have hneq : ((rn : Int) != (n0 : Int)) = true := by simp; omega
          clear hrb HV_
          go_wp2
          go_region_held3 (fun w' => w'.cell? ⟨w.heap.size, 0, none⟩ = some (.int .i64 P) ∧ w'.cell? ⟨w.heap.size, 1, none⟩ = some (.int .i64 Q) ∧ w'.cell? ⟨w.heap.size, 2, none⟩ = some (.int .i64 G) ∧ w'.cell? ⟨w.heap.size + 1, 0, none⟩ = some (.slice (some ⟨b1, o1, none⟩) yn yc) ∧ w'.cell? ⟨w.heap.size + 1, 1, none⟩ = some (.slice (some ⟨b, o, none⟩) yn bc) ∧ w'.cell? ⟨b1, o1 + k, none⟩ = some (.int .i64 y) ∧ w'.cell? ⟨b, o + k, none⟩ = some (.slice p rn rc) ∧ Hid (Below W.heap.size W w'))
            (first | exact hS.out _ HBr.out.drew | (go_split_ands; exact hS.out _ (HBr.out.drew.trans (hbA.mono HBr.out.size))) | go_keep)
            ((first | (go_at_call 45; (with_reducible refine (rmember_any P Q G y true HM hp (by omega) hQ _).mono ?_); rintro e wA ⟨rfl, hbA⟩)))
          rename_i hHeld
          obtain ⟨x0, x1, x2, x3, x4, x5, x6, HBA⟩ := hHeld
          have hbF := below_ext HBW.out HBA.out
          clear x0 x1 x2 x3 x4 x5 x6
          go_wp2
          go_ret
          exact ⟨rfl, hbF⟩
    · obtain rfl : k = yn := by omega
      obtain rfl : r = true := by
        rw [← HV_.out, leftV]
        have e1 : ys.drop k = [] := by rw [← hyn.out, List.drop_length]
        have e2 : rows.drop k = [] := by rw [← hbn.out, List.drop_length]
        rw [e1, e2]; rfl
      have hbF := below_ext HBW.out HBr.out
      clear HV_ hlt
      go_wp2
      go_ret
      exact ⟨rfl, hbF⟩
end Go.Proofs.YtjnoaejikapmdaaGreatDoor
namespace Go.Proofs.YtjnoaejikapmdaaGreatDoor
open Go.RowKit SpM
set_option linter.unusedVariables false
set_option linter.unusedSimpArgs false
set_option maxRecDepth 20000
set_option maxHeartbeats 3200000 in
theorem rv17_g (P Q G : Int) (Y : Option Addr) (ys : List Int) (yn yc : Nat) (B : Option Addr) (rows : List Row) (bn bc : Nat) (HG : Hid (validG P Q G = false)) (hyn : Hid (ys.length = yn)) (hbn : Hid (rows.length = bn)) (hQ : Q < 9223372036854775808) (w : World) (hY : Hid (Sl w Y ys)) (hB : Hid (Rw w B rows)) :
    Calls Tryz.prog 210 #[gv P Q G, relV Y yn yc B bn bc] w fun e' w' => e' = .returned (.bool false) ∧ Below w.heap.size w w' := by
  obtain ⟨w0, hW⟩ : ∃ W, (w.alloc (gObj P Q G)).alloc (relO Y yn yc B bn bc) = W := ⟨_, rfl⟩
  have HBw : Hid (Below w.heap.size w w0) := Lib.hid (by rw [← hW]; exact below_two (Below.refl _ _))
  have HX0 : Hid (GBox w0 w.heap.size P Q G) := Lib.hid (by rw [← hW]; exact (gbox_alloc w P Q G).below (below_box0 _ _))
  have HR0 : Hid (RBox w0 (w.heap.size + 1) (.slice Y yn yc) (.slice B bn bc)) := Lib.hid (by rw [← hW]; exact rbox_alloc1 _ _ _ _ _)
  have HY0 : Hid (Sl w0 Y ys) := Lib.hid (hY.out.below HBw.out)
  have HW_0 : Hid (Rw w0 B rows) := Lib.hid (hB.out.below HBw.out)
  have HW := Lib.hid hW
  clear hW hY hB
  go_enter Tryz.func210, Tryz.ntmps210
  go_wp2_with fail
  rw [HW.out]
  go_wp2_with fail
  refine (rvalid_any P Q G false HG hQ _).mono ?_
  rintro e w1 ⟨rfl, hb0⟩
  have hb1 := below_ext (HBw.out) hb0
  have HX1 := Lib.hid (HX0.out.below hb0)
  have HR1 := Lib.hid (HR0.out.below hb0)
  have HY1 := Lib.hid (HY0.out.below hb0)
  have HW_1 := Lib.hid (HW_0.out.below hb0)
  clear hb0
  obtain ⟨c0, c1, c2⟩ := HX1.out
  obtain ⟨d0, d1⟩ := HR1.out
  go_wp2
  go_ret
  exact ⟨rfl, hb1⟩
set_option maxHeartbeats 3200000 in
theorem rv17_1 (P Q G : Int) (Y : Option Addr) (ys : List Int) (yn yc : Nat) (B : Option Addr) (rows : List Row) (bn bc : Nat) (HG : Hid (validG P Q G = true)) (h1 : yn < 1) (hyn : Hid (ys.length = yn)) (hbn : Hid (rows.length = bn)) (hQ : Q < 9223372036854775808) (w : World) (hY : Hid (Sl w Y ys)) (hB : Hid (Rw w B rows)) :
    Calls Tryz.prog 210 #[gv P Q G, relV Y yn yc B bn bc] w fun e' w' => e' = .returned (.bool false) ∧ Below w.heap.size w w' := by
  obtain ⟨w0, hW⟩ : ∃ W, (w.alloc (gObj P Q G)).alloc (relO Y yn yc B bn bc) = W := ⟨_, rfl⟩
  have HBw : Hid (Below w.heap.size w w0) := Lib.hid (by rw [← hW]; exact below_two (Below.refl _ _))
  have HX0 : Hid (GBox w0 w.heap.size P Q G) := Lib.hid (by rw [← hW]; exact (gbox_alloc w P Q G).below (below_box0 _ _))
  have HR0 : Hid (RBox w0 (w.heap.size + 1) (.slice Y yn yc) (.slice B bn bc)) := Lib.hid (by rw [← hW]; exact rbox_alloc1 _ _ _ _ _)
  have HY0 : Hid (Sl w0 Y ys) := Lib.hid (hY.out.below HBw.out)
  have HW_0 : Hid (Rw w0 B rows) := Lib.hid (hB.out.below HBw.out)
  have HW := Lib.hid hW
  clear hW hY hB
  have d1 : decide ((yn : Int) < 1) = true := by simp; omega
  go_enter Tryz.func210, Tryz.ntmps210
  go_wp2_with fail
  rw [HW.out]
  go_wp2_with fail
  refine (rvalid_any P Q G true HG hQ _).mono ?_
  rintro e w1 ⟨rfl, hb0⟩
  have hb1 := below_ext (HBw.out) hb0
  have HX1 := Lib.hid (HX0.out.below hb0)
  have HR1 := Lib.hid (HR0.out.below hb0)
  have HY1 := Lib.hid (HY0.out.below hb0)
  have HW_1 := Lib.hid (HW_0.out.below hb0)
  clear hb0
  obtain ⟨c0, c1, c2⟩ := HX1.out
  obtain ⟨d0, d1⟩ := HR1.out
  go_wp2
  go_ret
  exact ⟨rfl, hb1⟩
set_option maxHeartbeats 3200000 in
theorem rv17_2 (P Q G : Int) (Y : Option Addr) (ys : List Int) (yn yc : Nat) (B : Option Addr) (rows : List Row) (bn bc : Nat) (HG : Hid (validG P Q G = true)) (h1 : 1 ≤ yn) (h2 : 8 < yn) (hyn : Hid (ys.length = yn)) (hbn : Hid (rows.length = bn)) (hQ : Q < 9223372036854775808) (w : World) (hY : Hid (Sl w Y ys)) (hB : Hid (Rw w B rows)) :
    Calls Tryz.prog 210 #[gv P Q G, relV Y yn yc B bn bc] w fun e' w' => e' = .returned (.bool false) ∧ Below w.heap.size w w' := by
  obtain ⟨w0, hW⟩ : ∃ W, (w.alloc (gObj P Q G)).alloc (relO Y yn yc B bn bc) = W := ⟨_, rfl⟩
  have HBw : Hid (Below w.heap.size w w0) := Lib.hid (by rw [← hW]; exact below_two (Below.refl _ _))
  have HX0 : Hid (GBox w0 w.heap.size P Q G) := Lib.hid (by rw [← hW]; exact (gbox_alloc w P Q G).below (below_box0 _ _))
  have HR0 : Hid (RBox w0 (w.heap.size + 1) (.slice Y yn yc) (.slice B bn bc)) := Lib.hid (by rw [← hW]; exact rbox_alloc1 _ _ _ _ _)
  have HY0 : Hid (Sl w0 Y ys) := Lib.hid (hY.out.below HBw.out)
  have HW_0 : Hid (Rw w0 B rows) := Lib.hid (hB.out.below HBw.out)
  have HW := Lib.hid hW
  clear hW hY hB
  have d1 : decide ((yn : Int) < 1) = false := by simp; omega
  have d2 : decide ((8 : Int) < (yn : Int)) = true := by simp; omega
  go_enter Tryz.func210, Tryz.ntmps210
  go_wp2_with fail
  rw [HW.out]
  go_wp2_with fail
  refine (rvalid_any P Q G true HG hQ _).mono ?_
  rintro e w1 ⟨rfl, hb0⟩
  have hb1 := below_ext (HBw.out) hb0
  have HX1 := Lib.hid (HX0.out.below hb0)
  have HR1 := Lib.hid (HR0.out.below hb0)
  have HY1 := Lib.hid (HY0.out.below hb0)
  have HW_1 := Lib.hid (HW_0.out.below hb0)
  clear hb0
  obtain ⟨c0, c1, c2⟩ := HX1.out
  obtain ⟨d0, d1⟩ := HR1.out
  go_wp2
  go_ret
  exact ⟨rfl, hb1⟩
set_option maxHeartbeats 3200000 in
theorem rv17_3 (P Q G : Int) (Y : Option Addr) (ys : List Int) (yn yc : Nat) (B : Option Addr) (rows : List Row) (bn bc : Nat) (HG : Hid (validG P Q G = true)) (h1 : 1 ≤ yn) (h2 : yn ≤ 8) (h3 : bn ≠ yn) (hyn : Hid (ys.length = yn)) (hbn : Hid (rows.length = bn)) (hQ : Q < 9223372036854775808) (w : World) (hY : Hid (Sl w Y ys)) (hB : Hid (Rw w B rows)) :
    Calls Tryz.prog 210 #[gv P Q G, relV Y yn yc B bn bc] w fun e' w' => e' = .returned (.bool false) ∧ Below w.heap.size w w' := by
  obtain ⟨w0, hW⟩ : ∃ W, (w.alloc (gObj P Q G)).alloc (relO Y yn yc B bn bc) = W := ⟨_, rfl⟩
  have HBw : Hid (Below w.heap.size w w0) := Lib.hid (by rw [← hW]; exact below_two (Below.refl _ _))
  have HX0 : Hid (GBox w0 w.heap.size P Q G) := Lib.hid (by rw [← hW]; exact (gbox_alloc w P Q G).below (below_box0 _ _))
  have HR0 : Hid (RBox w0 (w.heap.size + 1) (.slice Y yn yc) (.slice B bn bc)) := Lib.hid (by rw [← hW]; exact rbox_alloc1 _ _ _ _ _)
  have HY0 : Hid (Sl w0 Y ys) := Lib.hid (hY.out.below HBw.out)
  have HW_0 : Hid (Rw w0 B rows) := Lib.hid (hB.out.below HBw.out)
  have HW := Lib.hid hW
  clear hW hY hB
  have d1 : decide ((yn : Int) < 1) = false := by simp; omega
  have d2 : decide ((8 : Int) < (yn : Int)) = false := by simp; omega
  have d3 : ((bn : Int) != (yn : Int)) = true := by simp; omega
  go_enter Tryz.func210, Tryz.ntmps210
  go_wp2_with fail
  rw [HW.out]
  go_wp2_with fail
  refine (rvalid_any P Q G true HG hQ _).mono ?_
  rintro e w1 ⟨rfl, hb0⟩
  have hb1 := below_ext (HBw.out) hb0
  have HX1 := Lib.hid (HX0.out.below hb0)
  have HR1 := Lib.hid (HR0.out.below hb0)
  have HY1 := Lib.hid (HY0.out.below hb0)
  have HW_1 := Lib.hid (HW_0.out.below hb0)
  clear hb0
  obtain ⟨c0, c1, c2⟩ := HX1.out
  obtain ⟨d0, d1⟩ := HR1.out
  go_wp2
  go_ret
  exact ⟨rfl, hb1⟩
set_option maxHeartbeats 3200000 in
theorem rv17_4 (P Q G : Int) (Y : Option Addr) (ys : List Int) (yc : Nat) (B : Option Addr) (rows : List Row) (bn bc : Nat) (n0 : Nat) (hN : Hid (rowN rows = n0)) (HG : Hid (validG P Q G = true)) (h1 : 1 ≤ bn) (h2 : bn ≤ 8) (h4 : n0 < 1) (hyn : Hid (ys.length = bn)) (hbn : Hid (rows.length = bn)) (hQ : Q < 9223372036854775808) (w : World) (hY : Hid (Sl w Y ys)) (hB : Hid (Rw w B rows)) :
    Calls Tryz.prog 210 #[gv P Q G, relV Y bn yc B bn bc] w fun e' w' => e' = .returned (.bool false) ∧ Below w.heap.size w w' := by
  obtain ⟨w0, hW⟩ : ∃ W, (w.alloc (gObj P Q G)).alloc (relO Y bn yc B bn bc) = W := ⟨_, rfl⟩
  have HBw : Hid (Below w.heap.size w w0) := Lib.hid (by rw [← hW]; exact below_two (Below.refl _ _))
  have HX0 : Hid (GBox w0 w.heap.size P Q G) := Lib.hid (by rw [← hW]; exact (gbox_alloc w P Q G).below (below_box0 _ _))
  have HR0 : Hid (RBox w0 (w.heap.size + 1) (.slice Y bn yc) (.slice B bn bc)) := Lib.hid (by rw [← hW]; exact rbox_alloc1 _ _ _ _ _)
  have HY0 : Hid (Sl w0 Y ys) := Lib.hid (hY.out.below HBw.out)
  have HW_0 : Hid (Rw w0 B rows) := Lib.hid (hB.out.below HBw.out)
  have HW := Lib.hid hW
  clear hW hY hB
  have d1 : decide ((bn : Int) < 1) = false := by simp; omega
  have d2 : decide ((8 : Int) < (bn : Int)) = false := by simp; omega
  have d4 : decide ((n0 : Int) < 1) = true := by simp; omega
  go_enter Tryz.func210, Tryz.ntmps210
  go_wp2_with fail
  rw [HW.out]
  go_wp2_with fail
  refine (rvalid_any P Q G true HG hQ _).mono ?_
  rintro e w1 ⟨rfl, hb0⟩
  have hb1 := below_ext (HBw.out) hb0
  have HX1 := Lib.hid (HX0.out.below hb0)
  have HR1 := Lib.hid (HR0.out.below hb0)
  have HY1 := Lib.hid (HY0.out.below hb0)
  have HW_1 := Lib.hid (HW_0.out.below hb0)
  clear hb0
  obtain ⟨c0, c1, c2⟩ := HX1.out
  obtain ⟨d0, d1⟩ := HR1.out
  go_wp2_with fail
  refine (runknowns_any Y bn yc B rows bn bc n0 hbn (by omega) hN _ HW_1).mono ?_
  rintro e w2 ⟨rfl, hb0⟩
  have hb2 := below_ext hb1 hb0
  have HX2 := Lib.hid (HX1.out.below hb0)
  have HR2 := Lib.hid (HR1.out.below hb0)
  have HY2 := Lib.hid (HY1.out.below hb0)
  have HW_2 := Lib.hid (HW_1.out.below hb0)
  clear c0 c1 c2 d0 d1 hb0
  obtain ⟨c0, c1, c2⟩ := HX2.out
  obtain ⟨d0, d1⟩ := HR2.out
  go_wp2
  go_ret
  exact ⟨rfl, hb2⟩
set_option maxHeartbeats 3200000 in
theorem rv17_5 (P Q G : Int) (Y : Option Addr) (ys : List Int) (yc : Nat) (B : Option Addr) (rows : List Row) (bn bc : Nat) (n0 : Nat) (hN : Hid (rowN rows = n0)) (HG : Hid (validG P Q G = true)) (h1 : 1 ≤ bn) (h2 : bn ≤ 8) (h4 : 1 ≤ n0) (h5 : 12 < n0) (hyn : Hid (ys.length = bn)) (hbn : Hid (rows.length = bn)) (hQ : Q < 9223372036854775808) (w : World) (hY : Hid (Sl w Y ys)) (hB : Hid (Rw w B rows)) :
    Calls Tryz.prog 210 #[gv P Q G, relV Y bn yc B bn bc] w fun e' w' => e' = .returned (.bool false) ∧ Below w.heap.size w w' := by
  obtain ⟨w0, hW⟩ : ∃ W, (w.alloc (gObj P Q G)).alloc (relO Y bn yc B bn bc) = W := ⟨_, rfl⟩
  have HBw : Hid (Below w.heap.size w w0) := Lib.hid (by rw [← hW]; exact below_two (Below.refl _ _))
  have HX0 : Hid (GBox w0 w.heap.size P Q G) := Lib.hid (by rw [← hW]; exact (gbox_alloc w P Q G).below (below_box0 _ _))
  have HR0 : Hid (RBox w0 (w.heap.size + 1) (.slice Y bn yc) (.slice B bn bc)) := Lib.hid (by rw [← hW]; exact rbox_alloc1 _ _ _ _ _)
  have HY0 : Hid (Sl w0 Y ys) := Lib.hid (hY.out.below HBw.out)
  have HW_0 : Hid (Rw w0 B rows) := Lib.hid (hB.out.below HBw.out)
  have HW := Lib.hid hW
  clear hW hY hB
  have d1 : decide ((bn : Int) < 1) = false := by simp; omega
  have d2 : decide ((8 : Int) < (bn : Int)) = false := by simp; omega
  have d4 : decide ((n0 : Int) < 1) = false := by simp; omega
  have d5 : decide ((12 : Int) < (n0 : Int)) = true := by simp; omega
  go_enter Tryz.func210, Tryz.ntmps210
  go_wp2_with fail
  rw [HW.out]
  go_wp2_with fail
  refine (rvalid_any P Q G true HG hQ _).mono ?_
  rintro e w1 ⟨rfl, hb0⟩
  have hb1 := below_ext (HBw.out) hb0
  have HX1 := Lib.hid (HX0.out.below hb0)
  have HR1 := Lib.hid (HR0.out.below hb0)
  have HY1 := Lib.hid (HY0.out.below hb0)
  have HW_1 := Lib.hid (HW_0.out.below hb0)
  clear hb0
  obtain ⟨c0, c1, c2⟩ := HX1.out
  obtain ⟨d0, d1⟩ := HR1.out
  go_wp2_with fail
  refine (runknowns_any Y bn yc B rows bn bc n0 hbn (by omega) hN _ HW_1).mono ?_
  rintro e w2 ⟨rfl, hb0⟩
  have hb2 := below_ext hb1 hb0
  have HX2 := Lib.hid (HX1.out.below hb0)
  have HR2 := Lib.hid (HR1.out.below hb0)
  have HY2 := Lib.hid (HY1.out.below hb0)
  have HW_2 := Lib.hid (HW_1.out.below hb0)
  clear c0 c1 c2 d0 d1 hb0
  obtain ⟨c0, c1, c2⟩ := HX2.out
  obtain ⟨d0, d1⟩ := HR2.out
  go_wp2
  go_ret
  exact ⟨rfl, hb2⟩
theorem rvalid17_any (P Q G : Int) (Y : Option Addr) (ys : List Int) (yn yc : Nat) (B : Option Addr) (rows : List Row) (bn bc : Nat) (r : Bool) (hr : Hid (validR P Q G ys rows = r)) (hyn : Hid (ys.length = yn)) (hbn : Hid (rows.length = bn)) (hQ : Q < 9223372036854775808) (w : World) (hY : Hid (Sl w Y ys)) (hB : Hid (Rw w B rows)) :
    Calls Tryz.prog 210 #[gv P Q G, relV Y yn yc B bn bc] w fun e' w' => e' = .returned (.bool r) ∧ Below w.heap.size w w' := by
  have hr' := hr.out
  rw [validR, hyn.out, hbn.out] at hr'
  cases hg : validG P Q G with
  | false =>
    obtain rfl : r = false := by rw [← hr', hg, Bool.false_and]
    exact rv17_g P Q G Y ys yn yc B rows bn bc (Lib.hid hg) hyn hbn hQ w hY hB
  | true =>
    rw [hg, Bool.true_and] at hr'
    by_cases h1 : yn < 1
    · obtain rfl : r = false := by rw [← hr', decide_eq_false (show ¬ 1 ≤ yn by omega)]; rfl
      exact rv17_1 P Q G Y ys yn yc B rows bn bc (Lib.hid hg) h1 hyn hbn hQ w hY hB
    · rw [decide_eq_true (show 1 ≤ yn by omega), Bool.true_and] at hr'
      by_cases h2 : 8 < yn
      · obtain rfl : r = false := by rw [← hr', decide_eq_false (show ¬ yn ≤ 8 by omega)]; rfl
        exact rv17_2 P Q G Y ys yn yc B rows bn bc (Lib.hid hg) (by omega) h2 hyn hbn hQ w hY hB
      · rw [decide_eq_true (show yn ≤ 8 by omega), Bool.true_and] at hr'
        by_cases h3 : bn = yn
        · subst h3
          rw [decide_eq_true rfl, Bool.true_and] at hr'
          obtain ⟨n0, hn0⟩ : ∃ n, rowN rows = n := ⟨_, rfl⟩
          rw [hn0] at hr'
          by_cases h4 : n0 < 1
          · obtain rfl : r = false := by rw [← hr', decide_eq_false (show ¬ 1 ≤ n0 by omega), Bool.false_and, Bool.and_false]
            exact rv17_4 P Q G Y ys yc B rows bn bc n0 (Lib.hid hn0) (Lib.hid hg) (by omega) (by omega) h4 hyn hbn hQ w hY hB
          · rw [decide_eq_true (show 1 ≤ n0 by omega), Bool.true_and] at hr'
            by_cases h5 : 12 < n0
            · obtain rfl : r = false := by rw [← hr', decide_eq_false (show ¬ n0 ≤ 12 by omega), Bool.false_and, Bool.and_false]
              exact rv17_5 P Q G Y ys yc B rows bn bc n0 (Lib.hid hn0) (Lib.hid hg) (by omega) (by omega) (by omega) h5 hyn hbn hQ w hY hB
            · rw [decide_eq_true (show n0 ≤ 12 by omega), Bool.true_and] at hr'
              exact rvloop17 P Q G Y ys bn yc B rows bc n0 r (Lib.hid hg) (Lib.hid (by rw [leftV, List.drop_zero, List.drop_zero]; exact hr')) (Lib.hid hn0) hyn hbn (by omega) (by omega) (by omega) (by omega) hQ w hY hB
        · obtain rfl : r = false := by rw [← hr', decide_eq_false h3]; rfl
          exact rv17_3 P Q G Y ys yn yc B rows bn bc (Lib.hid hg) (by omega) (by omega) h3 hyn hbn hQ w hY hB
end Go.Proofs.YtjnoaejikapmdaaGreatDoor
namespace Go.Proofs.YtjnoaejikapmdaaGreatDoor
open Go.RowKit SpM
set_option linter.unusedVariables false
set_option linter.unusedSimpArgs false
set_option maxRecDepth 100000
theorem eq_any (g n cap : Nat) (zs : List Int) (Y : Option Addr) (ys : List Int) (m yc : Nat) (hn : zs.length = n) (hm : Hid (ys.length = m)) (hpos : 0 < m) (hbig : n < 1000) (hbig2 : m < 1000) (w : World) (h1 : Hid (Cells w g zs)) (h2 : Hid (Sl w Y ys)) :
    Calls Tryz.prog 108 #[.slice (some ⟨g, 0, none⟩) n cap, .slice Y m yc] w fun e w' => e = .returned (.bool (zs == ys)) ∧ Below w.heap.size w w' := by
  obtain ⟨b, o, rfl, _⟩ := h2.out 0 (by rw [hm.out]; exact hpos)
  have hm' := hm.out
  refine (Tryz.slices_Equal_int g 0 n cap b o m yc zs ys w (by omega) (by omega) (by omega) (by omega) (fun j hj => ?_) (fun j hj => ?_)).mono ?_
  · rw [Nat.zero_add]; exact h1.out j hj
  · obtain ⟨b', o', e1, e2⟩ := h2.out j hj
    cases e1
    exact e2
  · rintro e w' ⟨rfl, q, rfl⟩
    refine ⟨?_, below_drawN (Below.refl _ _) _⟩
    rw [List.take_of_length_le (by omega), List.take_of_length_le (by omega)]
def CellsOut (zs : List Int) (n : Nat) (w : World) (e : Ending) (w' : World) : Prop := ∃ g cap, e = .returned (.slice (some ⟨g, 0, none⟩) n cap) ∧ Hid (Cells w' g zs) ∧ Below w.heap.size w w'
theorem ListOut.cells {zs : List Int} {n : Nat} {w w' : World} {e : Ending} (h : ListOut zs w e w') (hn : zs.length = n) (hpos : 0 < n) : CellsOut zs n w e w' := by
  obtain ⟨v, he, ho, hb⟩ := h
  obtain ⟨g, cap, rfl, _, hc⟩ := OwnL.cells ho (by omega)
  rw [hn] at he
  exact ⟨g, cap, he, Lib.hid hc, hb⟩
end Go.Proofs.YtjnoaejikapmdaaGreatDoor
namespace Go.Proofs.YtjnoaejikapmdaaGreatDoor
open Go.RowKit SpM
set_option linter.unusedVariables false
set_option linter.unusedSimpArgs false
set_option maxRecDepth 20000
theorem OwnL.rowF {w : World} {B : Nat} {v : Value} {xs : List Int} (h : OwnL w B v xs) (hne : 0 < xs.length) : ∃ g cap, v = .slice (some ⟨g, 0, none⟩) xs.length cap ∧ B ≤ g ∧ RowF w g xs.length (fun j => xs.getD j 0) := by
  obtain ⟨g, cap, hv, hg, hc⟩ := OwnL.cells h hne
  obtain ⟨_, h2⟩ := h
  rcases h2 with ⟨_, h0⟩ | ⟨g', cap', cur, hv', _, hh, _⟩
  · omega
  · rw [hv] at hv'
    cases hv'
    exact ⟨g, cap, hv, hg, fun j hj => hc j hj, fun j => frozen_blk hh j⟩
theorem RowF.below {w w' : World} {g n : Nat} {f : Nat → Int} (h : RowF w g n f) (hn : 0 < n) (hb : Below w.heap.size w w') : RowF w' g n f := by
  have hg : g < w.heap.size := World.block_lt_of_cell? _ _ (h.1 0 hn)
  exact ⟨fun j hj => (hb.cell (p := ⟨g, j, none⟩) hg).trans (h.1 j hj), fun j => (hb.frozen (p := ⟨g, j, none⟩) hg).trans (h.2 j)⟩
def simF (P Q c : Int) (ys : List Int) (rows : List Row) (zs : List Int) (i : Nat) : Int := prodF P 1 (rows.getD i noRow).xs zs * pw (ys.getD i 0) ((Q - c) % Q) P % P
def simR (P Q c : Int) (ys : List Int) (rows : List Row) (zs : List Int) : List Int := (List.range rows.length).map (simF P Q c ys rows zs)
theorem simR_length (P Q c : Int) (ys : List Int) (rows : List Row) (zs : List Int) : (simR P Q c ys rows zs).length = rows.length := by simp [simR]
theorem simR_get {P Q c : Int} {ys : List Int} {rows : List Row} {zs : List Int} {i : Nat} (h : i < rows.length) : (simR P Q c ys rows zs).getD i 0 = simF P Q c ys rows zs i := by
  rw [List.getD_eq_getElem?_getD, List.getElem?_eq_getElem (by rw [simR_length]; exact h)]
  simp [simR]
theorem map_getD {f : Row → Int} {rows : List Row} {i : Nat} (h : i < rows.length) : (rows.map f).getD i 0 = f (rows.getD i noRow) := by
  rw [List.getD_eq_getElem?_getD, List.getElem?_eq_getElem (by simpa using h), List.getD_eq_getElem?_getD, List.getElem?_eq_getElem h]
  simp
theorem prodF_in {P : Int} (hp : 2 ≤ P) : ∀ (xs es : List Int) (acc : Int), 0 ≤ acc → acc < P → 0 ≤ prodF P acc xs es ∧ prodF P acc xs es < P
  | [], es, acc, h0, h1 => by cases es <;> exact ⟨h0, h1⟩
  | x :: xs, [], acc, h0, h1 => ⟨h0, h1⟩
  | x :: xs, e :: es, acc, h0, h1 => by
    rw [prodF]
    exact prodF_in hp xs es _ (Int.emod_nonneg _ (by omega)) (Int.emod_lt_of_pos _ (by omega))
set_option maxHeartbeats 12800000 in
theorem lsim_ok (P Q G : Int) (Y : Option Addr) (ys : List Int) (yc : Nat) (B : Option Addr) (rows : List Row) (n bc : Nat) (c : Int) (L : Option Addr) (zs : List Int) (ln lc : Nat) (HVL : Hid (validR P Q G ys rows = true)) (hyn : Hid (ys.length = n)) (hbn : Hid (rows.length = n)) (hln : Hid (zs.length = ln)) (hlen : zs.length = rowN rows)
    (Hl : Hid (zs.all (scB Q) = true)) (hc0 : 0 ≤ c) (hc1 : c < Q) (hQ : Q < 9223372036854775808) (w : World) (hY : Hid (Sl w Y ys)) (hB : Hid (Rw w B rows)) (hL : Hid (Sl w L zs)) :
    Calls Tryz.prog 269 #[gv P Q G, relV Y n yc B n bc, .int .i64 c, .slice L ln lc] w (CellsOut (simR P Q c ys rows zs) n w) := by
  obtain ⟨v1, v2, v3, v4, v5, v6, v7, v8⟩ := validR_parts HVL.out
  obtain ⟨hp2, hp, hq3, hqp⟩ := validG_P v1
  rw [← hlen, hln.out] at v8
  have HRB := Lib.hid v8
  have hnp : 0 < n := by rw [← hyn.out]; omega
  have hn8 : n ≤ 8 := by rw [← hyn.out]; omega
  have hln12 : ln ≤ 12 := by rw [← hln.out]; omega
  have HYM := Lib.hid v5
  have hzl : (rows.map fun r => prodF P 1 r.xs zs).length = n := by rw [List.length_map]; exact hbn.out
  clear v1 v2 v3 v4 v5 v6 v7 v8
  obtain ⟨b1, o1, rfl, _⟩ := hY.out 0 (by rw [hyn.out]; exact hnp)
  obtain ⟨w0, hW⟩ : ∃ W, (w.alloc (gObj P Q G)).alloc (relO (some ⟨b1, o1, none⟩) n yc B n bc) = W := ⟨_, rfl⟩
  have HBw : Hid (Below w.heap.size w w0) := Lib.hid (by rw [← hW]; exact below_two (Below.refl _ _))
  have HX0 : Hid (GBox w0 w.heap.size P Q G) := Lib.hid (by rw [← hW]; exact (gbox_alloc w P Q G).below (below_box0 _ _))
  have HR0 : Hid (RBox w0 (w.heap.size + 1) (.slice (some ⟨b1, o1, none⟩) n yc) (.slice B n bc)) := Lib.hid (by rw [← hW]; exact rbox_alloc1 _ _ _ _ _)
  have HY0 := Lib.hid (hY.out.below HBw.out)
  have HA0 := Lib.hid (hB.out.below HBw.out)
  have HL0 := Lib.hid (hL.out.below HBw.out)
  have HW := Lib.hid hW
  clear hW hY hB hL
  obtain ⟨d0, d1⟩ := HR0.out
  obtain ⟨c0, c1, c2⟩ := HX0.out
  go_enter Tryz.func269, Tryz.ntmps269
  go_wp2_with fail
  rw [HW.out]
  refine (lproducts_any P Q G B rows n bc L zs ln lc hbn hln (by omega) (by omega) HRB Hl hp2 hp hQ _ HA0 HL0).mono ?_
  rintro e W ⟨v, rfl, ho, hb0⟩
  obtain ⟨g, cap, rfl, hg, hrf⟩ := ho.rowF (by rw [hzl]; exact hnp)
  rw [hzl] at hrf
  have hvl : (Value.slice (some ⟨g, 0, none⟩) ((rows.map fun r => prodF P 1 r.xs zs).length) cap) = .slice (some ⟨g, 0, none⟩) n cap := by rw [hzl]
  rw [hvl]
  have HXW := Lib.hid (HX0.out.below hb0)
  have HRW := Lib.hid (HR0.out.below hb0)
  have HYW := Lib.hid (HY0.out.below hb0)
  have HBW := Lib.hid (below_ext HBw.out hb0)
  have hgw : w.heap.size + 1 < g := by have h1 : w.heap.size + 1 < w0.heap.size := World.block_lt_of_cell? _ _ HR0.out.1; omega
  have hyg : b1 < g := by
    obtain ⟨bb, oo, e1, e2⟩ := HY0.out 0 (by rw [hyn.out]; exact hnp)
    cases e1
    have h1 : b1 < w0.heap.size := World.block_lt_of_cell? _ _ e2
    omega
  have HRF : Hid (RowF W g n (fun j => if j < 0 then simF P Q c ys rows zs j else prodF P 1 (rows.getD j noRow).xs zs)) := Lib.hid ⟨fun j hj => by
    have h1 := hrf.1 j hj
    dsimp only at h1
    rw [map_getD (by rw [hbn.out]; exact hj)] at h1
    dsimp only
    rw [if_neg (by omega)]
    exact h1, hrf.2⟩
  have HG_ := Lib.hid (Nat.le_trans HBw.out.size hg)
  clear ho hb0 hrf hvl hg c0 c1 c2 d0 d1
  obtain ⟨d0, d1⟩ := HRW.out
  go_wp2
  go_loopw [22] (fun i wr => ∃ k : Nat, k ≤ n ∧ i = .int .i64 k ∧ Hid (RowF wr g n (fun j => if j < k then simF P Q c ys rows zs j else prodF P 1 (rows.getD j noRow).xs zs)) ∧ Hid (Below g W wr)) (fun i _ => n - (intOf i).toNat)
  case atStart => exact ⟨0, by omega, rfl, HRF, Lib.hid (Below.refl _ _)⟩
  case round =>
    obtain ⟨k, hk, rfl, HRr, HBr⟩ := hrel
    by_cases hlt : k < n
    · have hkl : k < ys.length := by rw [hyn.out]; exact hlt
      have hkr : k < rows.length := by rw [hbn.out]; exact hlt
      obtain ⟨bb, oo, e1, hi0⟩ := HYW.out k hkl
      cases e1
      have hi1 := (HBr.out.cell (p := ⟨b1, o1 + k, none⟩) hyg).trans hi0
      have c0 := (HBr.out.cell (p := ⟨w.heap.size, 0, none⟩) (by show w.heap.size < g; omega)).trans HXW.out.1
      have c1 := (HBr.out.cell (p := ⟨w.heap.size, 1, none⟩) (by show w.heap.size < g; omega)).trans HXW.out.2.1
      have hcell : wr.cell? ⟨g, k, none⟩ = some (.int .i64 (prodF P 1 (rows.getD k noRow).xs zs)) := by
        have h3 := HRr.out.1 k hlt
        simp only [Nat.lt_irrefl, if_false] at h3
        exact h3
      have hfz := HRr.out.2 k
      have hmy := all_get HYM.out hkl
      obtain ⟨q0, q1⟩ := prodF_in hp2 (rows.getD k noRow).xs zs 1 (by omega) (by omega)
      have hsf : simF P Q c ys rows zs k = prodF P 1 (rows.getD k noRow).xs zs * pw (ys.getD k 0) ((Q - c) % Q) P % P := rfl
      obtain ⟨a, ha⟩ : ∃ a, prodF P 1 (rows.getD k noRow).xs zs = a := ⟨_, rfl⟩
      obtain ⟨y, hy⟩ : ∃ x, ys.getD k 0 = x := ⟨_, rfl⟩
      rw [ha] at hcell q0 q1 hsf
      rw [hy] at hi1 hmy hsf
      have y0 := memG_lo hmy
      have y1 := memG_hi hmy
      obtain ⟨ex, hex⟩ : ∃ e, (Q - c) % Q = e := ⟨_, rfl⟩
      have ex0 : 0 ≤ ex := by rw [← hex]; exact Int.emod_nonneg _ (by omega)
      have ex1 : ex < Q := by rw [← hex]; exact Int.emod_lt_of_pos _ (by omega)
      rw [hex] at hsf
      obtain ⟨p, hpw⟩ : ∃ p, pw y ex P = p := ⟨_, rfl⟩
      obtain ⟨p0, p1⟩ : 0 ≤ p ∧ p < P := by rw [← hpw]; exact pw_lt _ _ _ (by omega)
      rw [hpw] at hsf
      obtain ⟨t, ht⟩ : ∃ t, a * p % P = t := ⟨_, rfl⟩
      rw [ht] at hsf
      have HN : ∀ q, Hid (RowF ((wr.drewN q).setCell ⟨g, k, none⟩ (.int .i64 t)) g n (fun j => if j < k + 1 then simF P Q c ys rows zs j else prodF P 1 (rows.getD j noRow).xs zs)) := fun q => by
        have h3 := rowF_set (RowF.below HRr.out hnp (below_drawN (Below.refl _ _) q)) hlt t
        have e : (fun j => if j = k then t else if j < k then simF P Q c ys rows zs j else prodF P 1 (rows.getD j noRow).xs zs) = (fun j => if j < k + 1 then simF P Q c ys rows zs j else prodF P 1 (rows.getD j noRow).xs zs) := by
          funext j
          by_cases hj : j = k
          · subst hj; rw [if_pos rfl, if_pos (by omega), hsf]
          · rw [if_neg hj]
            by_cases hj2 : j < k
            · rw [if_pos hj2, if_pos (by omega)]
            · rw [if_neg hj2, if_neg (by omega)]
        rw [e] at h3
        exact Lib.hid h3
      have HNH := Lib.hid HN
      have HB2 := Lib.hid (show ∀ q, Hid (Below g W ((wr.drewN q).setCell ⟨g, k, none⟩ (.int .i64 t))) from fun q => Lib.hid ((below_drawN HBr.out q).setCell (Nat.le_refl _) _))
      have hdf : IntKind.i64.wrap (Q - c) = Q - c := IntWalk.i64_in _ (by omega)
      have htm : (Q - c).tmod Q = ex := by rw [Int.tmod_eq_emod_of_nonneg (by omega), hex]
      have hwx : IntKind.i64.wrap ex = ex := IntWalk.i64_in _ (by omega)
      have hQn : ¬ (Q = 0) := by omega
      have HP1 := Lib.hid hpw
      have HAC := Lib.hid ht
      have HSF := Lib.hid hsf
      clear hkl hkr hi0 hmy hsf ha hy hex hpw ht HN
      go_wp2
      go_quiet ((go_at_call 122; exact Calls.quiet_of (pow_eq y ex P p HP1 (by omega) hp (by omega) y1 ex0 (by omega) _)))
      go_wp2_with fail
      go_region_with ((go_at_call 52; refine (wmul_eq a p P t HAC hp q0 q1 p0 p1 _).mono ?_; rintro e w' ⟨rfl, n3, rfl⟩))
      all_goals
        go_wp2
        go_roundw
        case rel => exact ⟨k + 1, by omega, by go_num, HNH.out _, HB2.out _⟩
        case measure => simp [intOf]; omega
    · obtain rfl : k = n := by omega
      have HF : Hid (Cells wr g (simR P Q c ys rows zs)) := Lib.hid (fun j hj => by
        rw [simR_length, hbn.out] at hj
        rw [simR_get (by rw [hbn.out]; exact hj), HRr.out.1 j hj]
        dsimp only
        rw [if_pos hj])
      have hbF : Below w.heap.size w wr := HBW.out.trans (HBr.out.mono HG_.out)
      clear HRr hlt
      go_wp2
      go_ret
      exact ⟨g, cap, rfl, HF, hbF⟩
end Go.Proofs.YtjnoaejikapmdaaGreatDoor
namespace Go.Proofs.YtjnoaejikapmdaaGreatDoor
open Go.RowKit SpM
set_option linter.unusedVariables false
set_option linter.unusedSimpArgs false
set_option maxRecDepth 100000
abbrev prvL (pa : Option Addr) (na ca : Nat) (C : Int) (pz : Option Addr) (nz cz : Nat) : Value := .agg #[.slice pa na ca, .int .i64 C, .slice pz nz cz]
abbrev prObjL (pa : Option Addr) (na ca : Nat) (C : Int) (pz : Option Addr) (nz cz : Nat) : Obj := .cells #[.slice pa na ca, .int .i64 C, .slice pz nz cz] 50
def PrBox (w : World) (a : Nat) (x y z : Value) : Prop := w.cell? ⟨a, 0, none⟩ = some x ∧ w.cell? ⟨a, 1, none⟩ = some y ∧ w.cell? ⟨a, 2, none⟩ = some z
theorem PrBox.below {w w' : World} {a : Nat} {x y z : Value} (h : PrBox w a x y z) (hb : Below w.heap.size w w') : PrBox w' a x y z :=
  ⟨cell_below h.1 hb, cell_below h.2.1 hb, cell_below h.2.2 hb⟩
theorem prBox_alloc0 (w : World) (T : TypeId) (x y z : Value) : PrBox (w.alloc (.cells #[x, y, z] T)) w.heap.size x y z := ⟨World.cell?_alloc_at _ _ _ _ rfl, World.cell?_alloc_at _ _ _ _ rfl, World.cell?_alloc_at _ _ _ _ rfl⟩
theorem boxes3 (w : World) (o1 o2 : Obj) (T : TypeId) (x y z : Value) : PrBox (((w.alloc o1).alloc o2).alloc (.cells #[x, y, z] T)) (w.heap.size + 2) x y z := by
  have e : ((w.alloc o1).alloc o2).heap.size = w.heap.size + 2 := by simp
  rw [← e]
  exact prBox_alloc0 _ _ _ _ _
theorem boxes3_below {w : World} {o1 o2 o3 : Obj} : Below w.heap.size w (((w.alloc o1).alloc o2).alloc o3) :=
  (((Below.refl _ _).alloc (Nat.le_refl _) _).alloc (by simp) _).alloc (by simp; omega) _
set_option maxHeartbeats 12800000 in
theorem lcheckp_ok (P Q G : Int) (Y : Option Addr) (ys : List Int) (n yc : Nat) (B : Option Addr) (rows : List Row) (bc : Nat) (A : Option Addr) (al : List Int) (ca : Nat) (C : Int) (Z : Option Addr) (zs : List Int) (nz cz : Nat)
    (HVL : Hid (validR P Q G ys rows = true)) (hyn : Hid (ys.length = n)) (hbn : Hid (rows.length = n)) (han : Hid (al.length = n)) (hzn : Hid (zs.length = nz)) (hlen : zs.length = rowN rows) (Hl : Hid (zs.all (scB Q) = true)) (hc0 : 0 ≤ C) (hc1 : C < Q) (r : Bool) (hr : Hid ((simR P Q C ys rows zs == al) = r))
    (hQ : Q < 9223372036854775808) (w : World) (hv : Hid (Vars w)) (hY : Hid (Sl w Y ys)) (hB : Hid (Rw w B rows)) (hA : Hid (Sl w A al)) (hZ : Hid (Sl w Z zs)) :
    Calls Tryz.prog 208 #[gv P Q G, relV Y n yc B n bc, prvL A n ca C Z nz cz] w fun e' w' => e' = .returned (.bool r) ∧ Below w.heap.size w w' := by
  obtain ⟨v1, v2, v3, v4, v5, v6, v7, v8⟩ := validR_parts HVL.out
  have hnp : 0 < n := by rw [← hyn.out]; omega
  have hn8 : n ≤ 8 := by rw [← hyn.out]; omega
  have hz12 : nz ≤ 12 := by rw [← hzn.out]; omega
  have HN : Hid (rowN rows = nz) := Lib.hid (hlen.symm.trans hzn.out)
  have hnn : ((n : Int) != (n : Int)) = false := by simp
  have hzz : ((nz : Int) != (nz : Int)) = false := by simp
  have HSC := Lib.hid (scB_one hc0 hc1)
  have hsl : (simR P Q C ys rows zs).length = n := by rw [simR_length]; exact hbn.out
  clear v1 v2 v3 v4 v5 v6 v7 v8
  obtain ⟨W, hW⟩ : ∃ W, ((w.alloc (gObj P Q G)).alloc (relO Y n yc B n bc)).alloc (prObjL A n ca C Z nz cz) = W := ⟨_, rfl⟩
  have HBw : Hid (Below w.heap.size w W) := Lib.hid (by rw [← hW]; exact boxes3_below)
  have HX0 : Hid (GBox W w.heap.size P Q G) := Lib.hid (by rw [← hW]; exact ((gbox_alloc w P Q G).below (below_box0 _ _)).below (below_box0 _ _))
  have HR0 : Hid (RBox W (w.heap.size + 1) (.slice Y n yc) (.slice B n bc)) := Lib.hid (by rw [← hW]; exact (rbox_alloc1 _ _ _ _ _).below (below_box0 _ _))
  have HP0 : Hid (PrBox W (w.heap.size + 2) (.slice A n ca) (.int .i64 C) (.slice Z nz cz)) := Lib.hid (by rw [← hW]; exact boxes3 w _ _ _ _ _ _)
  have hOV := Lib.hid (show ∀ u1 : World, Hid (Below W.heap.size W u1) → Hid (Vars u1) from fun u1 h1 => Lib.hid (hv.out.below (below_ext HBw.out h1.out)))
  have hOY := Lib.hid (show ∀ u1 : World, Hid (Below W.heap.size W u1) → Hid (Sl u1 Y ys) from fun u1 h1 => Lib.hid (hY.out.below (below_ext HBw.out h1.out)))
  have hOB := Lib.hid (show ∀ u1 : World, Hid (Below W.heap.size W u1) → Hid (Rw u1 B rows) from fun u1 h1 => Lib.hid (hB.out.below (below_ext HBw.out h1.out)))
  have hOA := Lib.hid (show ∀ u1 : World, Hid (Below W.heap.size W u1) → Hid (Sl u1 A al) from fun u1 h1 => Lib.hid (hA.out.below (below_ext HBw.out h1.out)))
  have hOZ := Lib.hid (show ∀ u1 : World, Hid (Below W.heap.size W u1) → Hid (Sl u1 Z zs) from fun u1 h1 => Lib.hid (hZ.out.below (below_ext HBw.out h1.out)))
  have hS := Lib.hid (show ∀ u1 u2 : World, Hid (Below W.heap.size W u1) → Below u1.heap.size u1 u2 → (u2.cell? ⟨w.heap.size, 0, none⟩ = some (.int .i64 P) ∧ u2.cell? ⟨w.heap.size, 1, none⟩ = some (.int .i64 Q) ∧ u2.cell? ⟨w.heap.size, 2, none⟩ = some (.int .i64 G) ∧ u2.cell? ⟨w.heap.size + 1, 0, none⟩ = some (.slice Y n yc) ∧ u2.cell? ⟨w.heap.size + 1, 1, none⟩ = some (.slice B n bc) ∧ u2.cell? ⟨w.heap.size + 2, 0, none⟩ = some (.slice A n ca) ∧ u2.cell? ⟨w.heap.size + 2, 1, none⟩ = some (.int .i64 C) ∧ u2.cell? ⟨w.heap.size + 2, 2, none⟩ = some (.slice Z nz cz) ∧ Hid (Below W.heap.size W u2)) from fun u1 u2 h1 h2 => have h3 := below_ext h1.out h2; ⟨(HX0.out.below h3).1, (HX0.out.below h3).2.1, (HX0.out.below h3).2.2, (HR0.out.below h3).1, (HR0.out.below h3).2, (HP0.out.below h3).1, (HP0.out.below h3).2.1, (HP0.out.below h3).2.2, Lib.hid h3⟩)
  have hR : Hid (Below W.heap.size W W) := Lib.hid (Below.refl _ _)
  have HW := Lib.hid hW
  clear hW hv hY hB hA hZ
  go_enter Tryz.func208, Tryz.ntmps208
  go_wp2_with fail
  rw [HW.out]
  go_region_held3 (fun w' => w'.cell? ⟨w.heap.size, 0, none⟩ = some (.int .i64 P) ∧ w'.cell? ⟨w.heap.size, 1, none⟩ = some (.int .i64 Q) ∧ w'.cell? ⟨w.heap.size, 2, none⟩ = some (.int .i64 G) ∧ w'.cell? ⟨w.heap.size + 1, 0, none⟩ = some (.slice Y n yc) ∧ w'.cell? ⟨w.heap.size + 1, 1, none⟩ = some (.slice B n bc) ∧ w'.cell? ⟨w.heap.size + 2, 0, none⟩ = some (.slice A n ca) ∧ w'.cell? ⟨w.heap.size + 2, 1, none⟩ = some (.int .i64 C) ∧ w'.cell? ⟨w.heap.size + 2, 2, none⟩ = some (.slice Z nz cz) ∧ Hid (Below W.heap.size W w'))
    (first | exact hS.out _ _ hR ((Below.refl W.heap.size W).drew) | (go_split_ands; exact hS.out _ _ (by assumption) hbA) | (go_split_ands; exact hS.out _ _ (by assumption) (below_box0 _ _)) | go_keep)
    ((first
      | (go_at_call 267; (with_reducible refine (lvalid_any P Q G Y ys n yc B rows n bc true HVL hyn hbn hQ _ ?_ ?_ ?_).mono ?_); (go_split_ands; exact hOV.out _ (by assumption)); (go_split_ands; exact hOY.out _ (by assumption)); (go_split_ands; exact hOB.out _ (by assumption)); rintro e wA ⟨rfl, hbA⟩)
      | (go_at_call 249; (with_reducible refine (lunknowns_any Y n yc B rows n bc nz hbn hnp HN _ ?_).mono ?_); (go_split_ands; exact hOB.out _ (by assumption)); rintro e wA ⟨rfl, hbA⟩)
      | (go_at_call 268; (with_reducible refine (scalars_any P Q G Z zs nz cz true Hl hzn (Lib.hid (by omega)) _ ?_).mono ?_); (go_split_ands; exact hOZ.out _ (by assumption)); rintro e wA ⟨rfl, hbA⟩)
      | (go_at_call 268; (with_reducible refine (scalars_any P Q G (some ⟨wA.heap.size, 0, none⟩) [C] 1 1 true HSC (Lib.hid rfl) (Lib.hid (by omega)) _ ?_).mono ?_); exact Lib.hid (sl_of_cells (cells1 wA _ C)); rintro e wA ⟨rfl, hbA⟩)))
  rename_i hHeld
  obtain ⟨x0, x1, x2, x3, x4, x5, x6, x7, HBA⟩ := hHeld
  clear x0 x1 x2 x3 x4 x5 x6 x7
  obtain ⟨W2, hW2⟩ : ∃ x, x = wA := ⟨_, rfl⟩
  go_wp2
  go_region_held3 (fun w' => w'.cell? ⟨w.heap.size, 0, none⟩ = some (.int .i64 P) ∧ w'.cell? ⟨w.heap.size, 1, none⟩ = some (.int .i64 Q) ∧ w'.cell? ⟨w.heap.size, 2, none⟩ = some (.int .i64 G) ∧ w'.cell? ⟨w.heap.size + 1, 0, none⟩ = some (.slice Y n yc) ∧ w'.cell? ⟨w.heap.size + 1, 1, none⟩ = some (.slice B n bc) ∧ w'.cell? ⟨w.heap.size + 2, 0, none⟩ = some (.slice A n ca) ∧ w'.cell? ⟨w.heap.size + 2, 1, none⟩ = some (.int .i64 C) ∧ w'.cell? ⟨w.heap.size + 2, 2, none⟩ = some (.slice Z nz cz) ∧ Hid (Below W.heap.size W w'))
    (first | exact hS.out _ _ HBA ((Below.refl _ _).drew) | (go_split_ands; exact hS.out _ _ (by assumption) hbA) | go_keep)
    ((first
      | (go_at_call 269; (with_reducible refine (lsim_ok P Q G Y ys yc B rows n bc C Z zs nz cz HVL hyn hbn hzn hlen Hl hc0 hc1 hQ _ ?_ ?_ ?_).mono ?_); (go_split_ands; exact hOY.out _ (by assumption)); (go_split_ands; exact hOB.out _ (by assumption)); (go_split_ands; exact hOZ.out _ (by assumption)); rintro e wA ⟨g, cap, rfl, hcA, hbA⟩)
      | (go_at_call 108; (with_reducible refine (eq_any g n cap (simR P Q C ys rows zs) A al n ca hsl han hnp (by omega) (by omega) _ hcA ?_).mono ?_); (go_split_ands; exact hOA.out _ (by assumption)); rintro e wA ⟨rfl, hbA⟩)))
  rename_i hHeld
  obtain ⟨x0, x1, x2, x3, x4, x5, x6, x7, HBF⟩ := hHeld
  have hbF := below_ext HBw.out HBF.out
  clear x0 x1 x2 x3 x4 x5 x6 x7
  go_wp2
  go_ret
  exact ⟨by first | (rw [hr.out]; done) | (rw [hr.out]; rfl) | (rw [hr.out]; simp) | (simp [hr.out]; done), hbF⟩
def ex17R (s : Nat) : List Row := [⟨some ⟨s + 1 + 1, 0, none⟩, 1, 1, [2]⟩, ⟨some ⟨s + 1 + 1 + 1, 0, none⟩, 1, 1, [4]⟩]
def Ex17 (w : World) (s : Nat) : Prop := GBox w s 23 11 4 ∧ Sl w (some ⟨s + 1, 0, none⟩) [8, 18] ∧ Rw w (some ⟨s + 1 + 1 + 1 + 1, 0, none⟩) (ex17R s) ∧ RBox w (s + 1 + 1 + 1 + 1 + 1) (.slice (some ⟨s + 1, 0, none⟩) 2 2) (.slice (some ⟨s + 1 + 1 + 1 + 1, 0, none⟩) 2 2)
theorem Ex17.below {w w' : World} {s : Nat} (h : Ex17 w s) (hb : Below w.heap.size w w') : Ex17 w' s := ⟨h.1.below hb, h.2.1.below hb, h.2.2.1.below hb, h.2.2.2.below hb⟩
set_option maxRecDepth 100000 in
theorem stz4 (P : Int) (Q : Int) (G : Int) (Y : Option Addr) (n : Nat) (yc : Nat) (B : Option Addr) (bc : Nat) (A : Option Addr) (na : Nat) (ca : Nat) (C : Int) (Z : Option Addr) (nz : Nat) (cz : Nat) (w : World) : ∃ w0, Hid ((((w.alloc (gObj P Q G)).alloc (relO Y n yc B n bc)).alloc (prObjL A na ca C Z nz cz)) = w0) ∧ Hid (Below w.heap.size w w0) ∧ Hid (∀ u : World, Hid (Below w0.heap.size w0 u) → u.cell? ⟨w.heap.size, 0, none⟩ = some (.int .i64 P) ∧ u.cell? ⟨w.heap.size, 1, none⟩ = some (.int .i64 Q) ∧ u.cell? ⟨w.heap.size, 2, none⟩ = some (.int .i64 G) ∧ u.cell? ⟨w.heap.size + 1, 0, none⟩ = some (.slice Y n yc) ∧ u.cell? ⟨w.heap.size + 1, 1, none⟩ = some (.slice B n bc) ∧ u.cell? ⟨w.heap.size + 2, 0, none⟩ = some (.slice A na ca) ∧ u.cell? ⟨w.heap.size + 2, 1, none⟩ = some (.int .i64 C) ∧ u.cell? ⟨w.heap.size + 2, 2, none⟩ = some (.slice Z nz cz)) := by
  obtain ⟨w0, hW⟩ : ∃ W, (((w.alloc (gObj P Q G)).alloc (relO Y n yc B n bc)).alloc (prObjL A na ca C Z nz cz)) = W := ⟨_, rfl⟩
  have HBw : Hid (Below w.heap.size w w0) := Lib.hid (by rw [← hW]; exact (((Below.refl _ _).alloc (Nat.le_refl _) _).alloc (by simp) _).alloc (by simp; omega) _)
  have hc : w0.cell? ⟨w.heap.size, 0, none⟩ = some (.int .i64 P) ∧ w0.cell? ⟨w.heap.size, 1, none⟩ = some (.int .i64 Q) ∧ w0.cell? ⟨w.heap.size, 2, none⟩ = some (.int .i64 G) ∧ w0.cell? ⟨w.heap.size + 1, 0, none⟩ = some (.slice Y n yc) ∧ w0.cell? ⟨w.heap.size + 1, 1, none⟩ = some (.slice B n bc) ∧ w0.cell? ⟨w.heap.size + 2, 0, none⟩ = some (.slice A na ca) ∧ w0.cell? ⟨w.heap.size + 2, 1, none⟩ = some (.int .i64 C) ∧ w0.cell? ⟨w.heap.size + 2, 2, none⟩ = some (.slice Z nz cz) := by rw [← hW]; exact ⟨cell_below (cell_below (allocs_cell (by simp) (by rfl)) (below_box0 _ _)) (below_box0 _ _), cell_below (cell_below (allocs_cell (by simp) (by rfl)) (below_box0 _ _)) (below_box0 _ _), cell_below (cell_below (allocs_cell (by simp) (by rfl)) (below_box0 _ _)) (below_box0 _ _), cell_below (allocs_cell (by simp) (by rfl)) (below_box0 _ _), cell_below (allocs_cell (by simp) (by rfl)) (below_box0 _ _), allocs_cell (by simp) (by rfl), allocs_cell (by simp) (by rfl), allocs_cell (by simp) (by rfl)⟩
  have kC := Lib.hid (show ∀ u : World, Hid (Below w0.heap.size w0 u) → u.cell? ⟨w.heap.size, 0, none⟩ = some (.int .i64 P) ∧ u.cell? ⟨w.heap.size, 1, none⟩ = some (.int .i64 Q) ∧ u.cell? ⟨w.heap.size, 2, none⟩ = some (.int .i64 G) ∧ u.cell? ⟨w.heap.size + 1, 0, none⟩ = some (.slice Y n yc) ∧ u.cell? ⟨w.heap.size + 1, 1, none⟩ = some (.slice B n bc) ∧ u.cell? ⟨w.heap.size + 2, 0, none⟩ = some (.slice A na ca) ∧ u.cell? ⟨w.heap.size + 2, 1, none⟩ = some (.int .i64 C) ∧ u.cell? ⟨w.heap.size + 2, 2, none⟩ = some (.slice Z nz cz) from fun u h => ⟨cell_below hc.1 h.out, cell_below hc.2.1 h.out, cell_below hc.2.2.1 h.out, cell_below hc.2.2.2.1 h.out, cell_below hc.2.2.2.2.1 h.out, cell_below hc.2.2.2.2.2.1 h.out, cell_below hc.2.2.2.2.2.2.1 h.out, cell_below hc.2.2.2.2.2.2.2 h.out⟩)
  exact ⟨w0, Lib.hid hW, HBw, kC⟩
set_option maxHeartbeats 12800000 in
theorem lcheckp_a (P Q G : Int) (Y : Option Addr) (ys : List Int) (n yc : Nat) (B : Option Addr) (rows : List Row) (bc : Nat) (A : Option Addr) (al : List Int) (na ca : Nat) (C : Int) (Z : Option Addr) (zs : List Int) (nz cz : Nat) (HVL : Hid (validR P Q G ys rows = true)) (hyn : Hid (ys.length = n)) (hbn : Hid (rows.length = n)) (han : Hid (al.length = na)) (hzn : Hid (zs.length = nz)) (hna : na < 1000000) (hnz : nz < 1000000) (hQ : Q < 9223372036854775808) (hne : na ≠ n) (w : World) (hv : Hid (Vars w)) (hY : Hid (Sl w Y ys)) (hB : Hid (Rw w B rows)) (hA : Hid (Sl w A al)) (hZ : Hid (Sl w Z zs)) :
    Calls Tryz.prog 208 #[gv P Q G, relV Y n yc B n bc, prvL A na ca C Z nz cz] w fun e' w' => e' = .returned (.bool false) ∧ Below w.heap.size w w' := by
  obtain ⟨v1, v2, v3, v4, v5, v6, v7, v8⟩ := validR_parts HVL.out
  have hnp : 0 < n := by rw [← hyn.out]; omega
  obtain ⟨nu, hnu⟩ : ∃ k, rowN rows = k := ⟨_, rfl⟩
  have HN := Lib.hid hnu
  clear v1 v2 v3 v4 v5 v6 v7 v8 hnu
  have e1 : ((na : Int) != (n : Int)) = true := by simp; omega
  obtain ⟨w0, HW, HBw, kC⟩ := stz4 P Q G Y n yc B bc A na ca C Z nz cz w
  have kV := Lib.hid (show ∀ u : World, Hid (Below w0.heap.size w0 u) → Hid (Vars u) from fun u h => Lib.hid ((hv.out.below) (below_ext HBw.out h.out)))
  have kY := Lib.hid (show ∀ u : World, Hid (Below w0.heap.size w0 u) → Hid (Sl u Y ys) from fun u h => Lib.hid ((hY.out.below) (below_ext HBw.out h.out)))
  have kB := Lib.hid (show ∀ u : World, Hid (Below w0.heap.size w0 u) → Hid (Rw u B rows) from fun u h => Lib.hid ((hB.out.below) (below_ext HBw.out h.out)))
  have kA := Lib.hid (show ∀ u : World, Hid (Below w0.heap.size w0 u) → Hid (Sl u A al) from fun u h => Lib.hid ((hA.out.below) (below_ext HBw.out h.out)))
  have kZ := Lib.hid (show ∀ u : World, Hid (Below w0.heap.size w0 u) → Hid (Sl u Z zs) from fun u h => Lib.hid ((hZ.out.below) (below_ext HBw.out h.out)))
  have HB_0 : Hid (Below w0.heap.size w0 w0) := Lib.hid (Below.refl _ _)
  clear hv hY hB hA hZ
  go_enter Tryz.func208, Tryz.ntmps208
  go_wp2_with fail
  rw [HW.out]
  obtain ⟨zc0, zc1, zc2, zc3, zc4, zc5, zc6, zc7⟩ := kC.out _ HB_0
  clear zc0 zc1 zc2 zc3 zc4 zc5 zc6 zc7
  have hS := Lib.hid (show ∀ u1 u2 : World, Hid (Below w0.heap.size w0 u1) → Below u1.heap.size u1 u2 → (u2.cell? ⟨w.heap.size, 0, none⟩ = some (.int .i64 P) ∧ u2.cell? ⟨w.heap.size, 1, none⟩ = some (.int .i64 Q) ∧ u2.cell? ⟨w.heap.size, 2, none⟩ = some (.int .i64 G) ∧ u2.cell? ⟨w.heap.size + 1, 0, none⟩ = some (.slice Y n yc) ∧ u2.cell? ⟨w.heap.size + 1, 1, none⟩ = some (.slice B n bc) ∧ u2.cell? ⟨w.heap.size + 2, 0, none⟩ = some (.slice A na ca) ∧ u2.cell? ⟨w.heap.size + 2, 1, none⟩ = some (.int .i64 C) ∧ u2.cell? ⟨w.heap.size + 2, 2, none⟩ = some (.slice Z nz cz) ∧ Hid (Below w0.heap.size w0 u2)) from fun u1 u2 h1 h2 => by
    have h3 := Lib.hid (below_ext h1.out h2)
    obtain ⟨y0, y1, y2, y3, y4, y5, y6, y7⟩ := kC.out _ h3
    exact ⟨y0, y1, y2, y3, y4, y5, y6, y7, h3⟩)
  refine wp_region_T (S := fun w' => w'.cell? ⟨w.heap.size, 0, none⟩ = some (.int .i64 P) ∧ w'.cell? ⟨w.heap.size, 1, none⟩ = some (.int .i64 Q) ∧ w'.cell? ⟨w.heap.size, 2, none⟩ = some (.int .i64 G) ∧ w'.cell? ⟨w.heap.size + 1, 0, none⟩ = some (.slice Y n yc) ∧ w'.cell? ⟨w.heap.size + 1, 1, none⟩ = some (.slice B n bc) ∧ w'.cell? ⟨w.heap.size + 2, 0, none⟩ = some (.slice A na ca) ∧ w'.cell? ⟨w.heap.size + 2, 1, none⟩ = some (.int .i64 C) ∧ w'.cell? ⟨w.heap.size + 2, 2, none⟩ = some (.slice Z nz cz) ∧ Hid (Below w0.heap.size w0 w')) (E := []) (by kernel_rfl) (hS.out _ _ HB_0 ((Below.refl _ _).drew)) (fun hHeld => ?_)
  refine tkV 0 ?_
  try simp only [qq1, qq2, qq3, Act.put, qq4, qq5, qq6]
  refine tkV 1 ?_
  try simp only [qq1, qq2, qq3, Act.put, qq4, qq5, qq6]
  refine wpT_one (i := 2) (by kernel_rfl) rfl (fun K hK => ?_)
  go_simp
  (with_reducible refine (lvalid_any P Q G Y ys n yc B rows n bc true HVL hyn hbn hQ _ ?_ ?_ ?_).mono ?_); (go_split_ands; exact kV.out _ (by assumption)); (go_split_ands; exact kY.out _ (by assumption)); (go_split_ands; exact kB.out _ (by assumption)); rintro e wA ⟨rfl, hbA⟩
  refine hK.out _ _ ?_ (fun hHeld => ?_)
  · (go_split_ands; exact hS.out _ _ (by assumption) hbA)
  clear hK K
  try simp only [qq1, qq2, qq3, Act.put, qq4, qq5, qq6]
  refine tkV 3 ?_
  try simp only [qq1, qq2, qq3, Act.put, qq4, qq5, qq6]
  refine tkV 4 ?_
  try simp only [qq1, qq2, qq3, Act.put, qq4, qq5, qq6]
  refine tkV 5 ?_
  try simp only [qq1, qq2, qq3, Act.put, qq4, qq5, qq6]
  refine tkV 6 ?_
  try simp only [qq1, qq2, qq3, Act.put, qq4, qq5, qq6]
  refine tkV 7 ?_
  try simp only [qq1, qq2, qq3, Act.put, qq4, qq5, qq6]
  refine tkV 8 ?_
  try simp only [qq1, qq2, qq3, Act.put, qq4, qq5, qq6]
  refine tkV 9 ?_
  try simp only [qq1, qq2, qq3, Act.put, qq4, qq5, qq6]
  refine tkV 10 ?_
  try simp only [qq1, qq2, qq3, Act.put, qq4, qq5, qq6]
  refine tkV 11 ?_
  try simp only [qq1, qq2, qq3, Act.put, qq4, qq5, qq6]
  refine tkV 12 ?_
  try simp only [qq1, qq2, qq3, Act.put, qq4, qq5, qq6]
  refine tkV 13 ?_
  try simp only [qq1, qq2, qq3, Act.put, qq4, qq5, qq6]
  refine tkU 14 ?_
  try simp only [qq1, qq2, qq3, Act.put, qq4, qq5, qq6]
  refine tkU 15 ?_
  try simp only [qq1, qq2, qq3, Act.put, qq4, qq5, qq6]
  refine tkU 16 ?_
  try simp only [qq1, qq2, qq3, Act.put, qq4, qq5, qq6]
  refine tkU 17 ?_
  try simp only [qq1, qq2, qq3, Act.put, qq4, qq5, qq6]
  refine tkU 18 ?_
  try simp only [qq1, qq2, qq3, Act.put, qq4, qq5, qq6]
  refine tkU 19 ?_
  try simp only [qq1, qq2, qq3, Act.put, qq4, qq5, qq6]
  refine tkV 20 ?_
  try simp only [qq1, qq2, qq3, Act.put, qq4, qq5, qq6]
  refine tkV 21 ?_
  try simp only [qq1, qq2, qq3, Act.put, qq4, qq5, qq6]
  refine tkU 22 ?_
  try simp only [qq1, qq2, qq3, Act.put, qq4, qq5, qq6]
  refine tkU 23 ?_
  try simp only [qq1, qq2, qq3, Act.put, qq4, qq5, qq6]
  refine tkU 24 ?_
  try simp only [qq1, qq2, qq3, Act.put, qq4, qq5, qq6]
  refine tkU 25 ?_
  try simp only [qq1, qq2, qq3, Act.put, qq4, qq5, qq6]
  refine tkU 26 ?_
  try simp only [qq1, qq2, qq3, Act.put, qq4, qq5, qq6]
  refine tkU 27 ?_
  try simp only [qq1, qq2, qq3, Act.put, qq4, qq5, qq6]
  refine tkV 28 ?_
  try simp only [qq1, qq2, qq3, Act.put, qq4, qq5, qq6]
  refine tkV 29 ?_
  try simp only [qq1, qq2, qq3, Act.put, qq4, qq5, qq6]
  refine tkU 30 ?_
  try simp only [qq1, qq2, qq3, Act.put, qq4, qq5, qq6]
  refine tkU 31 ?_
  try simp only [qq1, qq2, qq3, Act.put, qq4, qq5, qq6]
  refine tkU 32 ?_
  try simp only [qq1, qq2, qq3, Act.put, qq4, qq5, qq6]
  refine tkU 33 ?_
  try simp only [qq1, qq2, qq3, Act.put, qq4, qq5, qq6]
  refine tkU 34 ?_
  try simp only [qq1, qq2, qq3, Act.put, qq4, qq5, qq6]
  refine tkV 35 ?_
  try simp only [qq1, qq2, qq3, Act.put, qq4, qq5, qq6]
  refine wpT_done (by kernel_rfl) ?_ _
  obtain ⟨x0, x1, x2, x3, x4, x5, x6, x7, HBF⟩ := hHeld
  have hbF := below_ext HBw.out HBF.out
  clear x0 x1 x2 x3 x4 x5 x6 x7
  go_wp2
  go_ret
  exact ⟨rfl, hbF⟩
set_option maxHeartbeats 12800000 in
theorem lcheckp_b (P Q G : Int) (Y : Option Addr) (ys : List Int) (n yc : Nat) (B : Option Addr) (rows : List Row) (bc : Nat) (A : Option Addr) (al : List Int) (na ca : Nat) (C : Int) (Z : Option Addr) (zs : List Int) (nz cz : Nat) (HVL : Hid (validR P Q G ys rows = true)) (hyn : Hid (ys.length = n)) (hbn : Hid (rows.length = n)) (han : Hid (al.length = na)) (hzn : Hid (zs.length = nz)) (hna : na < 1000000) (hnz : nz < 1000000) (hQ : Q < 9223372036854775808) (heq : na = n) (hne : nz ≠ rowN rows) (w : World) (hv : Hid (Vars w)) (hY : Hid (Sl w Y ys)) (hB : Hid (Rw w B rows)) (hA : Hid (Sl w A al)) (hZ : Hid (Sl w Z zs)) :
    Calls Tryz.prog 208 #[gv P Q G, relV Y n yc B n bc, prvL A na ca C Z nz cz] w fun e' w' => e' = .returned (.bool false) ∧ Below w.heap.size w w' := by
  obtain ⟨v1, v2, v3, v4, v5, v6, v7, v8⟩ := validR_parts HVL.out
  have hnp : 0 < n := by rw [← hyn.out]; omega
  obtain ⟨nu, hnu⟩ : ∃ k, rowN rows = k := ⟨_, rfl⟩
  have HN := Lib.hid hnu
  clear v1 v2 v3 v4 v5 v6 v7 v8 hnu
  have e1 : ((na : Int) != (n : Int)) = false := by simp; omega
  have e2 : ((nz : Int) != (nu : Int)) = true := by have := HN.out; simp; omega
  clear heq hne
  obtain ⟨w0, HW, HBw, kC⟩ := stz4 P Q G Y n yc B bc A na ca C Z nz cz w
  have kV := Lib.hid (show ∀ u : World, Hid (Below w0.heap.size w0 u) → Hid (Vars u) from fun u h => Lib.hid ((hv.out.below) (below_ext HBw.out h.out)))
  have kY := Lib.hid (show ∀ u : World, Hid (Below w0.heap.size w0 u) → Hid (Sl u Y ys) from fun u h => Lib.hid ((hY.out.below) (below_ext HBw.out h.out)))
  have kB := Lib.hid (show ∀ u : World, Hid (Below w0.heap.size w0 u) → Hid (Rw u B rows) from fun u h => Lib.hid ((hB.out.below) (below_ext HBw.out h.out)))
  have kA := Lib.hid (show ∀ u : World, Hid (Below w0.heap.size w0 u) → Hid (Sl u A al) from fun u h => Lib.hid ((hA.out.below) (below_ext HBw.out h.out)))
  have kZ := Lib.hid (show ∀ u : World, Hid (Below w0.heap.size w0 u) → Hid (Sl u Z zs) from fun u h => Lib.hid ((hZ.out.below) (below_ext HBw.out h.out)))
  have HB_0 : Hid (Below w0.heap.size w0 w0) := Lib.hid (Below.refl _ _)
  clear hv hY hB hA hZ
  go_enter Tryz.func208, Tryz.ntmps208
  go_wp2_with fail
  rw [HW.out]
  obtain ⟨zc0, zc1, zc2, zc3, zc4, zc5, zc6, zc7⟩ := kC.out _ HB_0
  clear zc0 zc1 zc2 zc3 zc4 zc5 zc6 zc7
  have hS := Lib.hid (show ∀ u1 u2 : World, Hid (Below w0.heap.size w0 u1) → Below u1.heap.size u1 u2 → (u2.cell? ⟨w.heap.size, 0, none⟩ = some (.int .i64 P) ∧ u2.cell? ⟨w.heap.size, 1, none⟩ = some (.int .i64 Q) ∧ u2.cell? ⟨w.heap.size, 2, none⟩ = some (.int .i64 G) ∧ u2.cell? ⟨w.heap.size + 1, 0, none⟩ = some (.slice Y n yc) ∧ u2.cell? ⟨w.heap.size + 1, 1, none⟩ = some (.slice B n bc) ∧ u2.cell? ⟨w.heap.size + 2, 0, none⟩ = some (.slice A na ca) ∧ u2.cell? ⟨w.heap.size + 2, 1, none⟩ = some (.int .i64 C) ∧ u2.cell? ⟨w.heap.size + 2, 2, none⟩ = some (.slice Z nz cz) ∧ Hid (Below w0.heap.size w0 u2)) from fun u1 u2 h1 h2 => by
    have h3 := Lib.hid (below_ext h1.out h2)
    obtain ⟨y0, y1, y2, y3, y4, y5, y6, y7⟩ := kC.out _ h3
    exact ⟨y0, y1, y2, y3, y4, y5, y6, y7, h3⟩)
  refine wp_region_T (S := fun w' => w'.cell? ⟨w.heap.size, 0, none⟩ = some (.int .i64 P) ∧ w'.cell? ⟨w.heap.size, 1, none⟩ = some (.int .i64 Q) ∧ w'.cell? ⟨w.heap.size, 2, none⟩ = some (.int .i64 G) ∧ w'.cell? ⟨w.heap.size + 1, 0, none⟩ = some (.slice Y n yc) ∧ w'.cell? ⟨w.heap.size + 1, 1, none⟩ = some (.slice B n bc) ∧ w'.cell? ⟨w.heap.size + 2, 0, none⟩ = some (.slice A na ca) ∧ w'.cell? ⟨w.heap.size + 2, 1, none⟩ = some (.int .i64 C) ∧ w'.cell? ⟨w.heap.size + 2, 2, none⟩ = some (.slice Z nz cz) ∧ Hid (Below w0.heap.size w0 w')) (E := []) (by kernel_rfl) (hS.out _ _ HB_0 ((Below.refl _ _).drew)) (fun hHeld => ?_)
  refine tkV 0 ?_
  try simp only [qq1, qq2, qq3, Act.put, qq4, qq5, qq6]
  refine tkV 1 ?_
  try simp only [qq1, qq2, qq3, Act.put, qq4, qq5, qq6]
  refine wpT_one (i := 2) (by kernel_rfl) rfl (fun K hK => ?_)
  go_simp
  (with_reducible refine (lvalid_any P Q G Y ys n yc B rows n bc true HVL hyn hbn hQ _ ?_ ?_ ?_).mono ?_); (go_split_ands; exact kV.out _ (by assumption)); (go_split_ands; exact kY.out _ (by assumption)); (go_split_ands; exact kB.out _ (by assumption)); rintro e wA ⟨rfl, hbA⟩
  refine hK.out _ _ ?_ (fun hHeld => ?_)
  · (go_split_ands; exact hS.out _ _ (by assumption) hbA)
  clear hK K
  try simp only [qq1, qq2, qq3, Act.put, qq4, qq5, qq6]
  refine tkV 3 ?_
  try simp only [qq1, qq2, qq3, Act.put, qq4, qq5, qq6]
  refine tkV 4 ?_
  try simp only [qq1, qq2, qq3, Act.put, qq4, qq5, qq6]
  refine tkV 5 ?_
  try simp only [qq1, qq2, qq3, Act.put, qq4, qq5, qq6]
  refine tkV 6 ?_
  try simp only [qq1, qq2, qq3, Act.put, qq4, qq5, qq6]
  refine tkV 7 ?_
  try simp only [qq1, qq2, qq3, Act.put, qq4, qq5, qq6]
  refine tkV 8 ?_
  try simp only [qq1, qq2, qq3, Act.put, qq4, qq5, qq6]
  refine tkV 9 ?_
  try simp only [qq1, qq2, qq3, Act.put, qq4, qq5, qq6]
  refine tkV 10 ?_
  try simp only [qq1, qq2, qq3, Act.put, qq4, qq5, qq6]
  refine tkV 11 ?_
  try simp only [qq1, qq2, qq3, Act.put, qq4, qq5, qq6]
  refine tkV 12 ?_
  try simp only [qq1, qq2, qq3, Act.put, qq4, qq5, qq6]
  refine tkV 13 ?_
  try simp only [qq1, qq2, qq3, Act.put, qq4, qq5, qq6]
  refine tkV 14 ?_
  try simp only [qq1, qq2, qq3, Act.put, qq4, qq5, qq6]
  refine tkV 15 ?_
  try simp only [qq1, qq2, qq3, Act.put, qq4, qq5, qq6]
  refine tkV 16 ?_
  try simp only [qq1, qq2, qq3, Act.put, qq4, qq5, qq6]
  refine tkV 17 ?_
  try simp only [qq1, qq2, qq3, Act.put, qq4, qq5, qq6]
  refine wpT_one (i := 18) (by kernel_rfl) rfl (fun K hK => ?_)
  go_simp
  (with_reducible refine (lunknowns_any Y n yc B rows n bc nu hbn hnp HN _ ?_).mono ?_); (go_split_ands; exact kB.out _ (by assumption)); rintro e wA ⟨rfl, hbA⟩
  refine hK.out _ _ ?_ (fun hHeld => ?_)
  · (go_split_ands; exact hS.out _ _ (by assumption) hbA)
  clear hK K
  try simp only [qq1, qq2, qq3, Act.put, qq4, qq5, qq6]
  refine tkV 19 ?_
  try simp only [qq1, qq2, qq3, Act.put, qq4, qq5, qq6]
  refine tkV 20 ?_
  try simp only [qq1, qq2, qq3, Act.put, qq4, qq5, qq6]
  refine tkV 21 ?_
  try simp only [qq1, qq2, qq3, Act.put, qq4, qq5, qq6]
  refine tkU 22 ?_
  try simp only [qq1, qq2, qq3, Act.put, qq4, qq5, qq6]
  refine tkU 23 ?_
  try simp only [qq1, qq2, qq3, Act.put, qq4, qq5, qq6]
  refine tkU 24 ?_
  try simp only [qq1, qq2, qq3, Act.put, qq4, qq5, qq6]
  refine tkU 25 ?_
  try simp only [qq1, qq2, qq3, Act.put, qq4, qq5, qq6]
  refine tkU 26 ?_
  try simp only [qq1, qq2, qq3, Act.put, qq4, qq5, qq6]
  refine tkU 27 ?_
  try simp only [qq1, qq2, qq3, Act.put, qq4, qq5, qq6]
  refine tkV 28 ?_
  try simp only [qq1, qq2, qq3, Act.put, qq4, qq5, qq6]
  refine tkV 29 ?_
  try simp only [qq1, qq2, qq3, Act.put, qq4, qq5, qq6]
  refine tkU 30 ?_
  try simp only [qq1, qq2, qq3, Act.put, qq4, qq5, qq6]
  refine tkU 31 ?_
  try simp only [qq1, qq2, qq3, Act.put, qq4, qq5, qq6]
  refine tkU 32 ?_
  try simp only [qq1, qq2, qq3, Act.put, qq4, qq5, qq6]
  refine tkU 33 ?_
  try simp only [qq1, qq2, qq3, Act.put, qq4, qq5, qq6]
  refine tkU 34 ?_
  try simp only [qq1, qq2, qq3, Act.put, qq4, qq5, qq6]
  refine tkV 35 ?_
  try simp only [qq1, qq2, qq3, Act.put, qq4, qq5, qq6]
  refine wpT_done (by kernel_rfl) ?_ _
  obtain ⟨x0, x1, x2, x3, x4, x5, x6, x7, HBF⟩ := hHeld
  have hbF := below_ext HBw.out HBF.out
  clear x0 x1 x2 x3 x4 x5 x6 x7
  go_wp2
  go_ret
  exact ⟨rfl, hbF⟩
set_option maxHeartbeats 12800000 in
theorem lcheckp_c (P Q G : Int) (Y : Option Addr) (ys : List Int) (n yc : Nat) (B : Option Addr) (rows : List Row) (bc : Nat) (A : Option Addr) (al : List Int) (na ca : Nat) (C : Int) (Z : Option Addr) (zs : List Int) (nz cz : Nat) (HVL : Hid (validR P Q G ys rows = true)) (hyn : Hid (ys.length = n)) (hbn : Hid (rows.length = n)) (han : Hid (al.length = na)) (hzn : Hid (zs.length = nz)) (hna : na < 1000000) (hnz : nz < 1000000) (hQ : Q < 9223372036854775808) (heq : na = n) (heq2 : nz = rowN rows) (hc : scB Q C = false) (w : World) (hv : Hid (Vars w)) (hY : Hid (Sl w Y ys)) (hB : Hid (Rw w B rows)) (hA : Hid (Sl w A al)) (hZ : Hid (Sl w Z zs)) :
    Calls Tryz.prog 208 #[gv P Q G, relV Y n yc B n bc, prvL A na ca C Z nz cz] w fun e' w' => e' = .returned (.bool false) ∧ Below w.heap.size w w' := by
  obtain ⟨v1, v2, v3, v4, v5, v6, v7, v8⟩ := validR_parts HVL.out
  have hnp : 0 < n := by rw [← hyn.out]; omega
  obtain ⟨nu, hnu⟩ : ∃ k, rowN rows = k := ⟨_, rfl⟩
  have HN := Lib.hid hnu
  clear v1 v2 v3 v4 v5 v6 v7 v8 hnu
  have e1 : ((na : Int) != (n : Int)) = false := by simp; omega
  have e2 : ((nz : Int) != (nu : Int)) = false := by have := HN.out; simp; omega
  clear heq heq2
  have HSC : Hid ([C].all (scB Q) = false) := Lib.hid (by simpa using hc)
  clear hc
  obtain ⟨w0, HW, HBw, kC⟩ := stz4 P Q G Y n yc B bc A na ca C Z nz cz w
  have kV := Lib.hid (show ∀ u : World, Hid (Below w0.heap.size w0 u) → Hid (Vars u) from fun u h => Lib.hid ((hv.out.below) (below_ext HBw.out h.out)))
  have kY := Lib.hid (show ∀ u : World, Hid (Below w0.heap.size w0 u) → Hid (Sl u Y ys) from fun u h => Lib.hid ((hY.out.below) (below_ext HBw.out h.out)))
  have kB := Lib.hid (show ∀ u : World, Hid (Below w0.heap.size w0 u) → Hid (Rw u B rows) from fun u h => Lib.hid ((hB.out.below) (below_ext HBw.out h.out)))
  have kA := Lib.hid (show ∀ u : World, Hid (Below w0.heap.size w0 u) → Hid (Sl u A al) from fun u h => Lib.hid ((hA.out.below) (below_ext HBw.out h.out)))
  have kZ := Lib.hid (show ∀ u : World, Hid (Below w0.heap.size w0 u) → Hid (Sl u Z zs) from fun u h => Lib.hid ((hZ.out.below) (below_ext HBw.out h.out)))
  have HB_0 : Hid (Below w0.heap.size w0 w0) := Lib.hid (Below.refl _ _)
  clear hv hY hB hA hZ
  go_enter Tryz.func208, Tryz.ntmps208
  go_wp2_with fail
  rw [HW.out]
  obtain ⟨zc0, zc1, zc2, zc3, zc4, zc5, zc6, zc7⟩ := kC.out _ HB_0
  clear zc0 zc1 zc2 zc3 zc4 zc5 zc6 zc7
  have hS := Lib.hid (show ∀ u1 u2 : World, Hid (Below w0.heap.size w0 u1) → Below u1.heap.size u1 u2 → (u2.cell? ⟨w.heap.size, 0, none⟩ = some (.int .i64 P) ∧ u2.cell? ⟨w.heap.size, 1, none⟩ = some (.int .i64 Q) ∧ u2.cell? ⟨w.heap.size, 2, none⟩ = some (.int .i64 G) ∧ u2.cell? ⟨w.heap.size + 1, 0, none⟩ = some (.slice Y n yc) ∧ u2.cell? ⟨w.heap.size + 1, 1, none⟩ = some (.slice B n bc) ∧ u2.cell? ⟨w.heap.size + 2, 0, none⟩ = some (.slice A na ca) ∧ u2.cell? ⟨w.heap.size + 2, 1, none⟩ = some (.int .i64 C) ∧ u2.cell? ⟨w.heap.size + 2, 2, none⟩ = some (.slice Z nz cz) ∧ Hid (Below w0.heap.size w0 u2)) from fun u1 u2 h1 h2 => by
    have h3 := Lib.hid (below_ext h1.out h2)
    obtain ⟨y0, y1, y2, y3, y4, y5, y6, y7⟩ := kC.out _ h3
    exact ⟨y0, y1, y2, y3, y4, y5, y6, y7, h3⟩)
  refine wp_region_T (S := fun w' => w'.cell? ⟨w.heap.size, 0, none⟩ = some (.int .i64 P) ∧ w'.cell? ⟨w.heap.size, 1, none⟩ = some (.int .i64 Q) ∧ w'.cell? ⟨w.heap.size, 2, none⟩ = some (.int .i64 G) ∧ w'.cell? ⟨w.heap.size + 1, 0, none⟩ = some (.slice Y n yc) ∧ w'.cell? ⟨w.heap.size + 1, 1, none⟩ = some (.slice B n bc) ∧ w'.cell? ⟨w.heap.size + 2, 0, none⟩ = some (.slice A na ca) ∧ w'.cell? ⟨w.heap.size + 2, 1, none⟩ = some (.int .i64 C) ∧ w'.cell? ⟨w.heap.size + 2, 2, none⟩ = some (.slice Z nz cz) ∧ Hid (Below w0.heap.size w0 w')) (E := []) (by kernel_rfl) (hS.out _ _ HB_0 ((Below.refl _ _).drew)) (fun hHeld => ?_)
  refine tkV 0 ?_
  try simp only [qq1, qq2, qq3, Act.put, qq4, qq5, qq6]
  refine tkV 1 ?_
  try simp only [qq1, qq2, qq3, Act.put, qq4, qq5, qq6]
  refine wpT_one (i := 2) (by kernel_rfl) rfl (fun K hK => ?_)
  go_simp
  (with_reducible refine (lvalid_any P Q G Y ys n yc B rows n bc true HVL hyn hbn hQ _ ?_ ?_ ?_).mono ?_); (go_split_ands; exact kV.out _ (by assumption)); (go_split_ands; exact kY.out _ (by assumption)); (go_split_ands; exact kB.out _ (by assumption)); rintro e wA ⟨rfl, hbA⟩
  refine hK.out _ _ ?_ (fun hHeld => ?_)
  · (go_split_ands; exact hS.out _ _ (by assumption) hbA)
  clear hK K
  try simp only [qq1, qq2, qq3, Act.put, qq4, qq5, qq6]
  refine tkV 3 ?_
  try simp only [qq1, qq2, qq3, Act.put, qq4, qq5, qq6]
  refine tkV 4 ?_
  try simp only [qq1, qq2, qq3, Act.put, qq4, qq5, qq6]
  refine tkV 5 ?_
  try simp only [qq1, qq2, qq3, Act.put, qq4, qq5, qq6]
  refine tkV 6 ?_
  try simp only [qq1, qq2, qq3, Act.put, qq4, qq5, qq6]
  refine tkV 7 ?_
  try simp only [qq1, qq2, qq3, Act.put, qq4, qq5, qq6]
  refine tkV 8 ?_
  try simp only [qq1, qq2, qq3, Act.put, qq4, qq5, qq6]
  refine tkV 9 ?_
  try simp only [qq1, qq2, qq3, Act.put, qq4, qq5, qq6]
  refine tkV 10 ?_
  try simp only [qq1, qq2, qq3, Act.put, qq4, qq5, qq6]
  refine tkV 11 ?_
  try simp only [qq1, qq2, qq3, Act.put, qq4, qq5, qq6]
  refine tkV 12 ?_
  try simp only [qq1, qq2, qq3, Act.put, qq4, qq5, qq6]
  refine tkV 13 ?_
  try simp only [qq1, qq2, qq3, Act.put, qq4, qq5, qq6]
  refine tkV 14 ?_
  try simp only [qq1, qq2, qq3, Act.put, qq4, qq5, qq6]
  refine tkV 15 ?_
  try simp only [qq1, qq2, qq3, Act.put, qq4, qq5, qq6]
  refine tkV 16 ?_
  try simp only [qq1, qq2, qq3, Act.put, qq4, qq5, qq6]
  refine tkV 17 ?_
  try simp only [qq1, qq2, qq3, Act.put, qq4, qq5, qq6]
  refine wpT_one (i := 18) (by kernel_rfl) rfl (fun K hK => ?_)
  go_simp
  (with_reducible refine (lunknowns_any Y n yc B rows n bc nu hbn hnp HN _ ?_).mono ?_); (go_split_ands; exact kB.out _ (by assumption)); rintro e wA ⟨rfl, hbA⟩
  refine hK.out _ _ ?_ (fun hHeld => ?_)
  · (go_split_ands; exact hS.out _ _ (by assumption) hbA)
  clear hK K
  try simp only [qq1, qq2, qq3, Act.put, qq4, qq5, qq6]
  refine tkV 19 ?_
  try simp only [qq1, qq2, qq3, Act.put, qq4, qq5, qq6]
  refine tkV 20 ?_
  try simp only [qq1, qq2, qq3, Act.put, qq4, qq5, qq6]
  refine tkV 21 ?_
  try simp only [qq1, qq2, qq3, Act.put, qq4, qq5, qq6]
  refine tkV 22 ?_
  try simp only [qq1, qq2, qq3, Act.put, qq4, qq5, qq6]
  refine tkV 23 ?_
  try simp only [qq1, qq2, qq3, Act.put, qq4, qq5, qq6]
  refine tkV 24 ?_
  try simp only [qq1, qq2, qq3, Act.put, qq4, qq5, qq6]
  refine wpT_one (i := 25) (by kernel_rfl) rfl (fun K hK => ?_)
  go_simp
  refine hK.out _ _ ?_ (fun hHeld => ?_)
  · (go_split_ands; exact hS.out _ _ (by assumption) (below_box0 _ _))
  clear hK K
  try simp only [qq1, qq2, qq3, Act.put, qq4, qq5, qq6]
  refine wpT_one (i := 26) (by kernel_rfl) rfl (fun K hK => ?_)
  go_simp
  (with_reducible refine (scalars_any P Q G (some ⟨wA.heap.size, 0, none⟩) [C] 1 1 false HSC (Lib.hid rfl) (Lib.hid (by omega)) _ (Lib.hid (sl_of_cells (cells1 wA _ C)))).mono ?_); rintro e wB ⟨rfl, hbA⟩
  refine hK.out _ _ ?_ (fun hHeld => ?_)
  · (go_split_ands; exact hS.out _ _ (by assumption) hbA)
  clear hK K
  try simp only [qq1, qq2, qq3, Act.put, qq4, qq5, qq6]
  refine tkV 27 ?_
  try simp only [qq1, qq2, qq3, Act.put, qq4, qq5, qq6]
  refine tkV 28 ?_
  try simp only [qq1, qq2, qq3, Act.put, qq4, qq5, qq6]
  refine tkV 29 ?_
  try simp only [qq1, qq2, qq3, Act.put, qq4, qq5, qq6]
  refine tkU 30 ?_
  try simp only [qq1, qq2, qq3, Act.put, qq4, qq5, qq6]
  refine tkU 31 ?_
  try simp only [qq1, qq2, qq3, Act.put, qq4, qq5, qq6]
  refine tkU 32 ?_
  try simp only [qq1, qq2, qq3, Act.put, qq4, qq5, qq6]
  refine tkU 33 ?_
  try simp only [qq1, qq2, qq3, Act.put, qq4, qq5, qq6]
  refine tkU 34 ?_
  try simp only [qq1, qq2, qq3, Act.put, qq4, qq5, qq6]
  refine tkV 35 ?_
  try simp only [qq1, qq2, qq3, Act.put, qq4, qq5, qq6]
  refine wpT_done (by kernel_rfl) ?_ _
  obtain ⟨x0, x1, x2, x3, x4, x5, x6, x7, HBF⟩ := hHeld
  have hbF := below_ext HBw.out HBF.out
  clear x0 x1 x2 x3 x4 x5 x6 x7
  go_wp2
  go_ret
  exact ⟨rfl, hbF⟩
set_option maxHeartbeats 12800000 in
theorem lcheckp_d (P Q G : Int) (Y : Option Addr) (ys : List Int) (n yc : Nat) (B : Option Addr) (rows : List Row) (bc : Nat) (A : Option Addr) (al : List Int) (na ca : Nat) (C : Int) (Z : Option Addr) (zs : List Int) (nz cz : Nat) (HVL : Hid (validR P Q G ys rows = true)) (hyn : Hid (ys.length = n)) (hbn : Hid (rows.length = n)) (han : Hid (al.length = na)) (hzn : Hid (zs.length = nz)) (hna : na < 1000000) (hnz : nz < 1000000) (hQ : Q < 9223372036854775808) (heq : na = n) (heq2 : nz = rowN rows) (hc : scB Q C = true) (Hl : Hid (zs.all (scB Q) = false)) (w : World) (hv : Hid (Vars w)) (hY : Hid (Sl w Y ys)) (hB : Hid (Rw w B rows)) (hA : Hid (Sl w A al)) (hZ : Hid (Sl w Z zs)) :
    Calls Tryz.prog 208 #[gv P Q G, relV Y n yc B n bc, prvL A na ca C Z nz cz] w fun e' w' => e' = .returned (.bool false) ∧ Below w.heap.size w w' := by
  obtain ⟨v1, v2, v3, v4, v5, v6, v7, v8⟩ := validR_parts HVL.out
  have hnp : 0 < n := by rw [← hyn.out]; omega
  obtain ⟨nu, hnu⟩ : ∃ k, rowN rows = k := ⟨_, rfl⟩
  have HN := Lib.hid hnu
  clear v1 v2 v3 v4 v5 v6 v7 v8 hnu
  have e1 : ((na : Int) != (n : Int)) = false := by simp; omega
  have e2 : ((nz : Int) != (nu : Int)) = false := by have := HN.out; simp; omega
  clear heq heq2
  have HSC : Hid ([C].all (scB Q) = true) := Lib.hid (by simpa using hc)
  clear hc
  obtain ⟨w0, HW, HBw, kC⟩ := stz4 P Q G Y n yc B bc A na ca C Z nz cz w
  have kV := Lib.hid (show ∀ u : World, Hid (Below w0.heap.size w0 u) → Hid (Vars u) from fun u h => Lib.hid ((hv.out.below) (below_ext HBw.out h.out)))
  have kY := Lib.hid (show ∀ u : World, Hid (Below w0.heap.size w0 u) → Hid (Sl u Y ys) from fun u h => Lib.hid ((hY.out.below) (below_ext HBw.out h.out)))
  have kB := Lib.hid (show ∀ u : World, Hid (Below w0.heap.size w0 u) → Hid (Rw u B rows) from fun u h => Lib.hid ((hB.out.below) (below_ext HBw.out h.out)))
  have kA := Lib.hid (show ∀ u : World, Hid (Below w0.heap.size w0 u) → Hid (Sl u A al) from fun u h => Lib.hid ((hA.out.below) (below_ext HBw.out h.out)))
  have kZ := Lib.hid (show ∀ u : World, Hid (Below w0.heap.size w0 u) → Hid (Sl u Z zs) from fun u h => Lib.hid ((hZ.out.below) (below_ext HBw.out h.out)))
  have HB_0 : Hid (Below w0.heap.size w0 w0) := Lib.hid (Below.refl _ _)
  clear hv hY hB hA hZ
  go_enter Tryz.func208, Tryz.ntmps208
  go_wp2_with fail
  rw [HW.out]
  obtain ⟨zc0, zc1, zc2, zc3, zc4, zc5, zc6, zc7⟩ := kC.out _ HB_0
  clear zc0 zc1 zc2 zc3 zc4 zc5 zc6 zc7
  have hS := Lib.hid (show ∀ u1 u2 : World, Hid (Below w0.heap.size w0 u1) → Below u1.heap.size u1 u2 → (u2.cell? ⟨w.heap.size, 0, none⟩ = some (.int .i64 P) ∧ u2.cell? ⟨w.heap.size, 1, none⟩ = some (.int .i64 Q) ∧ u2.cell? ⟨w.heap.size, 2, none⟩ = some (.int .i64 G) ∧ u2.cell? ⟨w.heap.size + 1, 0, none⟩ = some (.slice Y n yc) ∧ u2.cell? ⟨w.heap.size + 1, 1, none⟩ = some (.slice B n bc) ∧ u2.cell? ⟨w.heap.size + 2, 0, none⟩ = some (.slice A na ca) ∧ u2.cell? ⟨w.heap.size + 2, 1, none⟩ = some (.int .i64 C) ∧ u2.cell? ⟨w.heap.size + 2, 2, none⟩ = some (.slice Z nz cz) ∧ Hid (Below w0.heap.size w0 u2)) from fun u1 u2 h1 h2 => by
    have h3 := Lib.hid (below_ext h1.out h2)
    obtain ⟨y0, y1, y2, y3, y4, y5, y6, y7⟩ := kC.out _ h3
    exact ⟨y0, y1, y2, y3, y4, y5, y6, y7, h3⟩)
  refine wp_region_T (S := fun w' => w'.cell? ⟨w.heap.size, 0, none⟩ = some (.int .i64 P) ∧ w'.cell? ⟨w.heap.size, 1, none⟩ = some (.int .i64 Q) ∧ w'.cell? ⟨w.heap.size, 2, none⟩ = some (.int .i64 G) ∧ w'.cell? ⟨w.heap.size + 1, 0, none⟩ = some (.slice Y n yc) ∧ w'.cell? ⟨w.heap.size + 1, 1, none⟩ = some (.slice B n bc) ∧ w'.cell? ⟨w.heap.size + 2, 0, none⟩ = some (.slice A na ca) ∧ w'.cell? ⟨w.heap.size + 2, 1, none⟩ = some (.int .i64 C) ∧ w'.cell? ⟨w.heap.size + 2, 2, none⟩ = some (.slice Z nz cz) ∧ Hid (Below w0.heap.size w0 w')) (E := []) (by kernel_rfl) (hS.out _ _ HB_0 ((Below.refl _ _).drew)) (fun hHeld => ?_)
  refine tkV 0 ?_
  try simp only [qq1, qq2, qq3, Act.put, qq4, qq5, qq6]
  refine tkV 1 ?_
  try simp only [qq1, qq2, qq3, Act.put, qq4, qq5, qq6]
  refine wpT_one (i := 2) (by kernel_rfl) rfl (fun K hK => ?_)
  go_simp
  (with_reducible refine (lvalid_any P Q G Y ys n yc B rows n bc true HVL hyn hbn hQ _ ?_ ?_ ?_).mono ?_); (go_split_ands; exact kV.out _ (by assumption)); (go_split_ands; exact kY.out _ (by assumption)); (go_split_ands; exact kB.out _ (by assumption)); rintro e wA ⟨rfl, hbA⟩
  refine hK.out _ _ ?_ (fun hHeld => ?_)
  · (go_split_ands; exact hS.out _ _ (by assumption) hbA)
  clear hK K
  try simp only [qq1, qq2, qq3, Act.put, qq4, qq5, qq6]
  refine tkV 3 ?_
  try simp only [qq1, qq2, qq3, Act.put, qq4, qq5, qq6]
  refine tkV 4 ?_
  try simp only [qq1, qq2, qq3, Act.put, qq4, qq5, qq6]
  refine tkV 5 ?_
  try simp only [qq1, qq2, qq3, Act.put, qq4, qq5, qq6]
  refine tkV 6 ?_
  try simp only [qq1, qq2, qq3, Act.put, qq4, qq5, qq6]
  refine tkV 7 ?_
  try simp only [qq1, qq2, qq3, Act.put, qq4, qq5, qq6]
  refine tkV 8 ?_
  try simp only [qq1, qq2, qq3, Act.put, qq4, qq5, qq6]
  refine tkV 9 ?_
  try simp only [qq1, qq2, qq3, Act.put, qq4, qq5, qq6]
  refine tkV 10 ?_
  try simp only [qq1, qq2, qq3, Act.put, qq4, qq5, qq6]
  refine tkV 11 ?_
  try simp only [qq1, qq2, qq3, Act.put, qq4, qq5, qq6]
  refine tkV 12 ?_
  try simp only [qq1, qq2, qq3, Act.put, qq4, qq5, qq6]
  refine tkV 13 ?_
  try simp only [qq1, qq2, qq3, Act.put, qq4, qq5, qq6]
  refine tkV 14 ?_
  try simp only [qq1, qq2, qq3, Act.put, qq4, qq5, qq6]
  refine tkV 15 ?_
  try simp only [qq1, qq2, qq3, Act.put, qq4, qq5, qq6]
  refine tkV 16 ?_
  try simp only [qq1, qq2, qq3, Act.put, qq4, qq5, qq6]
  refine tkV 17 ?_
  try simp only [qq1, qq2, qq3, Act.put, qq4, qq5, qq6]
  refine wpT_one (i := 18) (by kernel_rfl) rfl (fun K hK => ?_)
  go_simp
  (with_reducible refine (lunknowns_any Y n yc B rows n bc nu hbn hnp HN _ ?_).mono ?_); (go_split_ands; exact kB.out _ (by assumption)); rintro e wA ⟨rfl, hbA⟩
  refine hK.out _ _ ?_ (fun hHeld => ?_)
  · (go_split_ands; exact hS.out _ _ (by assumption) hbA)
  clear hK K
  try simp only [qq1, qq2, qq3, Act.put, qq4, qq5, qq6]
  refine tkV 19 ?_
  try simp only [qq1, qq2, qq3, Act.put, qq4, qq5, qq6]
  refine tkV 20 ?_
  try simp only [qq1, qq2, qq3, Act.put, qq4, qq5, qq6]
  refine tkV 21 ?_
  try simp only [qq1, qq2, qq3, Act.put, qq4, qq5, qq6]
  refine tkV 22 ?_
  try simp only [qq1, qq2, qq3, Act.put, qq4, qq5, qq6]
  refine tkV 23 ?_
  try simp only [qq1, qq2, qq3, Act.put, qq4, qq5, qq6]
  refine tkV 24 ?_
  try simp only [qq1, qq2, qq3, Act.put, qq4, qq5, qq6]
  refine wpT_one (i := 25) (by kernel_rfl) rfl (fun K hK => ?_)
  go_simp
  refine hK.out _ _ ?_ (fun hHeld => ?_)
  · (go_split_ands; exact hS.out _ _ (by assumption) (below_box0 _ _))
  clear hK K
  try simp only [qq1, qq2, qq3, Act.put, qq4, qq5, qq6]
  refine wpT_one (i := 26) (by kernel_rfl) rfl (fun K hK => ?_)
  go_simp
  (with_reducible refine (scalars_any P Q G (some ⟨wA.heap.size, 0, none⟩) [C] 1 1 true HSC (Lib.hid rfl) (Lib.hid (by omega)) _ (Lib.hid (sl_of_cells (cells1 wA _ C)))).mono ?_); rintro e wB ⟨rfl, hbA⟩
  refine hK.out _ _ ?_ (fun hHeld => ?_)
  · (go_split_ands; exact hS.out _ _ (by assumption) hbA)
  clear hK K
  try simp only [qq1, qq2, qq3, Act.put, qq4, qq5, qq6]
  refine tkV 27 ?_
  try simp only [qq1, qq2, qq3, Act.put, qq4, qq5, qq6]
  refine tkV 28 ?_
  try simp only [qq1, qq2, qq3, Act.put, qq4, qq5, qq6]
  refine tkV 29 ?_
  try simp only [qq1, qq2, qq3, Act.put, qq4, qq5, qq6]
  refine tkV 30 ?_
  try simp only [qq1, qq2, qq3, Act.put, qq4, qq5, qq6]
  refine tkV 31 ?_
  try simp only [qq1, qq2, qq3, Act.put, qq4, qq5, qq6]
  refine tkV 32 ?_
  try simp only [qq1, qq2, qq3, Act.put, qq4, qq5, qq6]
  refine wpT_one (i := 33) (by kernel_rfl) rfl (fun K hK => ?_)
  go_simp
  (with_reducible refine (scalars_any P Q G Z zs nz cz false Hl hzn (Lib.hid hnz) _ ?_).mono ?_); (go_split_ands; exact kZ.out _ (by assumption)); rintro e wA ⟨rfl, hbA⟩
  refine hK.out _ _ ?_ (fun hHeld => ?_)
  · (go_split_ands; exact hS.out _ _ (by assumption) hbA)
  clear hK K
  try simp only [qq1, qq2, qq3, Act.put, qq4, qq5, qq6]
  refine tkV 34 ?_
  try simp only [qq1, qq2, qq3, Act.put, qq4, qq5, qq6]
  refine tkV 35 ?_
  try simp only [qq1, qq2, qq3, Act.put, qq4, qq5, qq6]
  refine wpT_done (by kernel_rfl) ?_ _
  obtain ⟨x0, x1, x2, x3, x4, x5, x6, x7, HBF⟩ := hHeld
  have hbF := below_ext HBw.out HBF.out
  clear x0 x1 x2 x3 x4 x5 x6 x7
  go_wp2
  go_ret
  exact ⟨rfl, hbF⟩
def checkB (P Q C : Int) (ys : List Int) (rows : List Row) (al zs : List Int) : Bool := decide (al.length = rows.length) && (decide (zs.length = rowN rows) && (scB Q C && (zs.all (scB Q) && (simR P Q C ys rows zs == al))))
theorem checkB_parts {P Q C : Int} {ys : List Int} {rows : List Row} {al zs : List Int} (h : checkB P Q C ys rows al zs = true) : al.length = rows.length ∧ zs.length = rowN rows ∧ scB Q C = true ∧ zs.all (scB Q) = true ∧ simR P Q C ys rows zs = al := by
  simp only [checkB, Bool.and_eq_true, decide_eq_true_eq] at h
  exact ⟨h.1, h.2.1, h.2.2.1, h.2.2.2.1, by simpa using h.2.2.2.2⟩
theorem lcheckp_any (P Q G : Int) (Y : Option Addr) (ys : List Int) (n yc : Nat) (B : Option Addr) (rows : List Row) (bc : Nat) (A : Option Addr) (al : List Int) (na ca : Nat) (C : Int) (Z : Option Addr) (zs : List Int) (nz cz : Nat) (HVL : Hid (validR P Q G ys rows = true)) (hyn : Hid (ys.length = n)) (hbn : Hid (rows.length = n)) (han : Hid (al.length = na)) (hzn : Hid (zs.length = nz)) (hna : na < 1000000) (hnz : nz < 1000000) (hQ : Q < 9223372036854775808) (r : Bool) (hr : Hid (checkB P Q C ys rows al zs = r)) (w : World) (hv : Hid (Vars w)) (hY : Hid (Sl w Y ys)) (hB : Hid (Rw w B rows)) (hA : Hid (Sl w A al)) (hZ : Hid (Sl w Z zs)) :
    Calls Tryz.prog 208 #[gv P Q G, relV Y n yc B n bc, prvL A na ca C Z nz cz] w fun e' w' => e' = .returned (.bool r) ∧ Below w.heap.size w w' := by
  by_cases h1 : na = n
  · by_cases h2 : nz = rowN rows
    · cases h3 : scB Q C with
      | false =>
        obtain rfl : r = false := by rw [← hr.out]; unfold checkB; rw [h3]; simp
        exact lcheckp_c P Q G Y ys n yc B rows bc A al na ca C Z zs nz cz HVL hyn hbn han hzn hna hnz hQ h1 h2 h3 w hv hY hB hA hZ
      | true =>
        cases h4 : zs.all (scB Q) with
        | false =>
          obtain rfl : r = false := by rw [← hr.out]; unfold checkB; rw [h4]; simp
          exact lcheckp_d P Q G Y ys n yc B rows bc A al na ca C Z zs nz cz HVL hyn hbn han hzn hna hnz hQ h1 h2 h3 (Lib.hid h4) w hv hY hB hA hZ
        | true =>
          subst h1
          refine lcheckp_ok P Q G Y ys na yc B rows bc A al ca C Z zs nz cz HVL hyn hbn han hzn (by rw [hzn.out]; exact h2) (Lib.hid h4) (scB_lo h3) (scB_hi h3) r (Lib.hid ?_) hQ w hv hY hB hA hZ
          rw [← hr.out]
          unfold checkB
          have e1 : al.length = rows.length := han.out.trans hbn.out.symm
          have e2 : zs.length = rowN rows := hzn.out.trans h2
          rw [decide_eq_true e1, decide_eq_true e2, h3, h4]
          rfl
    · obtain rfl : r = false := by
        rw [← hr.out]; unfold checkB
        rw [decide_eq_false (show ¬ zs.length = rowN rows by rw [hzn.out]; exact h2)]; simp
      exact lcheckp_b P Q G Y ys n yc B rows bc A al na ca C Z zs nz cz HVL hyn hbn han hzn hna hnz hQ h1 h2 w hv hY hB hA hZ
  · obtain rfl : r = false := by
      rw [← hr.out]; unfold checkB
      rw [decide_eq_false (show ¬ al.length = rows.length by rw [han.out, hbn.out]; exact h1)]; rfl
    exact lcheckp_a P Q G Y ys n yc B rows bc A al na ca C Z zs nz cz HVL hyn hbn han hzn hna hnz hQ h1 w hv hY hB hA hZ
set_option maxRecDepth 100000 in
theorem stz5 (P : Int) (Q : Int) (G : Int) (Y : Option Addr) (yn : Nat) (yc : Nat) (B : Option Addr) (bn : Nat) (bc : Nat) (A : Option Addr) (na : Nat) (ca : Nat) (C : Int) (Z : Option Addr) (nz : Nat) (cz : Nat) (w : World) : ∃ w0, Hid ((((w.alloc (gObj P Q G)).alloc (relO Y yn yc B bn bc)).alloc (prObjL A na ca C Z nz cz)) = w0) ∧ Hid (Below w.heap.size w w0) ∧ Hid (∀ u : World, Hid (Below w0.heap.size w0 u) → u.cell? ⟨w.heap.size, 0, none⟩ = some (.int .i64 P) ∧ u.cell? ⟨w.heap.size, 1, none⟩ = some (.int .i64 Q) ∧ u.cell? ⟨w.heap.size, 2, none⟩ = some (.int .i64 G) ∧ u.cell? ⟨w.heap.size + 1, 0, none⟩ = some (.slice Y yn yc) ∧ u.cell? ⟨w.heap.size + 1, 1, none⟩ = some (.slice B bn bc) ∧ u.cell? ⟨w.heap.size + 2, 0, none⟩ = some (.slice A na ca) ∧ u.cell? ⟨w.heap.size + 2, 1, none⟩ = some (.int .i64 C) ∧ u.cell? ⟨w.heap.size + 2, 2, none⟩ = some (.slice Z nz cz)) := by
  obtain ⟨w0, hW⟩ : ∃ W, (((w.alloc (gObj P Q G)).alloc (relO Y yn yc B bn bc)).alloc (prObjL A na ca C Z nz cz)) = W := ⟨_, rfl⟩
  have HBw : Hid (Below w.heap.size w w0) := Lib.hid (by rw [← hW]; exact (((Below.refl _ _).alloc (Nat.le_refl _) _).alloc (by simp) _).alloc (by simp; omega) _)
  have hc : w0.cell? ⟨w.heap.size, 0, none⟩ = some (.int .i64 P) ∧ w0.cell? ⟨w.heap.size, 1, none⟩ = some (.int .i64 Q) ∧ w0.cell? ⟨w.heap.size, 2, none⟩ = some (.int .i64 G) ∧ w0.cell? ⟨w.heap.size + 1, 0, none⟩ = some (.slice Y yn yc) ∧ w0.cell? ⟨w.heap.size + 1, 1, none⟩ = some (.slice B bn bc) ∧ w0.cell? ⟨w.heap.size + 2, 0, none⟩ = some (.slice A na ca) ∧ w0.cell? ⟨w.heap.size + 2, 1, none⟩ = some (.int .i64 C) ∧ w0.cell? ⟨w.heap.size + 2, 2, none⟩ = some (.slice Z nz cz) := by rw [← hW]; exact ⟨cell_below (cell_below (allocs_cell (by simp) (by rfl)) (below_box0 _ _)) (below_box0 _ _), cell_below (cell_below (allocs_cell (by simp) (by rfl)) (below_box0 _ _)) (below_box0 _ _), cell_below (cell_below (allocs_cell (by simp) (by rfl)) (below_box0 _ _)) (below_box0 _ _), cell_below (allocs_cell (by simp) (by rfl)) (below_box0 _ _), cell_below (allocs_cell (by simp) (by rfl)) (below_box0 _ _), allocs_cell (by simp) (by rfl), allocs_cell (by simp) (by rfl), allocs_cell (by simp) (by rfl)⟩
  have kC := Lib.hid (show ∀ u : World, Hid (Below w0.heap.size w0 u) → u.cell? ⟨w.heap.size, 0, none⟩ = some (.int .i64 P) ∧ u.cell? ⟨w.heap.size, 1, none⟩ = some (.int .i64 Q) ∧ u.cell? ⟨w.heap.size, 2, none⟩ = some (.int .i64 G) ∧ u.cell? ⟨w.heap.size + 1, 0, none⟩ = some (.slice Y yn yc) ∧ u.cell? ⟨w.heap.size + 1, 1, none⟩ = some (.slice B bn bc) ∧ u.cell? ⟨w.heap.size + 2, 0, none⟩ = some (.slice A na ca) ∧ u.cell? ⟨w.heap.size + 2, 1, none⟩ = some (.int .i64 C) ∧ u.cell? ⟨w.heap.size + 2, 2, none⟩ = some (.slice Z nz cz) from fun u h => ⟨cell_below hc.1 h.out, cell_below hc.2.1 h.out, cell_below hc.2.2.1 h.out, cell_below hc.2.2.2.1 h.out, cell_below hc.2.2.2.2.1 h.out, cell_below hc.2.2.2.2.2.1 h.out, cell_below hc.2.2.2.2.2.2.1 h.out, cell_below hc.2.2.2.2.2.2.2 h.out⟩)
  exact ⟨w0, Lib.hid hW, HBw, kC⟩
set_option maxHeartbeats 12800000 in
theorem lcheckp_v (P Q G : Int) (Y : Option Addr) (ys : List Int) (yn yc : Nat) (B : Option Addr) (rows : List Row) (bn bc : Nat) (A : Option Addr) (al : List Int) (na ca : Nat) (C : Int) (Z : Option Addr) (zs : List Int) (nz cz : Nat) (hyn : Hid (ys.length = yn)) (hbn : Hid (rows.length = bn)) (han : Hid (al.length = na)) (hzn : Hid (zs.length = nz)) (hna : na < 1000000) (hnz : nz < 1000000) (hQ : Q < 9223372036854775808) (HVL : Hid (validR P Q G ys rows = false)) (w : World) (hv : Hid (Vars w)) (hY : Hid (Sl w Y ys)) (hB : Hid (Rw w B rows)) (hA : Hid (Sl w A al)) (hZ : Hid (Sl w Z zs)) :
    Calls Tryz.prog 208 #[gv P Q G, relV Y yn yc B bn bc, prvL A na ca C Z nz cz] w fun e' w' => e' = .returned (.bool false) ∧ Below w.heap.size w w' := by
  obtain ⟨w0, HW, HBw, kC⟩ := stz5 P Q G Y yn yc B bn bc A na ca C Z nz cz w
  have kV := Lib.hid (show ∀ u : World, Hid (Below w0.heap.size w0 u) → Hid (Vars u) from fun u h => Lib.hid ((hv.out.below) (below_ext HBw.out h.out)))
  have kY := Lib.hid (show ∀ u : World, Hid (Below w0.heap.size w0 u) → Hid (Sl u Y ys) from fun u h => Lib.hid ((hY.out.below) (below_ext HBw.out h.out)))
  have kB := Lib.hid (show ∀ u : World, Hid (Below w0.heap.size w0 u) → Hid (Rw u B rows) from fun u h => Lib.hid ((hB.out.below) (below_ext HBw.out h.out)))
  have kA := Lib.hid (show ∀ u : World, Hid (Below w0.heap.size w0 u) → Hid (Sl u A al) from fun u h => Lib.hid ((hA.out.below) (below_ext HBw.out h.out)))
  have kZ := Lib.hid (show ∀ u : World, Hid (Below w0.heap.size w0 u) → Hid (Sl u Z zs) from fun u h => Lib.hid ((hZ.out.below) (below_ext HBw.out h.out)))
  have HB_0 : Hid (Below w0.heap.size w0 w0) := Lib.hid (Below.refl _ _)
  clear hv hY hB hA hZ
  go_enter Tryz.func208, Tryz.ntmps208
  go_wp2_with fail
  rw [HW.out]
  obtain ⟨zc0, zc1, zc2, zc3, zc4, zc5, zc6, zc7⟩ := kC.out _ HB_0
  clear zc0 zc1 zc2 zc3 zc4 zc5 zc6 zc7
  have hS := Lib.hid (show ∀ u1 u2 : World, Hid (Below w0.heap.size w0 u1) → Below u1.heap.size u1 u2 → (u2.cell? ⟨w.heap.size, 0, none⟩ = some (.int .i64 P) ∧ u2.cell? ⟨w.heap.size, 1, none⟩ = some (.int .i64 Q) ∧ u2.cell? ⟨w.heap.size, 2, none⟩ = some (.int .i64 G) ∧ u2.cell? ⟨w.heap.size + 1, 0, none⟩ = some (.slice Y yn yc) ∧ u2.cell? ⟨w.heap.size + 1, 1, none⟩ = some (.slice B bn bc) ∧ u2.cell? ⟨w.heap.size + 2, 0, none⟩ = some (.slice A na ca) ∧ u2.cell? ⟨w.heap.size + 2, 1, none⟩ = some (.int .i64 C) ∧ u2.cell? ⟨w.heap.size + 2, 2, none⟩ = some (.slice Z nz cz) ∧ Hid (Below w0.heap.size w0 u2)) from fun u1 u2 h1 h2 => by
    have h3 := Lib.hid (below_ext h1.out h2)
    obtain ⟨y0, y1, y2, y3, y4, y5, y6, y7⟩ := kC.out _ h3
    exact ⟨y0, y1, y2, y3, y4, y5, y6, y7, h3⟩)
  refine wp_region_T (S := fun w' => w'.cell? ⟨w.heap.size, 0, none⟩ = some (.int .i64 P) ∧ w'.cell? ⟨w.heap.size, 1, none⟩ = some (.int .i64 Q) ∧ w'.cell? ⟨w.heap.size, 2, none⟩ = some (.int .i64 G) ∧ w'.cell? ⟨w.heap.size + 1, 0, none⟩ = some (.slice Y yn yc) ∧ w'.cell? ⟨w.heap.size + 1, 1, none⟩ = some (.slice B bn bc) ∧ w'.cell? ⟨w.heap.size + 2, 0, none⟩ = some (.slice A na ca) ∧ w'.cell? ⟨w.heap.size + 2, 1, none⟩ = some (.int .i64 C) ∧ w'.cell? ⟨w.heap.size + 2, 2, none⟩ = some (.slice Z nz cz) ∧ Hid (Below w0.heap.size w0 w')) (E := []) (by kernel_rfl) (hS.out _ _ HB_0 ((Below.refl _ _).drew)) (fun hHeld => ?_)
  refine tkV 0 ?_
  try simp only [qq1, qq2, qq3, Act.put, qq4, qq5, qq6]
  refine tkV 1 ?_
  try simp only [qq1, qq2, qq3, Act.put, qq4, qq5, qq6]
  refine wpT_one (i := 2) (by kernel_rfl) rfl (fun K hK => ?_)
  go_simp
  (with_reducible refine (lvalid_any P Q G Y ys yn yc B rows bn bc false HVL hyn hbn hQ _ ?_ ?_ ?_).mono ?_); (go_split_ands; exact kV.out _ (by assumption)); (go_split_ands; exact kY.out _ (by assumption)); (go_split_ands; exact kB.out _ (by assumption)); rintro e wA ⟨rfl, hbA⟩
  refine hK.out _ _ ?_ (fun hHeld => ?_)
  · (go_split_ands; exact hS.out _ _ (by assumption) hbA)
  clear hK K
  try simp only [qq1, qq2, qq3, Act.put, qq4, qq5, qq6]
  refine tkV 3 ?_
  try simp only [qq1, qq2, qq3, Act.put, qq4, qq5, qq6]
  refine tkV 4 ?_
  try simp only [qq1, qq2, qq3, Act.put, qq4, qq5, qq6]
  refine tkU 5 ?_
  try simp only [qq1, qq2, qq3, Act.put, qq4, qq5, qq6]
  refine tkU 6 ?_
  try simp only [qq1, qq2, qq3, Act.put, qq4, qq5, qq6]
  refine tkU 7 ?_
  try simp only [qq1, qq2, qq3, Act.put, qq4, qq5, qq6]
  refine tkU 8 ?_
  try simp only [qq1, qq2, qq3, Act.put, qq4, qq5, qq6]
  refine tkU 9 ?_
  try simp only [qq1, qq2, qq3, Act.put, qq4, qq5, qq6]
  refine tkU 10 ?_
  try simp only [qq1, qq2, qq3, Act.put, qq4, qq5, qq6]
  refine tkU 11 ?_
  try simp only [qq1, qq2, qq3, Act.put, qq4, qq5, qq6]
  refine tkV 12 ?_
  try simp only [qq1, qq2, qq3, Act.put, qq4, qq5, qq6]
  refine tkV 13 ?_
  try simp only [qq1, qq2, qq3, Act.put, qq4, qq5, qq6]
  refine tkU 14 ?_
  try simp only [qq1, qq2, qq3, Act.put, qq4, qq5, qq6]
  refine tkU 15 ?_
  try simp only [qq1, qq2, qq3, Act.put, qq4, qq5, qq6]
  refine tkU 16 ?_
  try simp only [qq1, qq2, qq3, Act.put, qq4, qq5, qq6]
  refine tkU 17 ?_
  try simp only [qq1, qq2, qq3, Act.put, qq4, qq5, qq6]
  refine tkU 18 ?_
  try simp only [qq1, qq2, qq3, Act.put, qq4, qq5, qq6]
  refine tkU 19 ?_
  try simp only [qq1, qq2, qq3, Act.put, qq4, qq5, qq6]
  refine tkV 20 ?_
  try simp only [qq1, qq2, qq3, Act.put, qq4, qq5, qq6]
  refine tkV 21 ?_
  try simp only [qq1, qq2, qq3, Act.put, qq4, qq5, qq6]
  refine tkU 22 ?_
  try simp only [qq1, qq2, qq3, Act.put, qq4, qq5, qq6]
  refine tkU 23 ?_
  try simp only [qq1, qq2, qq3, Act.put, qq4, qq5, qq6]
  refine tkU 24 ?_
  try simp only [qq1, qq2, qq3, Act.put, qq4, qq5, qq6]
  refine tkU 25 ?_
  try simp only [qq1, qq2, qq3, Act.put, qq4, qq5, qq6]
  refine tkU 26 ?_
  try simp only [qq1, qq2, qq3, Act.put, qq4, qq5, qq6]
  refine tkU 27 ?_
  try simp only [qq1, qq2, qq3, Act.put, qq4, qq5, qq6]
  refine tkV 28 ?_
  try simp only [qq1, qq2, qq3, Act.put, qq4, qq5, qq6]
  refine tkV 29 ?_
  try simp only [qq1, qq2, qq3, Act.put, qq4, qq5, qq6]
  refine tkU 30 ?_
  try simp only [qq1, qq2, qq3, Act.put, qq4, qq5, qq6]
  refine tkU 31 ?_
  try simp only [qq1, qq2, qq3, Act.put, qq4, qq5, qq6]
  refine tkU 32 ?_
  try simp only [qq1, qq2, qq3, Act.put, qq4, qq5, qq6]
  refine tkU 33 ?_
  try simp only [qq1, qq2, qq3, Act.put, qq4, qq5, qq6]
  refine tkU 34 ?_
  try simp only [qq1, qq2, qq3, Act.put, qq4, qq5, qq6]
  refine tkV 35 ?_
  try simp only [qq1, qq2, qq3, Act.put, qq4, qq5, qq6]
  refine wpT_done (by kernel_rfl) ?_ _
  obtain ⟨x0, x1, x2, x3, x4, x5, x6, x7, HBF⟩ := hHeld
  have hbF := below_ext HBw.out HBF.out
  clear x0 x1 x2 x3 x4 x5 x6 x7
  go_wp2
  go_ret
  exact ⟨rfl, hbF⟩
def chkL (P Q G C : Int) (ys : List Int) (rows : List Row) (al zs : List Int) : Bool := validR P Q G ys rows && checkB P Q C ys rows al zs
theorem lcheck_w (P Q G : Int) (Y : Option Addr) (ys : List Int) (yn yc : Nat) (B : Option Addr) (rows : List Row) (bn bc : Nat) (A : Option Addr) (al : List Int) (na ca : Nat) (C : Int) (Z : Option Addr) (zs : List Int) (nz cz : Nat) (hyn : Hid (ys.length = yn)) (hbn : Hid (rows.length = bn)) (han : Hid (al.length = na)) (hzn : Hid (zs.length = nz)) (hna : na < 1000000) (hnz : nz < 1000000) (hQ : Q < 9223372036854775808) (r : Bool) (hr : Hid (chkL P Q G C ys rows al zs = r)) (w : World) (hv : Hid (Vars w)) (hY : Hid (Sl w Y ys)) (hB : Hid (Rw w B rows)) (hA : Hid (Sl w A al)) (hZ : Hid (Sl w Z zs)) :
    Calls Tryz.prog 208 #[gv P Q G, relV Y yn yc B bn bc, prvL A na ca C Z nz cz] w fun e' w' => e' = .returned (.bool r) ∧ Below w.heap.size w w' := by
  cases hg : validR P Q G ys rows with
  | false =>
    obtain rfl : r = false := by rw [← hr.out, chkL, hg]; rfl
    exact lcheckp_v P Q G Y ys yn yc B rows bn bc A al na ca C Z zs nz cz hyn hbn han hzn hna hnz hQ (Lib.hid hg) w hv hY hB hA hZ
  | true =>
    have he : bn = yn := by rw [← hbn.out, ← hyn.out]; exact (validR_parts hg).2.2.2.1
    subst he
    exact lcheckp_any P Q G Y ys bn yc B rows bc A al na ca C Z zs nz cz (Lib.hid hg) hyn hbn han hzn hna hnz hQ r (Lib.hid (by rw [← hr.out, chkL, hg]; rfl)) w hv hY hB hA hZ
theorem valid_okg {P Q G : Int} (h : validG P Q G = true) : okL [P, Q, G] := by
  obtain ⟨h1, h2, h3, h4⟩ := validG_P h
  have h5 : 2 ≤ G ∧ G < P := by simp [validG] at h; exact ⟨h.2.2.2.2.2.2.1, h.2.2.2.2.2.2.2.1⟩
  refine ⟨by simp, fun x hx => ?_⟩
  simp at hx
  rcases hx with rfl | rfl | rfl <;> omega
theorem mem_okL {P Q : Int} {l : List Int} (hP : P < 2305843009213693952) (h : l.all (memG P Q) = true) (hl : l.length ≤ 1000) : okL l :=
  ⟨hl, fun x hx => by
    have h1 := memG_lo (List.all_eq_true.1 h x hx)
    have h2 := memG_hi (List.all_eq_true.1 h x hx)
    omega⟩
theorem valid_ok {P Q G : Int} {ys : List Int} {rows : List Row} {w : World} {B : Option Addr} (h : validR P Q G ys rows = true) (hB : Rw w B rows) :
    okL [P, Q, G] ∧ okL ys ∧ ∀ k, k < rows.length → okL (rows.getD k noRow).xs := by
  obtain ⟨v1, v2, v3, v4, v5, v6, v7, v8⟩ := validR_parts h
  obtain ⟨h1, h2, h3, h4⟩ := validG_P v1
  refine ⟨valid_okg v1, mem_okL h2 v5 (by omega), fun k hk => ?_⟩
  have hr := rowAll_get v8 hk
  have hl := (hB k hk).2.1
  simp only [rowB, Bool.and_eq_true, decide_eq_true_eq] at hr
  exact mem_okL h2 hr.2 (by omega)
theorem sim_ok17 {P Q C : Int} {ys : List Int} {rows : List Row} {zs : List Int} (hP0 : 2 ≤ P) (hP : P < 2305843009213693952) (hl : rows.length ≤ 1000) : okL (simR P Q C ys rows zs) :=
  ⟨by rw [simR_length]; exact hl, fun x hx => by
    obtain ⟨i, _, rfl⟩ := List.mem_map.1 hx
    unfold simF
    have h1 := Int.emod_nonneg (prodF P 1 (rows.getD i noRow).xs zs * pw (ys.getD i 0) ((Q - C) % Q) P) (show P ≠ 0 by omega)
    have h2 := Int.emod_lt_of_pos (prodF P 1 (rows.getD i noRow).xs zs * pw (ys.getD i 0) ((Q - C) % Q) P) (show 0 < P by omega)
    omega⟩
def verL (P Q G C : Int) (lb ys : List Int) (rows : List Row) (al zs : List Int) : Bool := chkL P Q G C ys rows al zs && (labB lb && (chalV P Q G lb ys rows al == C))
set_option maxHeartbeats 6400000 in
theorem lver_f (P Q G : Int) (Y : Option Addr) (ys : List Int) (yn yc : Nat) (B : Option Addr) (rows : List Row) (bn bc : Nat) (A : Option Addr) (al : List Int) (na ca : Nat) (C : Int) (Z : Option Addr) (zs : List Int) (nz cz : Nat) (hyn : Hid (ys.length = yn)) (hbn : Hid (rows.length = bn)) (han : Hid (al.length = na)) (hzn : Hid (zs.length = nz)) (hna : na < 1000000) (hnz : nz < 1000000) (hQ : Q < 9223372036854775808) (s : ByteArray) (hs : s.size ≤ 1000) (HC : Hid (chkL P Q G C ys rows al zs = false)) (w : World) (hv : Hid (Vars w)) (hd : Hid (VarsD w)) (hY : Hid (Sl w Y ys)) (hB : Hid (Rw w B rows)) (hA : Hid (Sl w A al)) (hZ : Hid (Sl w Z zs)) :
    Calls Tryz.prog 147 #[gv P Q G, relV Y yn yc B bn bc, .string s, prvL A na ca C Z nz cz] w fun e' w' => e' = .returned (.bool false) ∧ Below w.heap.size w w' := by
  obtain ⟨w0, HW, HBw, kC⟩ := stz5 P Q G Y yn yc B bn bc A na ca C Z nz cz w
  have kV := Lib.hid (show ∀ u : World, Hid (Below w0.heap.size w0 u) → Hid (Vars u) from fun u h => Lib.hid ((hv.out.below) (below_ext HBw.out h.out)))
  have kY := Lib.hid (show ∀ u : World, Hid (Below w0.heap.size w0 u) → Hid (Sl u Y ys) from fun u h => Lib.hid ((hY.out.below) (below_ext HBw.out h.out)))
  have kB := Lib.hid (show ∀ u : World, Hid (Below w0.heap.size w0 u) → Hid (Rw u B rows) from fun u h => Lib.hid ((hB.out.below) (below_ext HBw.out h.out)))
  have kA := Lib.hid (show ∀ u : World, Hid (Below w0.heap.size w0 u) → Hid (Sl u A al) from fun u h => Lib.hid ((hA.out.below) (below_ext HBw.out h.out)))
  have kZ := Lib.hid (show ∀ u : World, Hid (Below w0.heap.size w0 u) → Hid (Sl u Z zs) from fun u h => Lib.hid ((hZ.out.below) (below_ext HBw.out h.out)))
  have kD := Lib.hid (show ∀ u : World, Hid (Below w0.heap.size w0 u) → Hid (VarsD u) from fun u h => Lib.hid ((hd.out.below) (below_ext HBw.out h.out)))
  have HB_0 : Hid (Below w0.heap.size w0 w0) := Lib.hid (Below.refl _ _)
  clear hv hY hB hA hZ hd
  go_enter Tryz.func147, Tryz.ntmps147
  go_wp2_with fail
  rw [HW.out]
  obtain ⟨zc0, zc1, zc2, zc3, zc4, zc5, zc6, zc7⟩ := kC.out _ HB_0
  go_wp2_with fail
  refine (lcheck_w P Q G Y ys yn yc B rows bn bc A al na ca C Z zs nz cz hyn hbn han hzn hna hnz hQ false HC _ (kV.out _ HB_0) (kY.out _ HB_0) (kB.out _ HB_0) (kA.out _ HB_0) (kZ.out _ HB_0)).mono ?_
  rintro e w1 ⟨rfl, hb0⟩
  have HB_1 := Lib.hid (below_ext HB_0.out hb0)
  clear zc0 zc1 zc2 zc3 zc4 zc5 zc6 zc7
  clear hb0
  obtain ⟨zc0, zc1, zc2, zc3, zc4, zc5, zc6, zc7⟩ := kC.out _ HB_1
  have hbF := below_ext HBw.out HB_1.out
  go_wp2
  go_ret
  exact ⟨rfl, hbF⟩
set_option maxHeartbeats 6400000 in
theorem lver_l (P Q G : Int) (Y : Option Addr) (ys : List Int) (yn yc : Nat) (B : Option Addr) (rows : List Row) (bn bc : Nat) (A : Option Addr) (al : List Int) (na ca : Nat) (C : Int) (Z : Option Addr) (zs : List Int) (nz cz : Nat) (hyn : Hid (ys.length = yn)) (hbn : Hid (rows.length = bn)) (han : Hid (al.length = na)) (hzn : Hid (zs.length = nz)) (hna : na < 1000000) (hnz : nz < 1000000) (hQ : Q < 9223372036854775808) (s : ByteArray) (hs : s.size ≤ 1000) (HC : Hid (chkL P Q G C ys rows al zs = true)) (hr : Hid (labB (bys s) = false)) (hb9 : bn ≤ 900) (w : World) (hv : Hid (Vars w)) (hd : Hid (VarsD w)) (hY : Hid (Sl w Y ys)) (hB : Hid (Rw w B rows)) (hA : Hid (Sl w A al)) (hZ : Hid (Sl w Z zs)) :
    Calls Tryz.prog 147 #[gv P Q G, relV Y yn yc B bn bc, .string s, prvL A na ca C Z nz cz] w fun e' w' => e' = .returned (.bool false) ∧ Below w.heap.size w w' := by
  obtain ⟨w0, HW, HBw, kC⟩ := stz5 P Q G Y yn yc B bn bc A na ca C Z nz cz w
  have kV := Lib.hid (show ∀ u : World, Hid (Below w0.heap.size w0 u) → Hid (Vars u) from fun u h => Lib.hid ((hv.out.below) (below_ext HBw.out h.out)))
  have kY := Lib.hid (show ∀ u : World, Hid (Below w0.heap.size w0 u) → Hid (Sl u Y ys) from fun u h => Lib.hid ((hY.out.below) (below_ext HBw.out h.out)))
  have kB := Lib.hid (show ∀ u : World, Hid (Below w0.heap.size w0 u) → Hid (Rw u B rows) from fun u h => Lib.hid ((hB.out.below) (below_ext HBw.out h.out)))
  have kA := Lib.hid (show ∀ u : World, Hid (Below w0.heap.size w0 u) → Hid (Sl u A al) from fun u h => Lib.hid ((hA.out.below) (below_ext HBw.out h.out)))
  have kZ := Lib.hid (show ∀ u : World, Hid (Below w0.heap.size w0 u) → Hid (Sl u Z zs) from fun u h => Lib.hid ((hZ.out.below) (below_ext HBw.out h.out)))
  have kD := Lib.hid (show ∀ u : World, Hid (Below w0.heap.size w0 u) → Hid (VarsD u) from fun u h => Lib.hid ((hd.out.below) (below_ext HBw.out h.out)))
  have HB_0 : Hid (Below w0.heap.size w0 w0) := Lib.hid (Below.refl _ _)
  clear hv hY hB hA hZ hd
  go_enter Tryz.func147, Tryz.ntmps147
  go_wp2_with fail
  rw [HW.out]
  obtain ⟨zc0, zc1, zc2, zc3, zc4, zc5, zc6, zc7⟩ := kC.out _ HB_0
  go_wp2_with fail
  refine (lcheck_w P Q G Y ys yn yc B rows bn bc A al na ca C Z zs nz cz hyn hbn han hzn hna hnz hQ true HC _ (kV.out _ HB_0) (kY.out _ HB_0) (kB.out _ HB_0) (kA.out _ HB_0) (kZ.out _ HB_0)).mono ?_
  rintro e w1 ⟨rfl, hb0⟩
  have HB_1 := Lib.hid (below_ext HB_0.out hb0)
  clear zc0 zc1 zc2 zc3 zc4 zc5 zc6 zc7
  clear hb0
  obtain ⟨zc0, zc1, zc2, zc3, zc4, zc5, zc6, zc7⟩ := kC.out _ HB_1
  go_wp2_with fail
  refine (lchal_bad P Q G Y ys yn yc B rows bn bc A al na ca s hs hr hbn hb9 _ (kB.out _ HB_1)).mono ?_
  rintro e w2 ⟨rfl, hb0⟩
  have HB_2 := Lib.hid (below_ext HB_1.out hb0)
  clear zc0 zc1 zc2 zc3 zc4 zc5 zc6 zc7
  clear hb0
  obtain ⟨zc0, zc1, zc2, zc3, zc4, zc5, zc6, zc7⟩ := kC.out _ HB_2
  have hbF := below_ext HBw.out HB_2.out
  go_wp2
  go_ret
  exact ⟨rfl, hbF⟩
set_option maxHeartbeats 6400000 in
theorem lver_o (P Q G : Int) (Y : Option Addr) (ys : List Int) (yn yc : Nat) (B : Option Addr) (rows : List Row) (bn bc : Nat) (A : Option Addr) (al : List Int) (na ca : Nat) (C : Int) (Z : Option Addr) (zs : List Int) (nz cz : Nat) (hyn : Hid (ys.length = yn)) (hbn : Hid (rows.length = bn)) (han : Hid (al.length = na)) (hzn : Hid (zs.length = nz)) (hna : na < 1000000) (hnz : nz < 1000000) (hQ : Q < 9223372036854775808) (s : ByteArray) (hs : s.size ≤ 1000) (HC : Hid (chkL P Q G C ys rows al zs = true)) (hr : Hid (labB (bys s) = true)) (hb9 : bn ≤ 900) (okg : Hid (okL [P, Q, G])) (oky : Hid (okL ys)) (oka : Hid (okL al)) (okr : Hid (∀ k, k < rows.length → okL (rows.getD k noRow).xs)) (hQ1 : 2 ≤ Q) (hQ2 : Q < 2305843009213693952) (V : Int) (HV : Kp (chalV P Q G (bys s) ys rows al = V)) (w : World) (hv : Hid (Vars w)) (hd : Hid (VarsD w)) (hY : Hid (Sl w Y ys)) (hB : Hid (Rw w B rows)) (hA : Hid (Sl w A al)) (hZ : Hid (Sl w Z zs)) :
    Calls Tryz.prog 147 #[gv P Q G, relV Y yn yc B bn bc, .string s, prvL A na ca C Z nz cz] w fun e' w' => e' = .returned (.bool (V == C)) ∧ Below w.heap.size w w' := by
  obtain ⟨w0, HW, HBw, kC⟩ := stz5 P Q G Y yn yc B bn bc A na ca C Z nz cz w
  have kV := Lib.hid (show ∀ u : World, Hid (Below w0.heap.size w0 u) → Hid (Vars u) from fun u h => Lib.hid ((hv.out.below) (below_ext HBw.out h.out)))
  have kY := Lib.hid (show ∀ u : World, Hid (Below w0.heap.size w0 u) → Hid (Sl u Y ys) from fun u h => Lib.hid ((hY.out.below) (below_ext HBw.out h.out)))
  have kB := Lib.hid (show ∀ u : World, Hid (Below w0.heap.size w0 u) → Hid (Rw u B rows) from fun u h => Lib.hid ((hB.out.below) (below_ext HBw.out h.out)))
  have kA := Lib.hid (show ∀ u : World, Hid (Below w0.heap.size w0 u) → Hid (Sl u A al) from fun u h => Lib.hid ((hA.out.below) (below_ext HBw.out h.out)))
  have kZ := Lib.hid (show ∀ u : World, Hid (Below w0.heap.size w0 u) → Hid (Sl u Z zs) from fun u h => Lib.hid ((hZ.out.below) (below_ext HBw.out h.out)))
  have kD := Lib.hid (show ∀ u : World, Hid (Below w0.heap.size w0 u) → Hid (VarsD u) from fun u h => Lib.hid ((hd.out.below) (below_ext HBw.out h.out)))
  have HB_0 : Hid (Below w0.heap.size w0 w0) := Lib.hid (Below.refl _ _)
  clear hv hY hB hA hZ hd
  go_enter Tryz.func147, Tryz.ntmps147
  go_wp2_with fail
  rw [HW.out]
  obtain ⟨zc0, zc1, zc2, zc3, zc4, zc5, zc6, zc7⟩ := kC.out _ HB_0
  go_wp2_with fail
  refine (lcheck_w P Q G Y ys yn yc B rows bn bc A al na ca C Z zs nz cz hyn hbn han hzn hna hnz hQ true HC _ (kV.out _ HB_0) (kY.out _ HB_0) (kB.out _ HB_0) (kA.out _ HB_0) (kZ.out _ HB_0)).mono ?_
  rintro e w1 ⟨rfl, hb0⟩
  have HB_1 := Lib.hid (below_ext HB_0.out hb0)
  clear zc0 zc1 zc2 zc3 zc4 zc5 zc6 zc7
  clear hb0
  obtain ⟨zc0, zc1, zc2, zc3, zc4, zc5, zc6, zc7⟩ := kC.out _ HB_1
  go_wp2_with fail
  refine (lchal_ok P Q G Y ys yn yc B rows bn bc A al na ca s hs hr hyn hbn han hb9 okg oky oka okr hQ1 hQ2 V HV _ (kD.out _ HB_1) (kY.out _ HB_1) (kB.out _ HB_1) (kA.out _ HB_1)).mono ?_
  rintro e w2 ⟨rfl, hb0⟩
  have HB_2 := Lib.hid (below_ext HB_1.out hb0)
  clear zc0 zc1 zc2 zc3 zc4 zc5 zc6 zc7
  clear hb0
  obtain ⟨zc0, zc1, zc2, zc3, zc4, zc5, zc6, zc7⟩ := kC.out _ HB_2
  have hbF := below_ext HBw.out HB_2.out
  go_wp2
  go_ret
  exact ⟨rfl, hbF⟩
theorem lver_any (P Q G : Int) (Y : Option Addr) (ys : List Int) (yn yc : Nat) (B : Option Addr) (rows : List Row) (bn bc : Nat) (A : Option Addr) (al : List Int) (na ca : Nat) (C : Int) (Z : Option Addr) (zs : List Int) (nz cz : Nat) (hyn : Hid (ys.length = yn)) (hbn : Hid (rows.length = bn)) (han : Hid (al.length = na)) (hzn : Hid (zs.length = nz)) (hna : na < 1000000) (hnz : nz < 1000000) (hQ : Q < 9223372036854775808) (s : ByteArray) (hs : s.size ≤ 1000) (r : Bool) (hr : Kp (verL P Q G C (bys s) ys rows al zs = r)) (w : World) (hv : Hid (Vars w)) (hd : Hid (VarsD w)) (hY : Hid (Sl w Y ys)) (hB : Hid (Rw w B rows)) (hA : Hid (Sl w A al)) (hZ : Hid (Sl w Z zs)) :
    Calls Tryz.prog 147 #[gv P Q G, relV Y yn yc B bn bc, .string s, prvL A na ca C Z nz cz] w fun e' w' => e' = .returned (.bool r) ∧ Below w.heap.size w w' := by
  cases hc : chkL P Q G C ys rows al zs with
  | false =>
    obtain rfl : r = false := by rw [← hr.1, verL, hc]; rfl
    exact lver_f P Q G Y ys yn yc B rows bn bc A al na ca C Z zs nz cz hyn hbn han hzn hna hnz hQ s hs (Lib.hid hc) w hv hd hY hB hA hZ
  | true =>
    have hcc := hc
    simp only [chkL, Bool.and_eq_true] at hcc
    obtain ⟨hg, hcb⟩ := hcc
    obtain ⟨v1, v2, v3, v4, v5, v6, v7, v8⟩ := validR_parts hg
    obtain ⟨p1, p2, p3, p4⟩ := validG_P v1
    obtain ⟨okg, oky, okr⟩ := valid_ok hg hB.out
    have hb9 : bn ≤ 900 := by rw [← hbn.out]; omega
    have oka : okL al := by rw [← (checkB_parts hcb).2.2.2.2]; exact sim_ok17 p1 p2 (by omega)
    cases hlb : labB (bys s) with
    | false =>
      obtain rfl : r = false := by rw [← hr.1, verL, hlb, Bool.false_and, Bool.and_false]
      exact lver_l P Q G Y ys yn yc B rows bn bc A al na ca C Z zs nz cz hyn hbn han hzn hna hnz hQ s hs (Lib.hid hc) (Lib.hid hlb) hb9 w hv hd hY hB hA hZ
    | true =>
      obtain ⟨V, hV⟩ : ∃ V, chalV P Q G (bys s) ys rows al = V := ⟨_, rfl⟩
      obtain rfl : (V == C) = r := by rw [← hr.1, verL, hc, hlb, hV]; rfl
      exact lver_o P Q G Y ys yn yc B rows bn bc A al na ca C Z zs nz cz hyn hbn han hzn hna hnz hQ s hs (Lib.hid hc) (Lib.hid hlb) hb9 (Lib.hid okg) (Lib.hid oky) (Lib.hid oka) (Lib.hid okr) (by omega) (by omega) V ⟨hV⟩ w hv hd hY hB hA hZ
theorem lab_pos {s : ByteArray} (h : labB (bys s) = true) : 1 ≤ s.size := by
  rw [labB, bys_len] at h
  simp at h
  exact h.1.1
theorem frame_fits {h : List Int} (hl : h.length = 32) (hb : bytesB h = true) {s : ByteArray} (hs0 : 1 ≤ s.size) (hs : s.size ≤ 1000) {item : It} (hf : fits 7 item) : fits 8 (.lst [.byt h, .byt (bys s), item]) := by
  refine ⟨by simp, fun x hx => ?_⟩
  rcases (by simpa using hx : x = .byt h ∨ x = .byt (bys s) ∨ x = item) with rfl | rfl | rfl
  · exact ⟨⟨by rw [hl]; decide, by rw [hl]; decide⟩, hb⟩
  · exact ⟨⟨by rw [bys_len]; omega, by rw [bys_len]; omega⟩, bys_bytes s⟩
  · exact hf
theorem frame_fits0 {h : List Int} (hl : h.length = 32) (hb : bytesB h = true) {s : ByteArray} (hs0 : 1 ≤ s.size) (hs : s.size ≤ 1000) : fits 8 (.lst [.byt h, .byt (bys s)]) := by
  refine ⟨by simp, fun x hx => ?_⟩
  rcases (by simpa using hx : x = .byt h ∨ x = .byt (bys s)) with rfl | rfl
  · exact ⟨⟨by rw [hl]; decide, by rw [hl]; decide⟩, hb⟩
  · exact ⟨⟨by rw [bys_len]; omega, by rw [bys_len]; omega⟩, bys_bytes s⟩
theorem frame_len {h : List Int} (hl : h.length = 32) {s : ByteArray} (hs : s.size ≤ 1000) {item : It} (hle : (enc item).length ≤ 14000) : (enc (.lst [.byt h, .byt (bys s), item])).length ≤ 16384 := by
  rw [enc_lst]
  simp only [encL, enc_byt, List.length_cons, List.length_append, be4_len, hl, bys_len, List.length_nil]
  omega
theorem frame_len0 {h : List Int} (hl : h.length = 32) {s : ByteArray} (hs : s.size ≤ 1000) : (enc (.lst [.byt h, .byt (bys s)])).length ≤ 16384 := by
  rw [enc_lst]
  simp only [encL, enc_byt, List.length_cons, List.length_append, be4_len, hl, bys_len, List.length_nil]
  omega
theorem yields_built {P : Program} {S : World → Prop} {o : Oper} {a : Act} (t : TypeId) (l : List (Nat × Operand)) (ho : o.op = .build t l.toArray) (cells : Array Value)
    (hf : P.built t (l.map fun x => (x.1, a.eval x.2)) = some cells) : ∀ w, S w → (execOp a.eval o).run P w = .ok (.value (.agg cells)) w := by
  intro w _
  have e : (l.toArray.map fun (x : Nat × Operand) => (x.1, a.eval x.2)).toList = l.map fun x => (x.1, a.eval x.2) := by simp
  unfold execOp
  simp only [ho]
  have h := run_build w t (l.toArray.map fun (x : Nat × Operand) => (x.1, a.eval x.2)) cells (by rw [e]; exact hf)
  simp only [Sem.run_bind, h, Result.andThen_ok, Sem.run_pure]
set_option maxHeartbeats 6400000 in
theorem rabsorb_ok (h : List Int) (hl : Hid (h.length = 32)) (hb : Hid (bytesB h = true)) (c : Int) (hc0 : 0 ≤ c) (hc1 : c < 1000) (s : ByteArray) (hs : s.size ≤ 1000) (hr : Hid (labB (bys s) = true)) (item : It) (cI : Ic) (w : World) (hI : Hid (ItR w item cI)) (hfi : Hid (fits 7 item)) (hle : Hid ((enc item).length ≤ 14000)) :
    Calls Tryz.prog 271 #[.agg (tcs h c), .string s, .agg #[.int .i64 cI.kind, .int .i64 cI.n, .slice cI.B cI.nb cI.cb, .slice cI.L cI.nl cI.cl]] w fun e w' => e = .returned (TrE (abL h (bys s) item) (c + 1) 0) ∧ Below w.heap.size w w' := by
  have hs0 : 1 ≤ s.size := lab_pos hr.out
  obtain ⟨W, hW⟩ : ∃ W, ((w.alloc (.cells (tcs h c) 204)).alloc (.cells #[.int .i64 cI.kind, .int .i64 cI.n, .slice cI.B cI.nb cI.cb, .slice cI.L cI.nl cI.cl] 148)).alloc (.cells #[.int .u8 0, .int .u8 0, .int .u8 0, .int .u8 0, .int .u8 0, .int .u8 0, .int .u8 0, .int .u8 0, .int .u8 0, .int .u8 0, .int .u8 0, .int .u8 0, .int .u8 0, .int .u8 0, .int .u8 0, .int .u8 0, .int .u8 0, .int .u8 0, .int .u8 0, .int .u8 0, .int .u8 0, .int .u8 0, .int .u8 0, .int .u8 0, .int .u8 0, .int .u8 0, .int .u8 0, .int .u8 0, .int .u8 0, .int .u8 0, .int .u8 0, .int .u8 0, .int .i64 0] 204) = W := ⟨_, rfl⟩
  have HBX : Hid (Below w.heap.size w W) := Lib.hid (by rw [← hW]; exact below_ext (below_two (Below.refl _ _)) (below_box0 _ _))
  have HT0 : Hid (TBlk W w.heap.size h c) := Lib.hid (by rw [← hW]; exact ((TBlk.new _ _ _).below (below_box0 _ _)).below (below_box0 _ _))
  have HIB : Hid (W.heap[w.heap.size + 1]? = some (.cells #[.int .i64 cI.kind, .int .i64 cI.n, .slice cI.B cI.nb cI.cb, .slice cI.L cI.nl cI.cl] 148 (0, 0))) := Lib.hid (by rw [← hW, ← (show (w.alloc (.cells (tcs h c) 204)).heap.size = w.heap.size + 1 by simp)]; exact heap_alloc2_old _ _ _)
  have HR0 : Hid (TBlk W (w.heap.size + 1 + 1) (zer 32) 0) := Lib.hid (by rw [← hW, ztr, show w.heap.size + 1 + 1 = (w.alloc (.cells (tcs h c) 204)).heap.size + 1 by simp]; exact heap_alloc2_new _ _ _)
  have HSZ : Hid (W.heap.size = w.heap.size + 3) := Lib.hid (by rw [← hW]; simp)
  have HII := Lib.hid (hI.out.kept HBX.out)
  have HF0 : Hid (Four W (w.heap.size + 1) 0 cI) := Lib.hid (four_cells HIB.out)
  have HW := Lib.hid hW
  clear hW
  go_enter Tryz.func271, Tryz.ntmps271
  go_upto_region 1 with (fail)
  rw [HW.out]
  clear HW
  go_wp2_with ((with_reducible show wpList _ _ _ (⟨some 10, _, _, _, _, _⟩ :: _) _ _); refine wpList_load_row rfl 204 _ rfl w.heap.size rfl _ _ _ _ HT0.out Tryz.underlying204 rfl (tr_info hl.out) ?_)
  refine (rtvalid_any h hl c hc0 (by omega) _).mono ?_
  rintro e w1 ⟨rfl, hb1⟩
  have HB1 := Lib.hid (below_ext HBX.out hb1)
  have HT1 := Lib.hid (HT0.out.below hb1)
  have HI1 := Lib.hid (HII.out.kept hb1)
  have HR1 := Lib.hid (HR0.out.below hb1)
  have HF1 := Lib.hid (HF0.out.below hb1)
  clear hb1 HT0 HII HR0 HIB HBX HF0
  go_wp2_with fail
  refine (rlabel_any s hs true hr _).mono ?_
  rintro e w2 ⟨rfl, rfl⟩
  obtain ⟨f0, f1, f2, f3⟩ := HF1.out
  go_wp2_with ((with_reducible show wpList _ _ _ (⟨some 19, _, _, _, _, _⟩ :: _) _ _); refine wpList_load_row rfl 204 _ rfl w.heap.size rfl _ _ _ _ HT1.out Tryz.underlying204 rfl (tr_info hl.out) ?_)
  clear f0 f1 f2 f3
  obtain ⟨W3, hW3⟩ : ∃ u, w1.alloc (.cells #[.int .i64 cI.kind, .int .i64 cI.n, .slice cI.B cI.nb cI.cb, .slice cI.L cI.nl cI.cl] 148) = u := ⟨_, rfl⟩
  have HF3 : Hid (Four W3 w1.heap.size 0 cI) := Lib.hid (by rw [← hW3]; exact four_cells (heap_alloc_new _ _))
  have hb3 : Below w1.heap.size w1 W3 := by rw [← hW3]; exact below_box0 _ _
  rw [hW3]
  have HI3 := Lib.hid (HI1.out.kept hb3)
  refine (rframe1 h hl hb c s hs0 hs item cI w1.heap.size 1 W3 HF3 HI3).mono ?_
  rintro e w4 ⟨cf, rfl, hcf, hb4⟩
  have HT4 := Lib.hid ((HT1.out.below hb3).below hb4)
  have HR4 := Lib.hid ((HR1.out.below hb3).below hb4)
  have HB4 := Lib.hid (below_ext (below_ext HB1.out hb3) hb4)
  have HC4 := Lib.hid hcf
  rw [show cf.val = .agg cf.cs from rfl]
  clear hb3 hb4 hW3 HF3 HI3 HT1 HR1 HB1 HF1 HI1 hcf
  go_upto_region 4 with ((with_reducible show wpList _ _ _ (⟨none, _, _, _, _, _⟩ :: _) _ _); refine wpList_store_row rfl 148 _ _ rfl w4.heap.size cf.cs rfl rfl _ _ (heap_alloc_new _ _) (ic_info _) rfl (ic_one _) ?_)
  rw [World.setRow_alloc_new]
  try simp only [Act.put]
  have HK5 : Hid ((w4.alloc (.cells cf.cs 148)).heap[w4.heap.size]? = some (.cells cf.cs 148 (0, 0))) := Lib.hid (heap_alloc_new _ _)
  have HT5 := Lib.hid (HT4.out.below (below_box0 w4 (.cells cf.cs 148)))
  have HR5 := Lib.hid (HR4.out.below (below_box0 w4 (.cells cf.cs 148)))
  have HB5 := Lib.hid (below_ext HB4.out (below_box0 w4 (.cells cf.cs 148)))
  have HC5 := Lib.hid (HC4.out.kept (below_box0 w4 (.cells cf.cs 148)))
  have HZ5 : Hid (w4.heap.size < (w4.alloc (.cells cf.cs 148)).heap.size) := Lib.hid (by simp)
  obtain ⟨W5, hW5⟩ : ∃ u, w4.alloc (.cells cf.cs 148) = u := ⟨_, rfl⟩
  rw [hW5] at HK5 HT5 HR5 HB5 HC5 HZ5 ⊢
  clear hW5 HT4 HR4 HB4 HC4
  obtain ⟨bt, hbt⟩ : ∃ b, w4.heap.size = b := ⟨_, rfl⟩
  rw [hbt] at HK5 HZ5 ⊢
  clear hbt
  go_wp2_with ((with_reducible show wpList _ _ _ (⟨some 24, _, _, _, _, _⟩ :: _) _ _); refine wpList_load_row rfl 148 _ rfl bt rfl _ _ _ _ HK5.out Tryz.underlying148 rfl (ic_info _) ?_)
  have HFIT : Hid (fits 8 (.lst [.byt h, .byt (bys s), item])) := Lib.hid (frame_fits hl.out hb.out hs0 hs hfi.out)
  have HLEN : Hid ((enc (.lst [.byt h, .byt (bys s), item])).length ≤ 16384) := Lib.hid (frame_len hl.out hs hle.out)
  rw [show (Value.agg cf.cs) = cf.val from rfl]
  refine (rvalid07_any _ cf _ HFIT.out HC5.out).mono ?_
  rintro e w6 ⟨rfl, hb6⟩
  have HT6 := Lib.hid (HT5.out.below hb6)
  have HR6 := Lib.hid (HR5.out.below hb6)
  have HB6 := Lib.hid (below_ext HB5.out hb6)
  have HC6 := Lib.hid (HC5.out.kept hb6)
  have HK6 := Lib.hid ((hb6.block _ HZ5.out).trans HK5.out)
  clear hb6 HT5 HR5 HB5 HC5 HK5 HZ5
  rw [show cf.val = .agg cf.cs from rfl]
  go_wp2_with ((with_reducible show wpList _ _ _ (⟨some 28, _, _, _, _, _⟩ :: _) _ _); refine wpList_load_row rfl 148 _ rfl bt rfl _ _ _ _ HK6.out Tryz.underlying148 rfl (ic_info _) ?_)
  rw [show (Value.agg cf.cs) = cf.val from rfl]
  refine (renc_any 8 _ cf _ HFIT.out HC6.out HLEN.out).mono ?_
  rintro e w7 ⟨v7, rfl, ho7, hb7⟩
  obtain ⟨E, hE⟩ : ∃ E, enc (.lst [.byt h, .byt (bys s), item]) = E := ⟨_, rfl⟩
  have HEB : Hid (bytesB E = true) := Lib.hid (by rw [← hE]; exact enc_bytes HFIT.out)
  have HEL : Hid (0 < E.length ∧ E.length ≤ 16384) := Lib.hid (by rw [← hE]; exact ⟨enc_pos _, HLEN.out⟩)
  rw [hE] at ho7
  obtain ⟨g7, cap7, e7, hg7, -, -, hsk7⟩ := ho7.cells HEL.out.1
  obtain ⟨n7, hn7⟩ : ∃ n, E.length = n := ⟨_, rfl⟩
  rw [hn7] at e7 HEL
  subst e7
  have HN7 := Lib.hid hn7
  have HS7 := Lib.hid hsk7
  have HT7 := Lib.hid (HT6.out.below hb7)
  have HR7 := Lib.hid (HR6.out.below hb7)
  have HB7 := Lib.hid (below_ext HB6.out hb7)
  have HEE : Kp (enc (.lst [.byt h, .byt (bys s), item]) = E) := ⟨hE⟩
  clear hE hsk7 ho7 hb7 hn7 HFIT HLEN HT6 HR6 HB6 HC6 HK6
  rw [show cf.val = .agg cf.cs from rfl]
  obtain ⟨he0, he1⟩ := HEL.out
  have hcn : ¬ (c = 1000) := by omega
  have hwr : IntKind.i64.wrap (c + 1) = c + 1 := IntWalk.i64_in _ (by omega)
  have hnb : decide ((16384 : Int) < (n7 : Int)) = false := by simp; omega
  have hcnt := HT7.out.count hl.out
  go_wp2_with fail
  clear hcnt
  refine wp_region_T (S := fun w' => w'.cell? ⟨w.heap.size, 32, none⟩ = some (.int .i64 c)) (E := [6, 7]) (by kernel_rfl) (((HT7.out.below (Below.refl _ _).drew)).count hl.out) (fun hHeld => ?_)
  refine tkV 0 ?_
  try simp only [qq1, qq2, qq3, Act.put, qq4, qq5, qq6]
  refine tkV 2 ?_
  try simp only [qq1, qq2, qq3, Act.put, qq4, qq5, qq6]
  refine tkV 3 ?_
  try simp only [qq1, qq2, qq3, Act.put, qq4, qq5, qq6]
  refine tkV 4 ?_
  try simp only [qq1, qq2, qq3, Act.put, qq4, qq5, qq6]
  refine wpT_one (i := 1) (by kernel_rfl) rfl (fun K hK => ?_)
  go_simp
  refine (rtagged_any tagAb (by decide) (by decide) g7 0 cap7 E n7 HN7 he0 (by omega) HEB _ (Lib.hid (HS7.out.below (Below.refl _ _).drew))).mono ?_
  rintro e w8 ⟨rfl, hb8⟩
  have HR8 := Lib.hid ((HR7.out.below (Below.refl _ _).drew).below hb8)
  have HT8 := Lib.hid ((HT7.out.below (Below.refl _ _).drew).below hb8)
  have HB8 := Lib.hid (below_ext (below_ext HB7.out (Below.refl _ _).drew) hb8)
  obtain ⟨R, hR⟩ : ∃ R, tagged (bys tagAb) E = R := ⟨_, rfl⟩
  have hRl : R.length = 32 := by rw [← hR]; exact tagged_len _ _
  have HNN : Kp (abL h (bys s) item = R) := ⟨by rw [abL, HEE.1]; exact hR⟩
  have HRL := Lib.hid hRl
  rw [hR]
  clear hR hRl
  refine hK.out _ _ ?_ (fun hHeld => ?_)
  · exact HT8.out.count hl.out
  clear hK K
  try simp only [qq1, qq2, qq3, Act.put, qq4, qq5, qq6]
  refine wpT_take (i := 5) (oi := _) (v := (.agg (tcs R (c + 1)))) rfl (by kernel_rfl) (by kernel_rfl) (by kernel_rfl) (by kernel_rfl) (fun _ _ _ h => h) (Or.inl ⟨by rfl, yields_built 204 _ rfl _ (built2 R HRL.out (c + 1))⟩) (by assumption) ?_
  try simp only [qq1, qq2, qq3, Act.put, qq4, qq5, qq6]
  refine wpT_pass (i := 6) (by kernel_rfl) (by simp) rfl (fun K hK => ?_)
  rw [show (if Region.wanted _ _ = true then _ else _ : Prop) = _ from if_pos rfl]
  refine wp_store_row 204 _ _ rfl (w.heap.size + 1 + 1) (tcs R (c + 1)) rfl rfl 204 _ HR8.out (tr_info HRL.out) (tcs_sz rfl HRL.out) (tcs_one _ _) ?_
  refine hK.out _ _ ?_
  clear hK K
  try simp only [qq1, qq2, qq3, Act.put, qq4, qq5, qq6]
  refine wpT_pass (i := 7) (by kernel_rfl) (by simp) rfl (fun K hK => ?_)
  go_simp
  refine hK.out _ _ ?_
  clear hK K
  try simp only [qq1, qq2, qq3, Act.put, qq4, qq5, qq6]
  refine wpT_done (by kernel_rfl) ?_ _
  have HRR : Hid (TBlk (w8.setRow (w.heap.size + 1 + 1) (tcs R (c + 1))) (w.heap.size + 1 + 1) R (c + 1)) := Lib.hid HR8.out.setRow
  have HBF : Below w.heap.size w (w8.setRow (w.heap.size + 1 + 1) (tcs R (c + 1))) := below_setRow' HB8.out (by omega)
  go_wp2
  exact bodyPost_ret (v := TrE R (c + 1) 0) (results_cell_tmp2 (p := 6) (q := 7) (ty := 204) rfl _ _ ⟨w.heap.size + 1 + 1, 0, none⟩ _ _ rfl rfl (run_loadVar_row _ _ _ _ _ _ _ HRR.out Tryz.underlying204 rfl (tr_info HRL.out))) rfl ⟨by rw [HNN.1], HBF⟩
end Go.Proofs.YtjnoaejikapmdaaGreatDoor
