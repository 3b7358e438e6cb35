/- Contracts and lemmas: RdgC, RdgD, RdgE, DigG, TrB, TrC, TrD, TrE, TrF, LcA, LinD, LinE, LinF. -/
import Derived.Laws.AppendOwnNone
import Derived.Deep.RegionHeld3
import Derived.Deep.AppendLies
import Derived.Test.YtojedhnglobddaaGreatDoorEr3
namespace Go.Proofs.YtojedhnglobddaaGreatDoor
open Go.RowKit SpM
set_option linter.unusedVariables false
set_option linter.unusedSimpArgs false
set_option maxRecDepth 100000
theorem Sk.set_ne {K : IntKind} {w : World} {a j : Nat} {A : Option Addr} {l : List Int} {v : Value} (h : Sk K w A l) (hne : ∀ b o, A = some ⟨b, o, none⟩ → b ≠ a) : Sk K (w.setCell ⟨a, j, none⟩ v) A l := fun i hi => by
  obtain ⟨b, o, e, hc⟩ := h i hi
  refine ⟨b, o, e, ?_⟩
  rw [World.cell?_setCell_other _ _ _ _ (fun e2 => hne b o e (by cases e2; rfl))]
  exact hc
theorem out_get2 (s : St) (i : Nat) (hi : i < 32) : (outL s).getD i 0 = s.list.getD (i / 4) 0 / 2 ^ (24 - 8 * (i % 4)) % 256 := by
  have h := out_get s (i / 4) (by omega) (i % 4) (by omega)
  rwa [show 4 * (i / 4) + i % 4 = i by omega] at h
theorem sbA_eq (e : Int) : bits .xor .u32 (bits .xor .u32 (rotr e 2) (rotr e 13)) (rotr e 22) = sbA e := rfl
theorem maA_eq (a b c : Int) : bits .xor .u32 (bits .xor .u32 (bits .and .u32 a b) (bits .and .u32 a c)) (bits .and .u32 b c) = maA a b c := rfl
theorem ry_eq (a b c : Int) : (sbA a + maA a b c) % 4294967296 = ryy a b c := rfl
set_option maxHeartbeats 6400000 in
theorem rsum_any (b o c : Nat) (l : List Int) (n : Nat) (hn : Hid (l.length = n)) (hn0 : 0 < n) (hbig : n ≤ 1000000) (hby : Hid (bytesB l = true)) (w : World) (hs : Hid (Sk .u8 w (some ⟨b, o, none⟩) l)) :
    Calls Tryz.prog 199 #[.slice (some ⟨b, o, none⟩) n c] w fun e w' => e = .returned (.agg (arr .u8 (sha l))) ∧ Below w.heap.size w w' := by
  obtain ⟨i0, hi, hz0, hz1, hz2⟩ := info_parts u32Info
  obtain ⟨W, hW⟩ : ∃ W, w.alloc (.cells #[.int .u8 0, .int .u8 0, .int .u8 0, .int .u8 0, .int .u8 0, .int .u8 0, .int .u8 0, .int .u8 0, .int .u8 0, .int .u8 0, .int .u8 0, .int .u8 0, .int .u8 0, .int .u8 0, .int .u8 0, .int .u8 0, .int .u8 0, .int .u8 0, .int .u8 0, .int .u8 0, .int .u8 0, .int .u8 0, .int .u8 0, .int .u8 0, .int .u8 0, .int .u8 0, .int .u8 0, .int .u8 0, .int .u8 0, .int .u8 0, .int .u8 0, .int .u8 0] 60) = W := ⟨_, rfl⟩
  have HBX : Hid (Below w.heap.size w W) := Lib.hid (by rw [← hW]; exact below_box0 _ _)
  have HR0 : Hid (Blk .u8 60 W w.heap.size (zer 32)) := Lib.hid (by
    rw [← hW, zarrh]
    exact Blk.new _ _)
  have HSZ : Hid (W.heap.size = w.heap.size + 1) := Lib.hid (by rw [← hW]; simp)
  obtain ⟨W1, hW1⟩ : ∃ u, W.alloc (.cells #[.int .u32 1779033703, .int .u32 3144134277, .int .u32 1013904242, .int .u32 2773480762, .int .u32 1359893119, .int .u32 2600822924, .int .u32 528734635, .int .u32 1541459225] 211) = u := ⟨_, rfl⟩
  have HB1 : Hid (Below W.heap.size W W1) := Lib.hid (by rw [← hW1]; exact below_box0 _ _)
  have HH1 : Hid (Blk .u32 211 W1 W.heap.size st0.list) := Lib.hid (by
    rw [← hW1]
    exact Blk.new W st0.list)
  have HSZ1 : Hid (W1.heap.size = W.heap.size + 1) := Lib.hid (by rw [← hW1]; simp)
  have HS := Lib.hid ((hs.out.below HBX.out).below HB1.out)
  have HW := Lib.hid hW
  have HW1 := Lib.hid hW1
  clear hW hW1 hs
  go_enter Tryz.func199, Tryz.ntmps199
  go_wp2_with fail
  rw [HW.out, HW1.out]
  refine (rconst_any _).mono ?_
  rintro e w2 ⟨rfl, hw2⟩
  have HB2 : Hid (Below W1.heap.size W1 w2) := Lib.hid (by rw [← hw2]; exact below_box0 _ _)
  have HK2 : Hid (Blk .u32 211 w2 W1.heap.size KL) := Lib.hid (by rw [← hw2]; exact Blk.new _ _)
  have HSZ2 : Hid (w2.heap.size = W1.heap.size + 1) := Lib.hid (by rw [← hw2]; simp)
  clear hw2 HW HW1
  go_wp2_with fail
  refine (rpadded_any b o c l n hn hn0 hbig _ (Lib.hid (HS.out.below HB2.out))).mono ?_
  rintro e w3 ⟨vp, rfl, hop, hb3⟩
  obtain ⟨M, hM⟩ : ∃ M, (padL l).length = 64 * M := ⟨(padL l).length / 64, by have := padL_mod l; omega⟩
  have hM2 : 64 * M ≤ n + 200 := by rw [padL_len, hn.out, padZ] at hM; omega
  obtain ⟨gp, capp, e4, hgp, hcap, hcapm, hskp⟩ := hop.cells (by rw [padL_len]; omega)
  rw [hM] at e4 hcap
  subst e4
  obtain ⟨P, hP⟩ : ∃ P, padL l = P := ⟨_, rfl⟩
  have hPb : bytesB P = true := by rw [← hP]; exact padL_bytes hby.out
  rw [hP] at hskp hM
  have HP : Kp (padL l = P) := ⟨hP⟩
  have HM := Lib.hid hM
  have HPB := Lib.hid hPb
  have HSP := Lib.hid hskp
  have HB3 := Lib.hid hb3
  have hcm : capp ≤ 9223372036854775807 := by simpa [maxLen] using hcapm
  have HH3 := Lib.hid ((HH1.out.below HB2.out).below HB3.out)
  have HK3 := Lib.hid (HK2.out.below HB3.out)
  have HBW := Lib.hid (below_ext (below_ext HB1.out HB2.out) HB3.out)
  obtain ⟨bk, hbk⟩ : ∃ g, W1.heap.size = g := ⟨_, rfl⟩
  have hbkh : W.heap.size < bk := by have := HSZ1.out; omega
  have hgpk : bk < gp := by have := HSZ2.out; omega
  rw [hbk] at HK3 ⊢
  obtain ⟨bh, hbh⟩ : ∃ g, w.heap.size + 1 = g := ⟨_, rfl⟩
  rw [HSZ.out, hbh] at HH3 hbkh
  rw [hbh]
  have HBH : Hid (W.heap.size = bh) := Lib.hid (HSZ.out.trans hbh)
  clear hP hM hPb hskp hb3 hop hcapm hbk hbh HB1 HH1 HB2 HK2 HB3 HS
  go_wp2
  go_loopw [6] (fun i u => ∃ (k : Nat), k ≤ M ∧ i = .int .i64 (64 * (k : Int)) ∧ Hid (Blk .u32 211 u bh (shaSt P k).list) ∧ Hid (Blk .u32 211 u bk KL) ∧ Hid (Sk .u8 u (some ⟨gp, 0, none⟩) P) ∧ Hid (Below W.heap.size W u)) (fun i _ => 64 * M - (intOf i).toNat)
  case atStart => exact ⟨0, by omega, by simp, HH3, HK3, HSP, HBW⟩
  case round =>
    obtain ⟨k, hk, rfl, HH, HK, HSp, HBr⟩ := hrel
    by_cases hkM : k < M
    · obtain ⟨⟨xa, xb, xc, xd, xe, xf, xg, xh⟩, hS⟩ : ∃ T, shaSt P k = T := ⟨_, rfl⟩
      rw [hS] at HH
      have HSS : Kp (shaSt P k = ⟨xa, xb, xc, xd, xe, xf, xg, xh⟩) := ⟨hS⟩
      have HBLK : Hid ((blockOf P k).length = 64) := Lib.hid (blockOf_len (by have := HM.out; omega))
      have HBB : Hid (bytesB (blockOf P k) = true) := Lib.hid (blockOf_bytes HPB.out k)
      have HSb : Hid (Sk .u8 wr (some ⟨gp, 64 * k, none⟩) (blockOf P k)) := Lib.hid (by
        have h := (HSp.out.drop (n := 64 * k)).take (n := 64)
        rwa [Nat.zero_add] at h)
      have c1 : (64 * (k : Int)).toNat = 64 * k := by omega
      have c2 : (64 * (k : Int) + 64).toNat = 64 * k + 64 := by omega
      clear hS
      go_wp2_with fail
      refine (rwords_any gp (64 * k) (capp - 64 * k) (blockOf P k) HBLK HBB _ HSb (by omega)).mono ?_
      rintro e w4 ⟨vw, rfl, how, hb4⟩
      obtain ⟨gw, capw, rfl, hgw, -, -, hskw⟩ := how.cells (by rw [schedL_len]; decide)
      rw [schedL_len]
      obtain ⟨ws, hws⟩ : ∃ l, schedL (blockOf P k) = l := ⟨_, rfl⟩
      have HWL : Hid (ws.length = 64) := Lib.hid (by rw [← hws, schedL_len])
      have HWS : Kp (schedL (blockOf P k) = ws) := ⟨hws⟩
      rw [hws] at hskw
      have HSW := Lib.hid hskw
      have HH4 := Lib.hid (HH.out.below hb4)
      have HK4 := Lib.hid (HK.out.below hb4)
      have HSp4 := Lib.hid (HSp.out.below hb4)
      have HB4 := Lib.hid (below_ext HBr.out hb4)
      have hbz : bh < w4.heap.size := HH4.out.lt
      clear hws hskw how hb4 HH HK HSp HBr HSb HBLK HBB
      have hown : (w4.alloc (.cells #[] 211)).ownsRow w4.heap.size 211 1 (.slice (some ⟨w4.heap.size, 0, none⟩) 0 0) 0 [] := ownK_empty (K := .u32) w4
      go_wp2_with (at_builtin; refine wpList_append_own _ rfl _ _ 176 rfl w4.heap.size 211 i0 (.int .u32 0) 1 4 Tryz.underlying176 hi hz0 hz1 hz2 rfl (by decide) _ _ _ rfl hown ⟨bh, 0, none⟩ 8 8 ((St.mk xa xb xc xd xe xf xg xh).list.map (.int .u32)) rfl rfl ((HH4.out.old (.cells #[] 211)).sk.news) (ints_oneCell .u32 _) (by decide) (by decide) (by simp) ?_; intro v5 w5 hown5 hgrow5 _)
      have HO5 : Hid (OwnK .u32 211 w5 w4.heap.size v5 (St.mk xa xb xc xd xe xf xg xh).list) := Lib.hid (OwnK.app (xs := []) (ys := (St.mk xa xb xc xd xe xf xg xh).list) (m := 8) rfl rfl hown5)
      have HB45 : Hid (Below w4.heap.size w4 w5) := Lib.hid ((below_box0 w4 (.cells #[] 211)).grown hgrow5 (by simp) (fun j hj => by cases hj; exact Nat.le_refl _))
      have HH5 := Lib.hid (HH4.out.keepB hbz HB45.out)
      have HK5 := Lib.hid (HK4.out.below HB45.out)
      have HSp5 := Lib.hid (HSp4.out.below HB45.out)
      have HSW5 := Lib.hid (HSW.out.below HB45.out)
      have HB5 := Lib.hid (below_ext HB4.out HB45.out)
      obtain ⟨g5, cap5, e5, hg5, -, -, hsk5⟩ := HO5.out.cells (show 0 < 8 by decide)
      have e6 : v5 = .slice (some ⟨g5, 0, none⟩) 8 cap5 := e5
      have HSV5 := Lib.hid hsk5
      have hg5h : bh < g5 := by omega
      clear hown hown5 hgrow5 HO5 HH4 HK4 HSp4 HB4 HB45 HSW e5 hsk5
      subst e6
      go_loopw [8, 9] (fun v i u => ∃ (t g cp : Nat) (ya yb yc yd ye yf yg yh : Int), t ≤ 64 ∧ bh < g ∧ i = .int .i64 t ∧ v = .slice (some ⟨g, 0, none⟩) 8 cp ∧ Hid (rnds ws ⟨xa, xb, xc, xd, xe, xf, xg, xh⟩ t = ⟨ya, yb, yc, yd, ye, yf, yg, yh⟩) ∧ Hid (Sk .u32 u (some ⟨g, 0, none⟩) (St.mk ya yb yc yd ye yf yg yh).list) ∧ Hid (Below w5.heap.size w5 u)) (fun _ i _ => 64 - (intOf i).toNat)
      case atStart => exact ⟨0, g5, cap5, xa, xb, xc, xd, xe, xf, xg, xh, by omega, hg5h, rfl, rfl, Lib.hid rfl, HSV5, Lib.hid (Below.refl _ _)⟩
      case round =>
        obtain ⟨t, g, cp, ya, yb, yc, yd, ye, yf, yg, yh, ht, hgh, rfl, rfl, HR, HSV, HBu⟩ := hrel
        by_cases hlt : t < 64
        · have hk0 := (HK5.out.below HBu.out).cell (j := t) (show t < 64 by omega)
          have hk1 := (HSW5.out.below HBu.out).cell (j := t) (by have := HWL.out; omega)
          rw [Nat.zero_add] at hk1
          have hnx : rnds ws ⟨xa, xb, xc, xd, xe, xf, xg, xh⟩ (t + 1) = rnd ⟨ya, yb, yc, yd, ye, yf, yg, yh⟩ (KL.getD t 0) (ws.getD t 0) := by rw [rnds, HR.out]
          obtain ⟨kc, ekc⟩ : ∃ x, KL.getD t 0 = x := ⟨_, rfl⟩
          obtain ⟨wc, ewc⟩ : ∃ x, ws.getD t 0 = x := ⟨_, rfl⟩
          rw [ekc] at hk0 hnx
          rw [ewc] at hk1 hnx
          have HNX := Lib.hid hnx
          have HCV : Hid (wr.cell? ⟨g, 0 + 0, none⟩ = some (.int .u32 ya) ∧ wr.cell? ⟨g, 0 + 1, none⟩ = some (.int .u32 yb) ∧ wr.cell? ⟨g, 0 + 2, none⟩ = some (.int .u32 yc) ∧ wr.cell? ⟨g, 0 + 3, none⟩ = some (.int .u32 yd) ∧ wr.cell? ⟨g, 0 + 4, none⟩ = some (.int .u32 ye) ∧ wr.cell? ⟨g, 0 + 5, none⟩ = some (.int .u32 yf) ∧ wr.cell? ⟨g, 0 + 6, none⟩ = some (.int .u32 yg) ∧ wr.cell? ⟨g, 0 + 7, none⟩ = some (.int .u32 yh)) := Lib.hid ⟨HSV.out.cell (j := 0) (show 0 < 8 by decide), HSV.out.cell (j := 1) (show 1 < 8 by decide), HSV.out.cell (j := 2) (show 2 < 8 by decide), HSV.out.cell (j := 3) (show 3 < 8 by decide), HSV.out.cell (j := 4) (show 4 < 8 by decide), HSV.out.cell (j := 5) (show 5 < 8 by decide), HSV.out.cell (j := 6) (show 6 < 8 by decide), HSV.out.cell (j := 7) (show 7 < 8 by decide)⟩
          obtain ⟨va, vb, vc, vd, ve, vf, vg, vh⟩ := HCV.out
          have q0 : IntKind.i64.wrap (t : Int) = (t : Int) := IntWalk.i64_in _ (by omega)
          have p64 : (t : Int) < 64 := by omega
          clear hnx ekc ewc HSV HCV
          go_wp2_with fail
          go_quiet ((go_at_call 216; exact quiet_d (rright_int _ _ (by decide) (by decide) _)))
          rw [ch_eq, sbE_eq, rx_eq]
          obtain ⟨X, hX⟩ : ∃ X, rxx ye yf yg yh kc wc = X := ⟨_, rfl⟩
          rw [hX]
          have HX := Lib.hid hX
          have HBu2 := Lib.hid (below_drawN HBu.out nq)
          obtain ⟨HV2⟩ : Kp ((wr.drewN nq).cell? ⟨g, 0 + 0, none⟩ = some (.int .u32 ya) ∧ (wr.drewN nq).cell? ⟨g, 0 + 1, none⟩ = some (.int .u32 yb) ∧ (wr.drewN nq).cell? ⟨g, 0 + 2, none⟩ = some (.int .u32 yc) ∧ (wr.drewN nq).cell? ⟨g, 0 + 3, none⟩ = some (.int .u32 yd) ∧ (wr.drewN nq).cell? ⟨g, 0 + 4, none⟩ = some (.int .u32 ye) ∧ (wr.drewN nq).cell? ⟨g, 0 + 5, none⟩ = some (.int .u32 yf) ∧ (wr.drewN nq).cell? ⟨g, 0 + 6, none⟩ = some (.int .u32 yg) ∧ (wr.drewN nq).cell? ⟨g, 0 + 7, none⟩ = some (.int .u32 yh)) := ⟨⟨by simpa using va, by simpa using vb, by simpa using vc, by simpa using vd, by simpa using ve, by simpa using vf, by simpa using vg, by simpa using vh⟩⟩
          obtain ⟨w6, hw6⟩ : ∃ u, wr.drewN nq = u := ⟨_, rfl⟩
          rw [hw6] at HBu2 HV2 ⊢
          clear hX hw6 hk0 hk1 HBu va vb vc vd ve vf vg vh
          obtain ⟨va, vb, vc, vd, ve, vf, vg, vh⟩ := HV2
          go_wp2_with fail
          go_quiet ((go_at_call 216; exact quiet_d (rright_int _ _ (by decide) (by decide) _)))
          rw [sbA_eq, maA_eq, ry_eq]
          obtain ⟨Y, hY⟩ : ∃ Y, ryy ya yb yc = Y := ⟨_, rfl⟩
          rw [hY]
          have HR2 : Hid (rnds ws ⟨xa, xb, xc, xd, xe, xf, xg, xh⟩ (t + 1) = ⟨IntKind.u32.wrap (X + Y), ya, yb, yc, IntKind.u32.wrap (yd + X), ye, yf, yg⟩) := Lib.hid (by
            rw [HNX.out, rnd_eq, HX.out, hY, wrap_u32e, wrap_u32e])
          have HBu3 := Lib.hid (below_drawN HBu2.out nq)
          have HV3 : Kp ((w6.drewN nq).cell? ⟨g, 0 + 0, none⟩ = some (.int .u32 ya) ∧ (w6.drewN nq).cell? ⟨g, 0 + 1, none⟩ = some (.int .u32 yb) ∧ (w6.drewN nq).cell? ⟨g, 0 + 2, none⟩ = some (.int .u32 yc) ∧ (w6.drewN nq).cell? ⟨g, 0 + 3, none⟩ = some (.int .u32 yd) ∧ (w6.drewN nq).cell? ⟨g, 0 + 4, none⟩ = some (.int .u32 ye) ∧ (w6.drewN nq).cell? ⟨g, 0 + 5, none⟩ = some (.int .u32 yf) ∧ (w6.drewN nq).cell? ⟨g, 0 + 6, none⟩ = some (.int .u32 yg)) := ⟨⟨by simpa using va, by simpa using vb, by simpa using vc, by simpa using vd, by simpa using ve, by simpa using vf, by simpa using vg⟩⟩
          obtain ⟨w7, hw7⟩ : ∃ u, w6.drewN nq = u := ⟨_, rfl⟩
          rw [hw7] at HBu3 HV3 ⊢
          clear hY hw7 HBu2 va vb vc vd ve vf vg vh HNX HX
          obtain ⟨X2, hX2⟩ : ∃ z, IntKind.u32.wrap (X + Y) = z := ⟨_, rfl⟩
          obtain ⟨Y2, hY2⟩ : ∃ z, IntKind.u32.wrap (yd + X) = z := ⟨_, rfl⟩
          rw [hX2, hY2] at HR2
          have HX2 := Lib.hid hX2
          have HY2 := Lib.hid hY2
          clear hX2 hY2
          go_wp2_with fail
          refine wp_region_T (S := fun w' => w'.cell? ⟨g, 0 + 0, none⟩ = some (.int .u32 ya) ∧ w'.cell? ⟨g, 0 + 1, none⟩ = some (.int .u32 yb) ∧ w'.cell? ⟨g, 0 + 2, none⟩ = some (.int .u32 yc) ∧ w'.cell? ⟨g, 0 + 3, none⟩ = some (.int .u32 yd) ∧ w'.cell? ⟨g, 0 + 4, none⟩ = some (.int .u32 ye) ∧ w'.cell? ⟨g, 0 + 5, none⟩ = some (.int .u32 yf) ∧ w'.cell? ⟨g, 0 + 6, none⟩ = some (.int .u32 yg)) (E := []) (by kernel_rfl) (⟨cell_below (HV3.out.1) (Below.refl _ _).drew, cell_below (HV3.out.2.1) (Below.refl _ _).drew, cell_below (HV3.out.2.2.1) (Below.refl _ _).drew, cell_below (HV3.out.2.2.2.1) (Below.refl _ _).drew, cell_below (HV3.out.2.2.2.2.1) (Below.refl _ _).drew, cell_below (HV3.out.2.2.2.2.2.1) (Below.refl _ _).drew, cell_below (HV3.out.2.2.2.2.2.2) (Below.refl _ _).drew⟩) (fun hHeld => ?_)
          refine wpT_take (i := 0) (oi := _) (v := ?_) rfl (by kernel_rfl) (by kernel_rfl) (by kernel_rfl) (by kernel_rfl) (fun _ _ _ h => h) (Or.inl ⟨by rfl, ?_⟩) (by assumption) ?_
          rotate_left; (intro wS hSw; (try dsimp only at hSw); go_simp <;> with_reducible rfl)
          try simp only [List.getElem_toArray, List.getElem_cons_zero, List.getElem_cons_succ, Act.put, List.setIfInBounds_toArray, List.set_cons_zero, List.set_cons_succ]
          refine wpT_take (i := 1) (oi := _) (v := ?_) rfl (by kernel_rfl) (by kernel_rfl) (by kernel_rfl) (by kernel_rfl) (fun _ _ _ h => h) (Or.inl ⟨by rfl, ?_⟩) (by assumption) ?_
          rotate_left; (intro wS hSw; (try dsimp only at hSw); go_simp <;> with_reducible rfl)
          try simp only [List.getElem_toArray, List.getElem_cons_zero, List.getElem_cons_succ, Act.put, List.setIfInBounds_toArray, List.set_cons_zero, List.set_cons_succ]
          refine wpT_take (i := 2) (oi := _) (v := ?_) rfl (by kernel_rfl) (by kernel_rfl) (by kernel_rfl) (by kernel_rfl) (fun _ _ _ h => h) (Or.inl ⟨by rfl, ?_⟩) (by assumption) ?_
          rotate_left; (intro wS hSw; (try dsimp only at hSw); go_simp <;> with_reducible rfl)
          try simp only [List.getElem_toArray, List.getElem_cons_zero, List.getElem_cons_succ, Act.put, List.setIfInBounds_toArray, List.set_cons_zero, List.set_cons_succ]
          refine wpT_take (i := 3) (oi := _) (v := ?_) rfl (by kernel_rfl) (by kernel_rfl) (by kernel_rfl) (by kernel_rfl) (fun _ _ _ h => h) (Or.inl ⟨by rfl, ?_⟩) (by assumption) ?_
          rotate_left; (intro wS hSw; (try dsimp only at hSw); go_simp <;> with_reducible rfl)
          try simp only [List.getElem_toArray, List.getElem_cons_zero, List.getElem_cons_succ, Act.put, List.setIfInBounds_toArray, List.set_cons_zero, List.set_cons_succ]
          refine wpT_take (i := 4) (oi := _) (v := ?_) rfl (by kernel_rfl) (by kernel_rfl) (by kernel_rfl) (by kernel_rfl) (fun _ _ _ h => h) (Or.inl ⟨by rfl, ?_⟩) (by assumption) ?_
          rotate_left; (intro wS hSw; (try dsimp only at hSw); go_simp <;> with_reducible rfl)
          try simp only [List.getElem_toArray, List.getElem_cons_zero, List.getElem_cons_succ, Act.put, List.setIfInBounds_toArray, List.set_cons_zero, List.set_cons_succ]
          refine wpT_take (i := 5) (oi := _) (v := ?_) rfl (by kernel_rfl) (by kernel_rfl) (by kernel_rfl) (by kernel_rfl) (fun _ _ _ h => h) (Or.inl ⟨by rfl, ?_⟩) (by assumption) ?_
          rotate_left; (intro wS hSw; (try dsimp only at hSw); go_simp <;> with_reducible rfl)
          try simp only [List.getElem_toArray, List.getElem_cons_zero, List.getElem_cons_succ, Act.put, List.setIfInBounds_toArray, List.set_cons_zero, List.set_cons_succ]
          refine wpT_take (i := 6) (oi := _) (v := ?_) rfl (by kernel_rfl) (by kernel_rfl) (by kernel_rfl) (by kernel_rfl) (fun _ _ _ h => h) (Or.inl ⟨by rfl, ?_⟩) (by assumption) ?_
          rotate_left; (intro wS hSw; (try dsimp only at hSw); go_simp <;> with_reducible rfl)
          try simp only [List.getElem_toArray, List.getElem_cons_zero, List.getElem_cons_succ, Act.put, List.setIfInBounds_toArray, List.set_cons_zero, List.set_cons_succ]
          refine wpT_take (i := 7) (oi := _) (v := ?_) rfl (by kernel_rfl) (by kernel_rfl) (by kernel_rfl) (by kernel_rfl) (fun _ _ _ h => h) (Or.inl ⟨by rfl, ?_⟩) (by assumption) ?_
          rotate_left; (intro wS hSw; (try dsimp only at hSw); go_simp <;> with_reducible rfl)
          try simp only [List.getElem_toArray, List.getElem_cons_zero, List.getElem_cons_succ, Act.put, List.setIfInBounds_toArray, List.set_cons_zero, List.set_cons_succ]
          refine wpT_take (i := 8) (oi := _) (v := ?_) rfl (by kernel_rfl) (by kernel_rfl) (by kernel_rfl) (by kernel_rfl) (fun _ _ _ h => h) (Or.inl ⟨by rfl, ?_⟩) (by assumption) ?_
          rotate_left; (intro wS hSw; (try dsimp only at hSw); go_simp <;> with_reducible rfl)
          try simp only [List.getElem_toArray, List.getElem_cons_zero, List.getElem_cons_succ, Act.put, List.setIfInBounds_toArray, List.set_cons_zero, List.set_cons_succ]
          refine wpT_take (i := 9) (oi := _) (v := ?_) rfl (by kernel_rfl) (by kernel_rfl) (by kernel_rfl) (by kernel_rfl) (fun _ _ _ h => h) (Or.inl ⟨by rfl, ?_⟩) (by assumption) ?_
          rotate_left; (intro wS hSw; (try dsimp only at hSw); go_simp <;> with_reducible rfl)
          try simp only [List.getElem_toArray, List.getElem_cons_zero, List.getElem_cons_succ, Act.put, List.setIfInBounds_toArray, List.set_cons_zero, List.set_cons_succ]
          refine wpT_take (i := 10) (oi := _) (v := ?_) rfl (by kernel_rfl) (by kernel_rfl) (by kernel_rfl) (by kernel_rfl) (fun _ _ _ h => h) (Or.inl ⟨by rfl, ?_⟩) (by assumption) ?_
          rotate_left; (intro wS hSw; (try dsimp only at hSw); go_simp <;> with_reducible rfl)
          try simp only [List.getElem_toArray, List.getElem_cons_zero, List.getElem_cons_succ, Act.put, List.setIfInBounds_toArray, List.set_cons_zero, List.set_cons_succ]
          refine wpT_take (i := 11) (oi := _) (v := ?_) rfl (by kernel_rfl) (by kernel_rfl) (by kernel_rfl) (by kernel_rfl) (fun _ _ _ h => h) (Or.inl ⟨by rfl, ?_⟩) (by assumption) ?_
          rotate_left; (intro wS hSw; (try dsimp only at hSw); go_simp <;> with_reducible rfl)
          try simp only [List.getElem_toArray, List.getElem_cons_zero, List.getElem_cons_succ, Act.put, List.setIfInBounds_toArray, List.set_cons_zero, List.set_cons_succ]
          refine wpT_take (i := 12) (oi := _) (v := ?_) rfl (by kernel_rfl) (by kernel_rfl) (by kernel_rfl) (by kernel_rfl) (fun _ _ _ h => h) (Or.inl ⟨by rfl, ?_⟩) (by assumption) ?_
          rotate_left; (intro wS hSw; (try dsimp only at hSw); go_simp <;> with_reducible rfl)
          try simp only [List.getElem_toArray, List.getElem_cons_zero, List.getElem_cons_succ, Act.put, List.setIfInBounds_toArray, List.set_cons_zero, List.set_cons_succ]
          refine wpT_take (i := 13) (oi := _) (v := ?_) rfl (by kernel_rfl) (by kernel_rfl) (by kernel_rfl) (by kernel_rfl) (fun _ _ _ h => h) (Or.inl ⟨by rfl, ?_⟩) (by assumption) ?_
          rotate_left; (intro wS hSw; (try dsimp only at hSw); go_simp <;> with_reducible rfl)
          try simp only [List.getElem_toArray, List.getElem_cons_zero, List.getElem_cons_succ, Act.put, List.setIfInBounds_toArray, List.set_cons_zero, List.set_cons_succ]
          refine wpT_take (i := 14) (oi := _) (v := ?_) rfl (by kernel_rfl) (by kernel_rfl) (by kernel_rfl) (by kernel_rfl) (fun _ _ _ h => h) (Or.inl ⟨by rfl, ?_⟩) (by assumption) ?_
          rotate_left; (intro wS hSw; (try dsimp only at hSw); go_simp <;> with_reducible rfl)
          try simp only [List.getElem_toArray, List.getElem_cons_zero, List.getElem_cons_succ, Act.put, List.setIfInBounds_toArray, List.set_cons_zero, List.set_cons_succ]
          refine wpT_take (i := 15) (oi := _) (v := ?_) rfl (by kernel_rfl) (by kernel_rfl) (by kernel_rfl) (by kernel_rfl) (fun _ _ _ h => h) (Or.inl ⟨by rfl, ?_⟩) (by assumption) ?_
          rotate_left; (intro wS hSw; (try dsimp only at hSw); go_simp <;> with_reducible rfl)
          try simp only [List.getElem_toArray, List.getElem_cons_zero, List.getElem_cons_succ, Act.put, List.setIfInBounds_toArray, List.set_cons_zero, List.set_cons_succ]
          refine wpT_take (i := 16) (oi := _) (v := ?_) rfl (by kernel_rfl) (by kernel_rfl) (by kernel_rfl) (by kernel_rfl) (fun _ _ _ h => h) (Or.inl ⟨by rfl, ?_⟩) (by assumption) ?_
          rotate_left; (intro wS hSw; (try dsimp only at hSw); go_simp <;> with_reducible rfl)
          try simp only [List.getElem_toArray, List.getElem_cons_zero, List.getElem_cons_succ, Act.put, List.setIfInBounds_toArray, List.set_cons_zero, List.set_cons_succ]
          refine wpT_take (i := 17) (oi := _) (v := ?_) rfl (by kernel_rfl) (by kernel_rfl) (by kernel_rfl) (by kernel_rfl) (fun _ _ _ h => h) (Or.inl ⟨by rfl, ?_⟩) (by assumption) ?_
          rotate_left; (intro wS hSw; (try dsimp only at hSw); go_simp <;> with_reducible rfl)
          try simp only [List.getElem_toArray, List.getElem_cons_zero, List.getElem_cons_succ, Act.put, List.setIfInBounds_toArray, List.set_cons_zero, List.set_cons_succ]
          refine wpT_take (i := 18) (oi := _) (v := ?_) rfl (by kernel_rfl) (by kernel_rfl) (by kernel_rfl) (by kernel_rfl) (fun _ _ _ h => h) (Or.inl ⟨by rfl, ?_⟩) (by assumption) ?_
          rotate_left; (intro wS hSw; (try dsimp only at hSw); go_simp <;> with_reducible rfl)
          try simp only [List.getElem_toArray, List.getElem_cons_zero, List.getElem_cons_succ, Act.put, List.setIfInBounds_toArray, List.set_cons_zero, List.set_cons_succ]
          refine wpT_take (i := 19) (oi := _) (v := ?_) rfl (by kernel_rfl) (by kernel_rfl) (by kernel_rfl) (by kernel_rfl) (fun _ _ _ h => h) (Or.inl ⟨by rfl, ?_⟩) (by assumption) ?_
          rotate_left; (intro wS hSw; (try dsimp only at hSw); go_simp <;> with_reducible rfl)
          try simp only [List.getElem_toArray, List.getElem_cons_zero, List.getElem_cons_succ, Act.put, List.setIfInBounds_toArray, List.set_cons_zero, List.set_cons_succ]
          refine wpT_take (i := 20) (oi := _) (v := ?_) rfl (by kernel_rfl) (by kernel_rfl) (by kernel_rfl) (by kernel_rfl) (fun _ _ _ h => h) (Or.inl ⟨by rfl, ?_⟩) (by assumption) ?_
          rotate_left; (intro wS hSw; (try dsimp only at hSw); go_simp <;> with_reducible rfl)
          try simp only [List.getElem_toArray, List.getElem_cons_zero, List.getElem_cons_succ, Act.put, List.setIfInBounds_toArray, List.set_cons_zero, List.set_cons_succ]
          refine wpT_take (i := 21) (oi := _) (v := ?_) rfl (by kernel_rfl) (by kernel_rfl) (by kernel_rfl) (by kernel_rfl) (fun _ _ _ h => h) (Or.inl ⟨by rfl, ?_⟩) (by assumption) ?_
          rotate_left; (intro wS hSw; (try dsimp only at hSw); go_simp <;> with_reducible rfl)
          try simp only [List.getElem_toArray, List.getElem_cons_zero, List.getElem_cons_succ, Act.put, List.setIfInBounds_toArray, List.set_cons_zero, List.set_cons_succ]
          refine wpT_take (i := 22) (oi := _) (v := ?_) rfl (by kernel_rfl) (by kernel_rfl) (by kernel_rfl) (by kernel_rfl) (fun _ _ _ h => h) (Or.inl ⟨by rfl, ?_⟩) (by assumption) ?_
          rotate_left; (intro wS hSw; (try dsimp only at hSw); go_simp <;> with_reducible rfl)
          try simp only [List.getElem_toArray, List.getElem_cons_zero, List.getElem_cons_succ, Act.put, List.setIfInBounds_toArray, List.set_cons_zero, List.set_cons_succ]
          refine wpT_take (i := 23) (oi := _) (v := ?_) rfl (by kernel_rfl) (by kernel_rfl) (by kernel_rfl) (by kernel_rfl) (fun _ _ _ h => h) (Or.inl ⟨by rfl, ?_⟩) (by assumption) ?_
          rotate_left; (intro wS hSw; (try dsimp only at hSw); go_simp <;> with_reducible rfl)
          try simp only [List.getElem_toArray, List.getElem_cons_zero, List.getElem_cons_succ, Act.put, List.setIfInBounds_toArray, List.set_cons_zero, List.set_cons_succ]
          refine wpT_take (i := 24) (oi := _) (v := ?_) rfl (by kernel_rfl) (by kernel_rfl) (by kernel_rfl) (by kernel_rfl) (fun _ _ _ h => h) (Or.inl ⟨by rfl, ?_⟩) (by assumption) ?_
          rotate_left; (intro wS hSw; (try dsimp only at hSw); go_simp <;> with_reducible rfl)
          try simp only [List.getElem_toArray, List.getElem_cons_zero, List.getElem_cons_succ, Act.put, List.setIfInBounds_toArray, List.set_cons_zero, List.set_cons_succ]
          refine wpT_take (i := 25) (oi := _) (v := ?_) rfl (by kernel_rfl) (by kernel_rfl) (by kernel_rfl) (by kernel_rfl) (fun _ _ _ h => h) (Or.inl ⟨by rfl, ?_⟩) (by assumption) ?_
          rotate_left; (intro wS hSw; (try dsimp only at hSw); go_simp <;> with_reducible rfl)
          try simp only [List.getElem_toArray, List.getElem_cons_zero, List.getElem_cons_succ, Act.put, List.setIfInBounds_toArray, List.set_cons_zero, List.set_cons_succ]
          refine wpT_one (i := 26) (by kernel_rfl) rfl (fun K hK => ?_)
          go_simp
          refine hK.out _ _ ?_ (fun hHeld => ?_)
          · skip
            rw [HX2.out, HY2.out]
            exact ⟨cell_below (HV3.out.1) (below_box0 _ _).drew, cell_below (HV3.out.2.1) (below_box0 _ _).drew, cell_below (HV3.out.2.2.1) (below_box0 _ _).drew, cell_below (HV3.out.2.2.2.1) (below_box0 _ _).drew, cell_below (HV3.out.2.2.2.2.1) (below_box0 _ _).drew, cell_below (HV3.out.2.2.2.2.2.1) (below_box0 _ _).drew, cell_below (HV3.out.2.2.2.2.2.2) (below_box0 _ _).drew⟩
          clear hK K
          try simp only [List.getElem_toArray, List.getElem_cons_zero, List.getElem_cons_succ, Act.put, List.setIfInBounds_toArray, List.set_cons_zero, List.set_cons_succ]
          refine wpT_take (i := 27) (oi := _) (v := ?_) rfl (by kernel_rfl) (by kernel_rfl) (by kernel_rfl) (by kernel_rfl) (fun _ _ _ h => h) (Or.inl ⟨by rfl, ?_⟩) (by assumption) ?_
          rotate_left; (intro wS hSw; (try dsimp only at hSw); go_simp <;> with_reducible rfl)
          try simp only [List.getElem_toArray, List.getElem_cons_zero, List.getElem_cons_succ, Act.put, List.setIfInBounds_toArray, List.set_cons_zero, List.set_cons_succ]
          refine wpT_done (by kernel_rfl) ?_ _
          rw [HX2.out, HY2.out]
          have HSV4 : Hid (Sk .u32 (w7.alloc (.cells #[.int .u32 X2, .int .u32 ya, .int .u32 yb, .int .u32 yc, .int .u32 Y2, .int .u32 ye, .int .u32 yf, .int .u32 yg] 211)).drew (some ⟨w7.heap.size, 0, none⟩) (St.mk X2 ya yb yc Y2 ye yf yg).list) := Lib.hid ((Blk.new w7 (St.mk X2 ya yb yc Y2 ye yf yg).list).sk.below (Below.refl _ _).drew)
          have HBu4 : Hid (Below w5.heap.size w5 (w7.alloc (.cells #[.int .u32 X2, .int .u32 ya, .int .u32 yb, .int .u32 yc, .int .u32 Y2, .int .u32 ye, .int .u32 yf, .int .u32 yg] 211)).drew) := Lib.hid (below_ext HBu3.out (below_box0 _ _).drew)
          have hg7 : bh < w7.heap.size := by have := HBu3.out.size; have := HH5.out.lt; omega
          clear HV3 HX2 HY2 HBu3 hHeld
          go_wp2_with fail
          go_roundw
          case rel => exact ⟨t + 1, w7.heap.size, 8, X2, ya, yb, yc, Y2, ye, yf, yg, by omega, hg7, by go_num, rfl, HR2, HSV4, HBu4⟩
          case measure => simp [intOf]; omega
        · have HRF : Kp (rnds (schedL (blockOf P k)) ⟨xa, xb, xc, xd, xe, xf, xg, xh⟩ 64 = ⟨ya, yb, yc, yd, ye, yf, yg, yh⟩) := ⟨by
            have h := HR.out
            rwa [show t = 64 by omega, ← HWS.out] at h⟩
          have HT : Kp (shaSt P (k + 1) = addS ⟨xa, xb, xc, xd, xe, xf, xg, xh⟩ ⟨ya, yb, yc, yd, ye, yf, yg, yh⟩) := ⟨by rw [shaSt, HSS.out, mixS, HRF.out]⟩
          have HH6 : Hid (Blk .u32 211 wr bh (addL (St.mk xa xb xc xd xe xf xg xh).list (St.mk ya yb yc yd ye yf yg yh).list 0)) := Lib.hid (by
            rw [addL_zero rfl]
            exact HH5.out.below HBu.out)
          have HK6 := Lib.hid (HK5.out.below HBu.out)
          have HSp6 := Lib.hid (HSp5.out.below HBu.out)
          have HB6 := Lib.hid (below_ext HB5.out HBu.out)
          clear HR HBu HH5 HK5 HSp5 HB5 HSW5 HWS HWL HRF HSS
          go_wp2_with fail
          go_loopw [12] (fun i u => ∃ m : Nat, m ≤ 8 ∧ i = .int .i64 m ∧ Hid (Blk .u32 211 u bh (addL (St.mk xa xb xc xd xe xf xg xh).list (St.mk ya yb yc yd ye yf yg yh).list m)) ∧ Hid (Blk .u32 211 u bk KL) ∧ Hid (Sk .u8 u (some ⟨gp, 0, none⟩) P) ∧ Hid (Sk .u32 u (some ⟨g, 0, none⟩) (St.mk ya yb yc yd ye yf yg yh).list) ∧ Hid (Below W.heap.size W u)) (fun i _ => 8 - (intOf i).toNat)
          case atStart => exact ⟨0, by omega, rfl, HH6, HK6, HSp6, HSV, HB6⟩
          case round =>
            obtain ⟨m, hm, rfl, HHm, HKm, HSpm, HSVm, HBm⟩ := hrel
            by_cases hlm : m < 8
            · have hc := HHm.out.cell (j := m) (by rw [addL_len]; exact hlm)
              have hf := HHm.out.free m
              rw [addL_get hlm] at hc
              have hv := HSVm.out.cell (j := m) (show m < 8 from hlm)
              rw [Nat.zero_add] at hv
              obtain ⟨s0, e0⟩ : ∃ x, (St.mk xa xb xc xd xe xf xg xh).list.getD m 0 = x := ⟨_, rfl⟩
              obtain ⟨v0, e1⟩ : ∃ x, (St.mk ya yb yc yd ye yf yg yh).list.getD m 0 = x := ⟨_, rfl⟩
              have hst := addL_set (s := (St.mk xa xb xc xd xe xf xg xh).list) (v := (St.mk ya yb yc yd ye yf yg yh).list) hlm
              rw [e0, e1, add32, wrap_u32e] at hst
              rw [e0] at hc
              rw [e1] at hv
              obtain ⟨V, hV⟩ : ∃ V, (s0 + v0) % 4294967296 = V := ⟨_, rfl⟩
              have HV := Lib.hid hV
              rw [hV] at hst
              have HH7 : Hid (Blk .u32 211 (wr.setCell ⟨bh, m, none⟩ (.int .u32 V)).drew bh (addL (St.mk xa xb xc xd xe xf xg xh).list (St.mk ya yb yc yd ye yf yg yh).list (m + 1))) := Lib.hid (by
                rw [← hst]
                exact (HHm.out.set).below (Below.refl _ _).drew)
              have HK7 : Hid (Blk .u32 211 (wr.setCell ⟨bh, m, none⟩ (.int .u32 V)).drew bk KL) := Lib.hid ((HKm.out.set_ne (by omega)).below (Below.refl _ _).drew)
              have HSp7 : Hid (Sk .u8 (wr.setCell ⟨bh, m, none⟩ (.int .u32 V)).drew (some ⟨gp, 0, none⟩) P) := Lib.hid ((HSpm.out.set_ne (fun b o e => by cases e; omega)).below (Below.refl _ _).drew)
              have HSV7 : Hid (Sk .u32 (wr.setCell ⟨bh, m, none⟩ (.int .u32 V)).drew (some ⟨g, 0, none⟩) (St.mk ya yb yc yd ye yf yg yh).list) := Lib.hid ((HSVm.out.set_ne (fun b o e => by cases e; omega)).below (Below.refl _ _).drew)
              have HB7 : Hid (Below W.heap.size W (wr.setCell ⟨bh, m, none⟩ (.int .u32 V)).drew) := Lib.hid (HBm.out.setCell (by have := HBH.out; simp; omega) _).drew
              clear hst e0 e1 HHm HKm HSpm HSVm HBm hV
              go_wp2
              go_region
              rw [HV.out]
              clear hc hf hv
              go_wp2
              go_roundw
              case rel => exact ⟨m + 1, by omega, by go_num, HH7, HK7, HSp7, HSV7, HB7⟩
              case measure => simp [intOf]; omega
            · have HH8 : Hid (Blk .u32 211 wr bh (shaSt P (k + 1)).list) := Lib.hid (by
                have h := HHm.out
                rwa [show m = 8 by omega, addL_all, ← HT.out] at h)
              clear HHm HSVm HT
              go_wp2_with fail
              go_roundw
              case rel => exact ⟨k + 1, by omega, by first | rfl | (congr 1; omega), HH8, HKm, HSpm, HBm⟩
              case measure => simp [intOf]; omega
    · obtain ⟨T, hT⟩ : ∃ T, shaSt P k = T := ⟨_, rfl⟩
      have HSHA : Kp (sha l = outL T) := ⟨by
        rw [sha, HP.out, HM.out, show 64 * M / 64 = k by omega, hT]⟩
      rw [hT] at HH
      have hout := outL_len T
      have hbr := HBr.out.size
      have HHl : bh < wr.heap.size := HH.out.lt
      have HW8 : Hid (Blk .u8 60 (wr.alloc (.cells #[.int .u8 0, .int .u8 0, .int .u8 0, .int .u8 0, .int .u8 0, .int .u8 0, .int .u8 0, .int .u8 0, .int .u8 0, .int .u8 0, .int .u8 0, .int .u8 0, .int .u8 0, .int .u8 0, .int .u8 0, .int .u8 0, .int .u8 0, .int .u8 0, .int .u8 0, .int .u8 0, .int .u8 0, .int .u8 0, .int .u8 0, .int .u8 0, .int .u8 0, .int .u8 0, .int .u8 0, .int .u8 0, .int .u8 0, .int .u8 0, .int .u8 0, .int .u8 0] 60)) wr.heap.size (pz 32 ((outL T).take 0))) := Lib.hid (by
        rw [zarrh]
        exact Blk.new _ _)
      have HB8 : Hid (Below W.heap.size W (wr.alloc (.cells #[.int .u8 0, .int .u8 0, .int .u8 0, .int .u8 0, .int .u8 0, .int .u8 0, .int .u8 0, .int .u8 0, .int .u8 0, .int .u8 0, .int .u8 0, .int .u8 0, .int .u8 0, .int .u8 0, .int .u8 0, .int .u8 0, .int .u8 0, .int .u8 0, .int .u8 0, .int .u8 0, .int .u8 0, .int .u8 0, .int .u8 0, .int .u8 0, .int .u8 0, .int .u8 0, .int .u8 0, .int .u8 0, .int .u8 0, .int .u8 0, .int .u8 0, .int .u8 0] 60))) := Lib.hid (HBr.out.alloc HBr.out.size _)
      have HH8 := Lib.hid (HH.out.old (.cells #[.int .u8 0, .int .u8 0, .int .u8 0, .int .u8 0, .int .u8 0, .int .u8 0, .int .u8 0, .int .u8 0, .int .u8 0, .int .u8 0, .int .u8 0, .int .u8 0, .int .u8 0, .int .u8 0, .int .u8 0, .int .u8 0, .int .u8 0, .int .u8 0, .int .u8 0, .int .u8 0, .int .u8 0, .int .u8 0, .int .u8 0, .int .u8 0, .int .u8 0, .int .u8 0, .int .u8 0, .int .u8 0, .int .u8 0, .int .u8 0, .int .u8 0, .int .u8 0] 60))
      obtain ⟨WN, hWN⟩ : ∃ u, wr.alloc (.cells #[.int .u8 0, .int .u8 0, .int .u8 0, .int .u8 0, .int .u8 0, .int .u8 0, .int .u8 0, .int .u8 0, .int .u8 0, .int .u8 0, .int .u8 0, .int .u8 0, .int .u8 0, .int .u8 0, .int .u8 0, .int .u8 0, .int .u8 0, .int .u8 0, .int .u8 0, .int .u8 0, .int .u8 0, .int .u8 0, .int .u8 0, .int .u8 0, .int .u8 0, .int .u8 0, .int .u8 0, .int .u8 0, .int .u8 0, .int .u8 0, .int .u8 0, .int .u8 0] 60) = u := ⟨_, rfl⟩
      obtain ⟨B5, hB5⟩ : ∃ x, wr.heap.size = x := ⟨_, rfl⟩
      have HBN : Hid (B5 < WN.heap.size) := Lib.hid (by rw [← hWN, ← hB5]; simp)
      rw [hWN] at HW8 HB8 HH8
      rw [hB5] at HW8 hbr HHl
      have HWN := Lib.hid hWN
      have HB5 := Lib.hid hB5
      have hgrd : ¬ (64 * (k : Int) < 64 * (M : Int)) := by omega
      clear hT HH HSp HK HBr hWN hB5 hout
      go_wp2_with fail
      rw [HWN.out, HB5.out]
      go_loopw [14] (fun i u => ∃ m : Nat, m ≤ 32 ∧ i = .int .i64 m ∧ Hid (Blk .u8 60 u B5 (pz 32 ((outL T).take m))) ∧ Hid (Below B5 WN u)) (fun i _ => 32 - (intOf i).toNat)
      case atStart => exact ⟨0, by omega, rfl, HW8, Lib.hid (Below.refl _ _)⟩
      case round =>
        obtain ⟨m, hm, rfl, HBm, HBv⟩ := hrel
        by_cases hlm : m < 32
        · have hol : (outL T).length = 32 := outL_len _
          have hc := HBm.out.cell (j := m) (by rw [pz_len (by rw [List.length_take, hol]; omega)]; omega)
          have hf := HBm.out.free m
          have hst := pz_step (N := 32) (k := m) (l := outL T) (by rw [hol]; omega) (by omega)
          have hh := (HH8.out.keepB HHl HBv.out).cell (j := m / 4) (show m / 4 < 8 by omega)
          rw [out_get2 _ m hlm] at hst
          obtain ⟨v0, e1⟩ : ∃ x, T.list.getD (m / 4) 0 = x := ⟨_, rfl⟩
          rw [e1] at hst hh
          obtain ⟨q, hq⟩ : ∃ q, v0 / 2 ^ (24 - 8 * (m % 4)) = q := ⟨_, rfl⟩
          rw [hq] at hst
          have j0 : (0 : Int) ≤ 24 - 8 * ((m : Int) % 4) := by omega
          have j1 : (24 - 8 * ((m : Int) % 4)).toNat = 24 - 8 * (m % 4) := by omega
          have j2 : ((m : Int) / 4).toNat = m / 4 := by omega
          have j3 : (0 : Int) ≤ (m : Int) / 4 := by omega
          have j4 : (m : Int) / 4 < 8 := by omega
          have HQ := Lib.hid hq
          obtain ⟨WV, hWV⟩ : ∃ u, wr.setCell ⟨B5, m, none⟩ (.int .u8 (q % 256)) = u := ⟨_, rfl⟩
          have HB2 : Hid (Blk .u8 60 WV B5 (pz 32 ((outL T).take (m + 1)))) := Lib.hid (by
            rw [← hWV, ← hst]
            exact HBm.out.set)
          have HBv2 : Hid (Below B5 WN WV) := Lib.hid (by rw [← hWV]; exact HBv.out.setCell (Nat.le_refl _) _)
          have HWV := Lib.hid hWV
          clear hst HBm HBv hol e1 hWV
          go_wp2
          try go_region
          try (rw [HWV.out])
          clear hc hf hh
          go_wp2
          go_roundw
          case rel => exact ⟨m + 1, by omega, by go_num, HB2, HBv2⟩
          case measure => simp [intOf]; omega
        · have HBf : Hid (Blk .u8 60 wr B5 (sha l)) := Lib.hid (by
            have h := HBm.out
            rwa [show m = (outL T).length by rw [outL_len]; omega, List.take_length, pz_full (outL_len _), ← HSHA.out] at h)
          have HBW := Lib.hid (HB8.out.trans (HBv.out.mono hbr))
          have HRf : Hid (Blk .u8 60 wr w.heap.size (zer 32)) := Lib.hid (HR0.out.keepB (by have := HSZ.out; omega) HBW.out)
          have HBF : Hid (Below w.heap.size w (wr.setRow w.heap.size (arr .u8 (sha l)))) := Lib.hid (below_setRow' (below_ext HBX.out HBW.out) (Nat.le_refl _))
          have HRR : Hid (Blk .u8 60 (wr.setRow w.heap.size (arr .u8 (sha l))) w.heap.size (sha l)) := Lib.hid HRf.out.setRow
          clear HBm HBv
          go_wp2_with (first
            | ((with_reducible show wpList _ _ _ (⟨some 181, _, _, _, _, _⟩ :: _) _ _); refine wpList_load_row rfl 60 _ rfl B5 rfl _ _ _ _ HBf.out Tryz.underlying60 rfl (hash_info (sha_len l)) ?_)
            | ((with_reducible show wpList _ _ _ (⟨none, _, _, _, _, _⟩ :: _) _ _); refine wpList_store_row rfl 60 _ _ rfl w.heap.size (arr .u8 (sha l)) rfl rfl _ _ HRf.out (hash_info (sha_len l)) (arrs_sz (l := zer 32) rfl (sha_len l)) (arr_one _) ?_))
          exact bodyPost_ret (v := .agg (arr .u8 (sha l))) (results_cell_row (p := 2) (ty := 60) rfl _ _ w.heap.size _ _ _ _ rfl HRR.out Tryz.underlying60 rfl (hash_info (sha_len l))) rfl ⟨rfl, HBF.out⟩
end Go.Proofs.YtojedhnglobddaaGreatDoor
namespace Go.Proofs.YtojedhnglobddaaGreatDoor
open Go.RowKit SpM
set_option linter.unusedVariables false
set_option linter.unusedSimpArgs false
set_option maxRecDepth 100000
set_option maxHeartbeats 3200000 in
theorem rjoin_nil (h : List Int) (hh : Hid (h.length = 32)) (w : World) :
    Calls Tryz.prog 200 #[.slice none 0 0, .agg (arr .u8 h)] w (KOut .u8 5 h w) := by
  obtain ⟨i0, hi, hz0, hz1, hz2⟩ := info_parts byteInfo
  obtain ⟨W, hW⟩ : ∃ W, w.alloc (.cells (arr .u8 h) 60) = W := ⟨_, rfl⟩
  have HBX : Hid (Below w.heap.size w W) := Lib.hid (by rw [← hW]; exact below_box0 _ _)
  have HR0 : Hid (Blk .u8 60 W w.heap.size h) := Lib.hid (by rw [← hW]; exact Blk.new _ _)
  have HSZ : Hid (W.heap.size = w.heap.size + 1) := Lib.hid (by rw [← hW]; simp)
  have HW := Lib.hid hW
  clear hW
  go_enter Tryz.func200, Tryz.ntmps200
  have hown : (W.alloc (.cells #[] 5)).ownsRow W.heap.size 5 1 (.slice (some ⟨W.heap.size, 0, none⟩) 0 0) 0 [] := ownK_empty (K := .u8) W
  go_upto_region 1 with (fail)
  rw [HW.out]
  go_wp2_with (at_builtin; refine wpList_append_own_none rfl _ _ 196 rfl W.heap.size 5 i0 1 Tryz.underlying196 hi _ _ _ rfl hown rfl ?_)
  have HO1 : Hid (OwnK .u8 5 (W.alloc (.cells #[] 5)) W.heap.size (.slice (some ⟨W.heap.size, 0, none⟩) 0 0) []) := Lib.hid (ownK_empty (K := .u8) W)
  have HB1 : Hid (Below W.heap.size W (W.alloc (.cells #[] 5))) := Lib.hid (below_box0 _ _)
  clear hown
  go_loopw [5, 6] (fun v i u => ∃ k : Nat, k ≤ 32 ∧ i = .int .i64 k ∧ Hid (OwnK .u8 5 u W.heap.size v (h.take k)) ∧ Hid (Below W.heap.size W u)) (fun _ i _ => 32 - (intOf i).toNat)
  case atStart => exact ⟨0, by omega, rfl, Lib.hid (by rw [List.take_zero]; exact HO1.out), HB1⟩
  case round =>
    obtain ⟨k, hk, rfl, HO, HBr⟩ := hrel
    by_cases hlt : k < 32
    · have hc := (HR0.out.keepB (by have := HSZ.out; omega) HBr.out).cell (j := k) (by have := hh.out; omega)
      have HTK : Hid (h.take (k + 1) = h.take k ++ [h.getD k 0]) := Lib.hid (take_one (by have := hh.out; omega))
      obtain ⟨x, hx⟩ : ∃ x, h.getD k 0 = x := ⟨_, rfl⟩
      rw [hx] at hc HTK
      have HLN : Hid ((h.take k).length = k) := Lib.hid (by rw [List.length_take, hh.out]; omega)
      have hown := HO.out.row HLN.out
      have hbs := HBr.out.size
      clear hx
      go_wp2_with (at_builtin; refine wpList_append_own _ rfl _ _ 196 rfl W.heap.size 5 i0 (.int .u8 0) 1 1 Tryz.underlying196 hi hz0 hz1 hz2 rfl (by decide) _ _ _ rfl (hown.alloc _) ⟨wr.heap.size, 0, none⟩ 1 1 [.int .u8 x] rfl rfl (cell_one_new _ _ _) (ints_oneCell .u8 [x]) (by unfold maxLen; omega) (by omega) (by simp; omega) ?_; intro v2 w2 hown2 hgrow2 _)
      have HO3 : Hid (OwnK .u8 5 w2 W.heap.size v2 (h.take (k + 1))) := Lib.hid (by
        rw [HTK.out]
        exact OwnK.app HLN.out.symm rfl hown2)
      have HBx3 : Hid (Below W.heap.size W w2) := Lib.hid (HO.out.below HBr.out hbs hgrow2)
      clear hown hown2 hgrow2 HO hc
      go_roundw
      case rel => exact ⟨k + 1, by omega, by go_num, HO3, HBx3⟩
      case measure => simp [intOf]; omega
    · have HO3 : Hid (OwnK .u8 5 wr W.heap.size u5 (h)) := Lib.hid (by
        have e := HO.out
        rwa [List.take_of_length_le (by have := hh.out; omega)] at e)
      have hbf := below_ext HBX.out HBr.out
      have hle := HBX.out.size
      clear HO
      go_wp2
      go_ret
      exact ⟨_, rfl, HO3.out.mono hle, hbf⟩
set_option maxHeartbeats 3200000 in
theorem rjoin_any (b o c : Nat) (l : List Int) (n : Nat) (hn : Hid (l.length = n)) (hn0 : 0 < n) (hbig : n ≤ 1000000) (h : List Int) (hh : Hid (h.length = 32)) (w : World) (hs : Hid (Sk .u8 w (some ⟨b, o, none⟩) l)) :
    Calls Tryz.prog 200 #[.slice (some ⟨b, o, none⟩) n c, .agg (arr .u8 h)] w (KOut .u8 5 (l ++ h) w) := by
  obtain ⟨i0, hi, hz0, hz1, hz2⟩ := info_parts byteInfo
  obtain ⟨W, hW⟩ : ∃ W, w.alloc (.cells (arr .u8 h) 60) = W := ⟨_, rfl⟩
  have HBX : Hid (Below w.heap.size w W) := Lib.hid (by rw [← hW]; exact below_box0 _ _)
  have HR0 : Hid (Blk .u8 60 W w.heap.size h) := Lib.hid (by rw [← hW]; exact Blk.new _ _)
  have HSZ : Hid (W.heap.size = w.heap.size + 1) := Lib.hid (by rw [← hW]; simp)
  have HW := Lib.hid hW
  clear hW
  have HS := Lib.hid ((hs.out.below HBX.out).below (below_box0 W (.cells #[] 5)))
  clear hs
  go_enter Tryz.func200, Tryz.ntmps200
  have hown : (W.alloc (.cells #[] 5)).ownsRow W.heap.size 5 1 (.slice (some ⟨W.heap.size, 0, none⟩) 0 0) 0 [] := ownK_empty (K := .u8) W
  go_upto_region 1 with (fail)
  rw [HW.out]
  go_wp2_with (at_builtin; refine wpList_append_own _ rfl _ _ 196 rfl W.heap.size 5 i0 (.int .u8 0) 1 1 Tryz.underlying196 hi hz0 hz1 hz2 rfl (by decide) _ _ _ rfl hown ⟨b, o, none⟩ n c (l.map (.int .u8)) rfl (by simp [hn.out]) (HS.out.news) (ints_oneCell .u8 _) (by unfold maxLen; omega) (by omega) (by simp) ?_; intro v1 w1 hown1 hgrow1 _)
  have HO1 : Hid (OwnK .u8 5 w1 W.heap.size v1 l) := Lib.hid (OwnK.app (xs := []) (ys := l) (m := n) rfl hn.out.symm hown1)
  have HB1 : Hid (Below W.heap.size W w1) := Lib.hid ((below_box0 W (.cells #[] 5)).grown hgrow1 (by simp) (fun j hj => by cases hj; exact Nat.le_refl _))
  clear hown1 hgrow1
  clear hown
  go_loopw [5, 6] (fun v i u => ∃ k : Nat, k ≤ 32 ∧ i = .int .i64 k ∧ Hid (OwnK .u8 5 u W.heap.size v (l ++ h.take k)) ∧ Hid (Below W.heap.size W u)) (fun _ i _ => 32 - (intOf i).toNat)
  case atStart => exact ⟨0, by omega, rfl, Lib.hid (by rw [List.take_zero, List.append_nil]; exact HO1.out), HB1⟩
  case round =>
    obtain ⟨k, hk, rfl, HO, HBr⟩ := hrel
    by_cases hlt : k < 32
    · have hc := (HR0.out.keepB (by have := HSZ.out; omega) HBr.out).cell (j := k) (by have := hh.out; omega)
      have HTK : Hid (h.take (k + 1) = h.take k ++ [h.getD k 0]) := Lib.hid (take_one (by have := hh.out; omega))
      obtain ⟨x, hx⟩ : ∃ x, h.getD k 0 = x := ⟨_, rfl⟩
      rw [hx] at hc HTK
      have HLN : Hid ((l ++ h.take k).length = n + k) := Lib.hid (by rw [List.length_append, List.length_take, hh.out, hn.out]; omega)
      have hown := HO.out.row HLN.out
      have hbs := HBr.out.size
      clear hx
      go_wp2_with (at_builtin; refine wpList_append_own _ rfl _ _ 196 rfl W.heap.size 5 i0 (.int .u8 0) 1 1 Tryz.underlying196 hi hz0 hz1 hz2 rfl (by decide) _ _ _ rfl (hown.alloc _) ⟨wr.heap.size, 0, none⟩ 1 1 [.int .u8 x] rfl rfl (cell_one_new _ _ _) (ints_oneCell .u8 [x]) (by unfold maxLen; omega) (by omega) (by simp; omega) ?_; intro v2 w2 hown2 hgrow2 _)
      have HO3 : Hid (OwnK .u8 5 w2 W.heap.size v2 (l ++ h.take (k + 1))) := Lib.hid (by
        rw [HTK.out, ← List.append_assoc]
        exact OwnK.app HLN.out.symm rfl hown2)
      have HBx3 : Hid (Below W.heap.size W w2) := Lib.hid (HO.out.below HBr.out hbs hgrow2)
      clear hown hown2 hgrow2 HO hc
      go_roundw
      case rel => exact ⟨k + 1, by omega, by go_num, HO3, HBx3⟩
      case measure => simp [intOf]; omega
    · have HO3 : Hid (OwnK .u8 5 wr W.heap.size u5 (l ++ h)) := Lib.hid (by
        have e := HO.out
        rwa [List.take_of_length_le (by have := hh.out; omega)] at e)
      have hbf := below_ext HBX.out HBr.out
      have hle := HBX.out.size
      clear HO
      go_wp2
      go_ret
      exact ⟨_, rfl, HO3.out.mono hle, hbf⟩
end Go.Proofs.YtojedhnglobddaaGreatDoor
namespace Go.Proofs.YtojedhnglobddaaGreatDoor
open Go.RowKit SpM
set_option linter.unusedVariables false
set_option linter.unusedSimpArgs false
set_option maxRecDepth 100000
theorem yields_row {P : Program} {S : World → Prop} {o : Oper} {a : Act} (ty : TypeId) (x : Operand) (ho : o.op = .load ty x)
    (g : Nat) (hx : a.eval x = .pointer (some ⟨g, 0, none⟩)) (t : TypeId) (cs : Array Value) (fr : Nat × Nat) (d : TypeDesc) (hg : ∀ w, S w → w.heap[g]? = some (.cells cs t fr))
    (hu : P.underlying ty = some d) (hd : (match d with | .struct _ | .array _ _ => true | _ => false) = true) (hi : (P.info? ty).map (·.size) = some cs.size) :
    ∀ w, S w → (execOp a.eval o).run P w = .ok (.value (.agg cs)) w := fun w hw => by
  unfold execOp
  simp only [ho, hx, Instr.loadAt, Instr.sureAddr, Sem.run_bind, Sem.run_pure, Result.andThen_ok, run_loadVar_row w g t ty cs fr d (hg w hw) hu hd hi]
set_option maxHeartbeats 3200000 in
theorem rtagged_any (s : ByteArray) (hs1 : 1 ≤ s.size) (hs2 : s.size ≤ 100) (b o c : Nat) (l : List Int) (n : Nat) (hn : Hid (l.length = n)) (hn0 : 0 < n) (hbig : n ≤ 900000) (hby : Hid (bytesB l = true)) (w : World) (hs : Hid (Sk .u8 w (some ⟨b, o, none⟩) l)) :
    Calls Tryz.prog 177 #[.string s, .slice (some ⟨b, o, none⟩) n c] w fun e w' => e = .returned (.agg (arr .u8 (tagged (bys s) l))) ∧ Below w.heap.size w w' := by
  obtain ⟨i0, hi, hz0, hz1, hz2⟩ := info_parts byteInfo
  obtain ⟨W, hW⟩ : ∃ W, w.alloc (.cells #[.int .u8 0, .int .u8 0, .int .u8 0, .int .u8 0, .int .u8 0, .int .u8 0, .int .u8 0, .int .u8 0, .int .u8 0, .int .u8 0, .int .u8 0, .int .u8 0, .int .u8 0, .int .u8 0, .int .u8 0, .int .u8 0, .int .u8 0, .int .u8 0, .int .u8 0, .int .u8 0, .int .u8 0, .int .u8 0, .int .u8 0, .int .u8 0, .int .u8 0, .int .u8 0, .int .u8 0, .int .u8 0, .int .u8 0, .int .u8 0, .int .u8 0, .int .u8 0] 60) = W := ⟨_, rfl⟩
  have HBX : Hid (Below w.heap.size w W) := Lib.hid (by rw [← hW]; exact below_box0 _ _)
  have HR0 : Hid (Blk .u8 60 W w.heap.size (zer 32)) := Lib.hid (by
    rw [← hW, zarrh]
    exact Blk.new _ _)
  have HSZ : Hid (W.heap.size = w.heap.size + 1) := Lib.hid (by rw [← hW]; simp)
  have HS := Lib.hid (hs.out.below HBX.out)
  have HW := Lib.hid hW
  have hcv := fun w => run_bytes_of_string (P := Tryz.prog) w 9 196 5 s Tryz.underlying9 Tryz.underlying196 Tryz.underlying5
  clear hW hs
  go_enter Tryz.func177, Tryz.ntmps177
  go_wp2_with fail
  rw [HW.out]
  clear hcv HW
  obtain ⟨Wc, hWc⟩ : ∃ u, (W.alloc (.cells (bytesRow s (grownCap W s.size 0 5)) 5 ((bytesRow s (grownCap W s.size 0 5)).size, (bytesRow s (grownCap W s.size 0 5)).size + 1))).drew = u := ⟨_, rfl⟩
  have HBc : Hid (Below W.heap.size W Wc) := Lib.hid (by rw [← hWc]; exact (below_box0 _ _).drew)
  have HSc : Hid (Sk .u8 Wc (some ⟨w.heap.size + 1, 0, none⟩) (bys s)) := Lib.hid (by
    rw [← hWc, ← HSZ.out]
    exact bys_sk (heap_alloc_new W _))
  obtain ⟨gc, hgc⟩ : ∃ g, grownCap W s.size 0 5 = g := ⟨_, rfl⟩
  rw [hWc, hgc]
  clear hWc hgc
  refine (rsum_any (w.heap.size + 1) 0 gc (bys s) s.size (Lib.hid (bys_len s)) (by omega) (by omega) (Lib.hid (bys_bytes s)) _ HSc).mono ?_
  rintro e w1 ⟨rfl, hb1⟩
  have HB1 := Lib.hid (below_ext HBc.out hb1)
  clear hb1 HSc HBc
  obtain ⟨t, ht⟩ : ∃ t, sha (bys s) = t := ⟨_, rfl⟩
  have htl : t.length = 32 := by rw [← ht]; exact sha_len _
  have htb : bytesB t = true := by rw [← ht]; exact sha_bytes _
  have HT : Kp (sha (bys s) = t) := ⟨ht⟩
  have HTL := Lib.hid htl
  have HTB := Lib.hid htb
  rw [ht]
  clear ht htl htb
  go_upto_region 2 with ((with_reducible show wpList _ _ _ (⟨none, _, _, _, _, _⟩ :: _) _ _); refine wpList_store_row rfl 60 _ _ rfl w1.heap.size (arr .u8 t) rfl rfl _ _ (heap_alloc_new _ _) (hash_info HTL.out) (arrs_sz (l := zer 32) rfl HTL.out) (arr_one _) ?_)
  rw [World.setRow_alloc_new]
  simp only [Act.put]
  have HB2 := Lib.hid (below_ext HB1.out (below_box0 w1 (.cells (arr .u8 t) 60)))
  have HT2 : Hid (Blk .u8 60 (w1.alloc (.cells (arr .u8 t) 60)) w1.heap.size t) := Lib.hid (Blk.new _ _)
  obtain ⟨W2, hW2⟩ : ∃ u, w1.alloc (.cells (arr .u8 t) 60) = u := ⟨_, rfl⟩
  have HSN : Hid (w1.heap.size < W2.heap.size) := Lib.hid (by rw [← hW2]; simp)
  rw [hW2] at HB2 HT2 ⊢
  clear hW2 HB1
  obtain ⟨gt, hgt⟩ : ∃ g, w1.heap.size = g := ⟨_, rfl⟩
  rw [hgt] at HT2 HSN ⊢
  clear hgt
  have HBd := Lib.hid ((Below.refl W2.heap.size W2).drew)
  have HTd := Lib.hid (HT2.out.below HBd.out)
  have HB3 := Lib.hid (below_ext HB2.out HBd.out)
  obtain ⟨Wd, hWd⟩ : ∃ u, W2.drew = u := ⟨_, rfl⟩
  refine wp_region_T (S := fun w' => w'.heap[gt]? = some (.cells (arr .u8 t) 60 (0, 0))) (E := [5, 6, 7]) (by kernel_rfl) (HTd.out) (fun hHeld => ?_)
  refine wpT_take (i := 0) (oi := _) (v := (.agg (arr .u8 t))) rfl (by kernel_rfl) (by kernel_rfl) (by kernel_rfl) (by kernel_rfl) (fun _ _ _ h => h) (Or.inl ⟨by rfl, yields_row 60 _ rfl gt rfl _ _ _ _ (fun _ h => h) Tryz.underlying60 rfl (hash_info HTL.out)⟩) (by assumption) ?_
  try simp only [List.getElem_toArray, List.getElem_cons_zero, List.getElem_cons_succ, Act.put, List.setIfInBounds_toArray, List.set_cons_zero, List.set_cons_succ]
  refine wpT_take (i := 2) (oi := _) (v := (.agg (arr .u8 t))) rfl (by kernel_rfl) (by kernel_rfl) (by kernel_rfl) (by kernel_rfl) (fun _ _ _ h => h) (Or.inl ⟨by rfl, yields_row 60 _ rfl gt rfl _ _ _ _ (fun _ h => h) Tryz.underlying60 rfl (hash_info HTL.out)⟩) (by assumption) ?_
  try simp only [List.getElem_toArray, List.getElem_cons_zero, List.getElem_cons_succ, Act.put, List.setIfInBounds_toArray, List.set_cons_zero, List.set_cons_succ]
  refine wpT_take (i := 4) (oi := _) (v := ?_) rfl (by kernel_rfl) (by kernel_rfl) (by kernel_rfl) (by kernel_rfl) (fun _ _ _ h => h) (Or.inl ⟨by rfl, ?_⟩) (by assumption) ?_
  rotate_left; (intro wS hSw; (try dsimp only at hSw); go_simp <;> with_reducible rfl)
  try simp only [List.getElem_toArray, List.getElem_cons_zero, List.getElem_cons_succ, Act.put, List.setIfInBounds_toArray, List.set_cons_zero, List.set_cons_succ]
  refine wpT_one (i := 1) (by kernel_rfl) rfl (fun K hK => ?_)
  go_simp
  try rw [hWd]
  rw [hWd] at HBd HTd HB3
  refine (rjoin_nil t HTL _).mono ?_
  rintro e w3 ⟨v3, rfl, ho3, hb3⟩
  refine hK.out _ _ ?_ (fun hHeld => ?_)
  · exact HTd.out.below hb3
  clear hK K
  try simp only [List.getElem_toArray, List.getElem_cons_zero, List.getElem_cons_succ, Act.put, List.setIfInBounds_toArray, List.set_cons_zero, List.set_cons_succ]
  refine wpT_one (i := 3) (by kernel_rfl) rfl (fun K hK => ?_)
  go_simp
  obtain ⟨g3, cap3, e3, hg3, -, -, hsk3⟩ := ho3.cells (by have := HTL.out; omega)
  rw [HTL.out] at e3
  subst e3
  have HS3 := Lib.hid hsk3
  refine (rjoin_any g3 0 cap3 t 32 HTL (by decide) (by decide) t HTL _ HS3).mono ?_
  rintro e w4 ⟨v4, rfl, ho4, hb4⟩
  have HB4 := Lib.hid (below_ext hb3 hb4)
  have hbz4 := HB4.out.size
  have hrow4 := ho4.row (n := 64) (by rw [List.length_append, HTL.out])
  refine hK.out _ _ ?_ (fun hHeld => ?_)
  · exact (HTd.out.below hb3).below hb4
  clear hK K
  try simp only [List.getElem_toArray, List.getElem_cons_zero, List.getElem_cons_succ, Act.put, List.setIfInBounds_toArray, List.set_cons_zero, List.set_cons_succ]
  refine wpT_pass (i := 5) (by kernel_rfl) (by simp) rfl (fun K hK => ?_)
  have HS4 := Lib.hid ((HS.out.below HB3.out).below HB4.out)
  refine step_append_lies _ (by rfl) _ _ _ (by rfl) (w3.heap.size) 5 i0 _ 1 1 Tryz.underlying196 hi hz0 hz1 hz2 rfl (by omega) v4 64 ((t ++ t).map (.int .u8)) (by rfl) (hrow4) ⟨b, o, none⟩ n c (l.map (.int .u8)) (by rfl) (by simp [hn.out]) (HS4.out.news) (ints_oneCell .u8 _) (by omega) (by unfold maxLen; omega) (by omega) (by have := hb4.size; omega) (w4.heap.size) (rfl) ?_
  intro g5 cap5 w5 hown5 hgrow5 hat5 hlt5
  have HB5 := Lib.hid (Below.grown HB4.out hgrow5 (by omega) (fun j hj => by have := (World.ownsRow.lt hrow4 j hj).1; have := hb3.size; omega))
  have HO5 : Hid (OwnK .u8 5 w5 w3.heap.size (.slice (some ⟨g5, 0, none⟩) (64 + n) cap5) (t ++ t ++ l)) := Lib.hid (OwnK.app (by rw [List.length_append, HTL.out]) hn.out.symm hown5)
  refine hK.out _ _ ?_
  clear hK K
  try simp only [List.getElem_toArray, List.getElem_cons_zero, List.getElem_cons_succ, Act.put, List.setIfInBounds_toArray, List.set_cons_zero, List.set_cons_succ]
  refine wpT_pass (i := 6) (by kernel_rfl) (by simp) rfl (fun K hK => ?_)
  go_simp
  have hsk5 := HO5.out.skAt (by simp [hn.out]; omega)
  refine (rsum_any g5 0 cap5 (t ++ t ++ l) (64 + n) (Lib.hid (by simp [hn.out, HTL.out]; omega)) (by omega) (by omega) (Lib.hid (by rw [bytesB_app, bytesB_app, HTB.out, hby.out]; rfl)) _ (Lib.hid hsk5)).mono ?_
  rintro e w6 ⟨rfl, hb6⟩
  have HB6 := Lib.hid (HB5.out.trans (hb6.mono HB5.out.size))
  refine hK.out _ _ ?_
  clear hK K
  try simp only [List.getElem_toArray, List.getElem_cons_zero, List.getElem_cons_succ, Act.put, List.setIfInBounds_toArray, List.set_cons_zero, List.set_cons_succ]
  refine wpT_pass (i := 7) (by kernel_rfl) (by simp) rfl (fun K hK => ?_)
  rw [show (if Region.wanted _ _ = true then _ else _ : Prop) = _ from if_pos rfl]
  refine wp_store_row 60 _ _ rfl w.heap.size (arr .u8 (sha (t ++ t ++ l))) rfl rfl 60 _ (((HR0.out.below HB3.out)).below HB6.out) (hash_info (sha_len _)) (arrs_sz rfl (sha_len _)) (arr_one _) ?_
  refine hK.out _ _ ?_
  clear hK K
  try simp only [List.getElem_toArray, List.getElem_cons_zero, List.getElem_cons_succ, Act.put, List.setIfInBounds_toArray, List.set_cons_zero, List.set_cons_succ]
  refine wpT_done (by kernel_rfl) ?_ _
  have HRR : Hid (Blk .u8 60 (w6.setRow w.heap.size (arr .u8 (sha (t ++ t ++ l)))) w.heap.size (sha (t ++ t ++ l))) := Lib.hid ((HR0.out.below HB3.out).below HB6.out).setRow
  have HBF : Hid (Below w.heap.size w (w6.setRow w.heap.size (arr .u8 (sha (t ++ t ++ l))))) := Lib.hid (below_setRow' (below_ext HBX.out (below_ext HB3.out HB6.out)) (Nat.le_refl _))
  have HTG : Kp (tagged (bys s) l = sha (t ++ t ++ l)) := ⟨by rw [tagged, HT.out]⟩
  obtain ⟨R, hR⟩ : ∃ R, sha (t ++ t ++ l) = R := ⟨_, rfl⟩
  have hRl : R.length = 32 := by rw [← hR]; exact sha_len _
  rw [hR] at HRR HBF HTG ⊢
  obtain ⟨w8, hw8⟩ : ∃ u, w6.setRow w.heap.size (arr .u8 R) = u := ⟨_, rfl⟩
  rw [hw8] at HRR HBF ⊢
  have HI : Kp ((Tryz.prog.info? 60).map (·.size) = some (arr .u8 R).size) := ⟨hash_info hRl⟩
  clear hR hRl hw8
  go_wp2
  exact bodyPost_ret (v := .agg (arr .u8 R)) (results_cell_row (p := 4) (ty := 60) rfl _ _ w.heap.size _ _ _ _ rfl HRR.out Tryz.underlying60 rfl HI.out) rfl ⟨by rw [HTG.out], HBF.out⟩
end Go.Proofs.YtojedhnglobddaaGreatDoor
namespace Go.Proofs.YtojedhnglobddaaGreatDoor
open Go.RowKit SpM
set_option linter.unusedVariables false
set_option linter.unusedSimpArgs false
set_option maxRecDepth 100000
/-- the number of the first k bytes. -/
def numL (m : Int) (h : List Int) : Nat → Int
  | 0 => 0
  | k + 1 => (numL m h k * 256 + h.getD k 0) % m
def numv (m : Int) (h : List Int) : Int := numL m h 16
theorem numL_lo {m : Int} {h : List Int} (hm : 1 ≤ m) (k : Nat) : 0 ≤ numL m h k ∧ numL m h k < m := by
  cases k with
  | zero => exact ⟨Int.le_refl _, by simp [numL]; omega⟩
  | succ k => exact ⟨Int.emod_nonneg _ (by omega), Int.emod_lt_of_pos _ (by omega)⟩
theorem dbl_step {acc m a : Int} {j : Nat} (h : acc * 2 ^ j % m = a) : acc * 2 ^ (j + 1) % m = (a + a) % m := by
  rw [← h, Int.pow_succ, ← Int.mul_assoc, Int.mul_comm _ 2, Int.add_emod_emod, Int.emod_add_emod]
  congr 1
  omega
theorem num_step {acc m a c : Int} (h : acc * 2 ^ 8 % m = a) : (a + c % m) % m = (acc * 256 + c) % m := by
  rw [← h, Int.add_emod_emod, Int.emod_add_emod]
  rfl
theorem num_step2 {acc m c : Int} : (acc * (256 % m) % m + c) % m = (acc * 256 + c) % m := by
  have e : acc * (256 % m) % m = acc * 256 % m := by
    rw [Int.mul_emod acc (256 % m), Int.emod_emod_of_dvd _ (Int.dvd_refl m), ← Int.mul_emod]
  rw [e, Int.emod_add_emod]
set_option maxHeartbeats 1600000 in
theorem number_any (h : List Int) (hh : Hid (h.length = 32)) (hb : Hid (bytesB h = true)) (m : Int) (h1 : 1 ≤ m) (h2 : m < 2305843009213693952) (w : World) :
    Calls Tryz.prog 176 #[.agg (arr .u8 h), .int .i64 m] w fun e w' => e = .returned (.tuple #[.int .i64 (numv m h), .int .i64 0]) ∧ Below w.heap.size w w' := by
  obtain ⟨W, hW⟩ : ∃ W, w.alloc (.cells (arr .u8 h) 60) = W := ⟨_, rfl⟩
  have HBX : Hid (Below w.heap.size w W) := Lib.hid (by rw [← hW]; exact below_box0 _ _)
  have HR0 : Hid (Blk .u8 60 W w.heap.size h) := Lib.hid (by rw [← hW]; exact Blk.new _ _)
  have HW := Lib.hid hW
  clear hW
  have hm0 : ((m : Int) == 0) = false := by simp; omega
  have hm1 : ¬ m < 1 := by omega
  have hm2 : ¬ 2305843009213693952 ≤ m := by omega
  go_enter Tryz.func176, Tryz.ntmps176
  go_wp2
  rw [HW.out]
  go_loopw [6, 17] (fun p i u => ∃ (k : Nat) (acc : Int), k ≤ 16 ∧ i = .int .i64 k ∧ p = .int .i64 acc ∧ Hid (numL m h k = acc) ∧ Hid (Below W.heap.size W u)) (fun _ i _ => 16 - (intOf i).toNat)
  case atStart => exact ⟨0, 0, by omega, rfl, rfl, Lib.hid rfl, Lib.hid (Below.refl _ _)⟩
  case round =>
    obtain ⟨k, acc, hk, rfl, rfl, HN, HBr⟩ := hrel
    have ha := numL_lo (m := m) (h := h) h1 k
    rw [HN.out] at ha
    obtain ⟨a0, a1⟩ := ha
    by_cases hlt : k < 16
    · have hc := (HR0.out.below HBr.out).cell (j := k) (by have := hh.out; omega)
      obtain ⟨c0, c1⟩ := bytesB_get hb.out k
      have hnx : numL m h (k + 1) = (acc * 256 + h.getD k 0) % m := by rw [numL, HN.out]
      obtain ⟨c, hcc⟩ : ∃ c, h.getD k 0 = c := ⟨_, rfl⟩
      rw [hcc] at hc c0 c1 hnx
      have HNX := Lib.hid hnx
      clear hcc hnx
      have dk : decide ((k : Int) < 16) = true := by simp; omega
      go_wp2
      go_loopw [6, 21] (fun p i u => ∃ (j : Nat) (a : Int), j ≤ 8 ∧ i = .int .i64 j ∧ p = .int .i64 a ∧ Hid (acc * 2 ^ j % m = a) ∧ 0 ≤ a ∧ a < m ∧ Hid (Below W.heap.size W u)) (fun _ i _ => 8 - (intOf i).toNat)
      case atStart => exact ⟨0, acc, by omega, rfl, rfl, Lib.hid (by rw [Int.pow_zero, Int.mul_one]; exact Int.emod_eq_of_lt a0 a1), a0, a1, HBr⟩
      case round =>
        obtain ⟨j, a, hj, rfl, rfl, HA, b0, b1, HBu⟩ := hrel
        by_cases hlj : j < 8
        · have HA2 := Lib.hid (dbl_step HA.out)
          have e0 : 0 ≤ (a + a) % m := Int.emod_nonneg _ (by omega)
          have e1 : (a + a) % m < m := Int.emod_lt_of_pos _ (by omega)
          obtain ⟨q, hq⟩ : ∃ q, (a + a) % m = q := ⟨_, rfl⟩
          rw [hq] at e0 e1 HA2
          have HQ := Lib.hid hq
          clear hq HA
          go_wp2_with fail
          refine (add_ok a a m h2 b0 b1 b0 b1 _).mono ?_
          rintro e w' ⟨rfl, rfl⟩
          rw [HQ.out]
          go_wp2
          go_roundw
          case rel => exact ⟨j + 1, q, by omega, by go_num, rfl, HA2, e0, e1, HBu⟩
          case measure => simp [intOf]; omega
        · have HA8 : Hid (acc * 2 ^ 8 % m = a) := Lib.hid (by have h := HA.out; rwa [show j = 8 by omega] at h)
          have HE : Hid ((a + c % m) % m = (acc * 256 + c) % m) := Lib.hid (num_step HA8.out)
          have f0 : 0 ≤ c % m := Int.emod_nonneg _ (by omega)
          have f1 : c % m < m := Int.emod_lt_of_pos _ (by omega)
          obtain ⟨cm, hcm⟩ : ∃ x, c % m = x := ⟨_, rfl⟩
          rw [hcm] at f0 f1 HE
          obtain ⟨q, hq⟩ : ∃ q, (a + cm) % m = q := ⟨_, rfl⟩
          have HN2 : Hid (numL m h (k + 1) = q) := Lib.hid (by rw [HNX.out, ← HE.out, hq])
          have HQ := Lib.hid hq
          clear hq HA HA8 HE HNX HN
          go_wp2_with fail
          refine (add_ok a cm m h2 b0 b1 f0 f1 _).mono ?_
          rintro e w' ⟨rfl, rfl⟩
          rw [HQ.out]
          go_wp2
          go_roundw
          case rel => exact ⟨k + 1, q, by omega, by go_num, rfl, HN2, HBu⟩
          case measure => simp [intOf]; omega
    · have HF : Hid (numv m h = acc) := Lib.hid (by have e := HN.out; rwa [show k = 16 by omega] at e)
      have hbf := below_ext HBX.out HBr.out
      clear HN
      go_wp2
      go_ret2
      exact ⟨by rw [HF.out]; rfl, hbf⟩
set_option maxHeartbeats 1600000 in
theorem rnumber_any (h : List Int) (hh : Hid (h.length = 32)) (hb : Hid (bytesB h = true)) (m : Int) (h1 : 1 ≤ m) (h2 : m < 2305843009213693952) (w : World) :
    Calls Tryz.prog 181 #[.agg (arr .u8 h), .int .i64 m] w fun e w' => e = .returned (.int .i64 (numv m h)) ∧ Below w.heap.size w w' := by
  obtain ⟨W, hW⟩ : ∃ W, w.alloc (.cells (arr .u8 h) 60) = W := ⟨_, rfl⟩
  have HBX : Hid (Below w.heap.size w W) := Lib.hid (by rw [← hW]; exact below_box0 _ _)
  have HR0 : Hid (Blk .u8 60 W w.heap.size h) := Lib.hid (by rw [← hW]; exact Blk.new _ _)
  have HW := Lib.hid hW
  clear hW
  have hm0 : ((m : Int) == 0) = false := by simp; omega
  go_enter Tryz.func181, Tryz.ntmps181
  go_wp2
  rw [HW.out]
  go_loopw [5, 6] (fun p i u => ∃ (k : Nat) (acc : Int), k ≤ 16 ∧ i = .int .i64 k ∧ p = .int .i64 acc ∧ Hid (numL m h k = acc) ∧ Hid (Below W.heap.size W u)) (fun _ i _ => 16 - (intOf i).toNat)
  case atStart => exact ⟨0, 0, by omega, rfl, rfl, Lib.hid rfl, Lib.hid (Below.refl _ _)⟩
  case round =>
    obtain ⟨k, acc, hk, rfl, rfl, HN, HBr⟩ := hrel
    have ha := numL_lo (m := m) (h := h) h1 k
    rw [HN.out] at ha
    obtain ⟨a0, a1⟩ := ha
    by_cases hlt : k < 16
    · have hc := (HR0.out.below HBr.out).cell (j := k) (by have := hh.out; omega)
      obtain ⟨c0, c1⟩ := bytesB_get hb.out k
      have hnx : numL m h (k + 1) = (acc * 256 + h.getD k 0) % m := by rw [numL, HN.out]
      obtain ⟨c, hcc⟩ : ∃ c, h.getD k 0 = c := ⟨_, rfl⟩
      rw [hcc] at hc c0 c1 hnx
      have HNX := Lib.hid hnx
      have f0 : 0 ≤ 256 % m := Int.emod_nonneg _ (by omega)
      have f1 : 256 % m < m := Int.emod_lt_of_pos _ (by omega)
      have hst := num_step2 (acc := acc) (m := m) (c := c)
      have ht : Int.tmod 256 m = 256 % m := Int.tmod_eq_emod_of_nonneg (by decide)
      have hw0 : IntKind.i64.wrap (256 % m) = 256 % m := IntWalk.i64_in _ (by omega)
      obtain ⟨d, hd⟩ : ∃ d, 256 % m = d := ⟨_, rfl⟩
      rw [hd] at f0 f1 hst ht hw0
      have g0 : 0 ≤ acc * d % m := Int.emod_nonneg _ (by omega)
      have g1 : acc * d % m < m := Int.emod_lt_of_pos _ (by omega)
      obtain ⟨p, hp⟩ : ∃ p, acc * d % m = p := ⟨_, rfl⟩
      rw [hp] at g0 g1 hst
      obtain ⟨q, hq⟩ : ∃ q, (p + c) % m = q := ⟨_, rfl⟩
      have HP := Lib.hid hp
      have HQ := Lib.hid hq
      have hw1 : IntKind.i64.wrap (p + c) = p + c := IntWalk.i64_in _ (by omega)
      have HN2 : Hid (numL m h (k + 1) = q) := Lib.hid (by rw [HNX.out, ← hst, hq])
      clear hst hp hq HNX HN hd
      go_wp2
      go_quiet ((first | (go_at_call 49; exact quiet_w (rmul_any acc d m p HP h2 a0 a1 f0 f1 _)) | (go_at_call 59; exact quiet_w (rreduce_any (p + c) m q HQ h1 h2 (by omega) (by omega) _))))
      have HB2 := Lib.hid (below_drawN HBr.out nq)
      clear hc
      go_wp2
      go_roundw
      case rel => exact ⟨k + 1, q, by omega, by go_num, rfl, HN2, HB2⟩
      case measure => simp [intOf]; omega
    · have HF : Hid (numv m h = acc) := Lib.hid (by have e := HN.out; rwa [show k = 16 by omega] at e)
      have hbf := below_ext HBX.out HBr.out
      clear HN
      go_wp2
      go_ret
      exact ⟨by rw [HF.out]; rfl, hbf⟩
end Go.Proofs.YtojedhnglobddaaGreatDoor
namespace Go.Proofs.YtojedhnglobddaaGreatDoor
open Go.RowKit SpM
set_option linter.unusedVariables false
set_option linter.unusedSimpArgs false
set_option maxRecDepth 100000
/-- the cells of a transcript. -/
def tcs (h : List Int) (c : Int) : Array Value := arr .u8 h ++ #[.int .i64 c]
theorem list32 : ∀ h : List Int, h.length = 32 → ∃ a0 a1 a2 a3 a4 a5 a6 a7 a8 a9 a10 a11 a12 a13 a14 a15 a16 a17 a18 a19 a20 a21 a22 a23 a24 a25 a26 a27 a28 a29 a30 a31, h = [a0, a1, a2, a3, a4, a5, a6, a7, a8, a9, a10, a11, a12, a13, a14, a15, a16, a17, a18, a19, a20, a21, a22, a23, a24, a25, a26, a27, a28, a29, a30, a31]
  | [a0, a1, a2, a3, a4, a5, a6, a7, a8, a9, a10, a11, a12, a13, a14, a15, a16, a17, a18, a19, a20, a21, a22, a23, a24, a25, a26, a27, a28, a29, a30, a31], _ => ⟨a0, a1, a2, a3, a4, a5, a6, a7, a8, a9, a10, a11, a12, a13, a14, a15, a16, a17, a18, a19, a20, a21, a22, a23, a24, a25, a26, a27, a28, a29, a30, a31, rfl⟩
theorem built0 : Tryz.prog.built 163 [] = some (tcs (zer 32) 0) := by kernel_rfl
theorem built1 (h : List Int) (hl : h.length = 32) : Tryz.prog.built 163 [(0, .agg (arr .u8 h))] = some (tcs h 0) := by
  obtain ⟨a0, a1, a2, a3, a4, a5, a6, a7, a8, a9, a10, a11, a12, a13, a14, a15, a16, a17, a18, a19, a20, a21, a22, a23, a24, a25, a26, a27, a28, a29, a30, a31, rfl⟩ := list32 h hl
  kernel_rfl
theorem built2 (h : List Int) (hl : h.length = 32) (c : Int) : Tryz.prog.built 163 [(0, .agg (arr .u8 h)), (1, .int .i64 c)] = some (tcs h c) := by
  obtain ⟨a0, a1, a2, a3, a4, a5, a6, a7, a8, a9, a10, a11, a12, a13, a14, a15, a16, a17, a18, a19, a20, a21, a22, a23, a24, a25, a26, a27, a28, a29, a30, a31, rfl⟩ := list32 h hl
  kernel_rfl
theorem wpList_built {P : Program} {ops : Array Oper} {rest : List Oper} {o : Oper} {a : Act} {w : World} {Q : Exit → Act → World → Prop} (hg : o.guard = none) (t : TypeId) (l : List (Nat × Operand)) (ho : o.op = .build t l.toArray) (cells : Array Value)
    (hf : P.built t (l.map fun x => (x.1, a.eval x.2)) = some cells) (h : wpList P ops Q rest (a.put o.dst (.agg cells)) w) : wpList P ops Q (o :: rest) a w := by
  have e : (l.toArray.map fun (x : Nat × Operand) => (x.1, a.eval x.2)).toList = l.map fun x => (x.1, a.eval x.2) := by simp
  refine wpList_build hg t l.toArray ho ?_ ?_
  · show (P.built t (l.toArray.map fun (x : Nat × Operand) => (x.1, a.eval x.2)).toList).isSome = true
    rw [e, hf]; rfl
  · show wpList P ops Q rest (a.put o.dst (.agg ((P.built t (l.toArray.map fun (x : Nat × Operand) => (x.1, a.eval x.2)).toList).getD #[]))) w
    rw [e, hf]; exact h
theorem tcs_size {h : List Int} {c : Int} (hl : h.length = 32) : (tcs h c).size = 33 := by simp [tcs, arr_size, hl]
theorem infoT : (Tryz.prog.info? 163).map (·.size) = some 33 := by kernel_rfl
theorem tr_info {h : List Int} {c : Int} (hl : h.length = 32) : (Tryz.prog.info? 163).map (·.size) = some (tcs h c).size := infoT.trans (congrArg some (tcs_size hl).symm)
theorem tcs_one (h : List Int) (c : Int) : (tcs h c).all (·.oneCell') = true := by simp [tcs, arr, Value.oneCell']
theorem ztr : (#[.int .u8 0, .int .u8 0, .int .u8 0, .int .u8 0, .int .u8 0, .int .u8 0, .int .u8 0, .int .u8 0, .int .u8 0, .int .u8 0, .int .u8 0, .int .u8 0, .int .u8 0, .int .u8 0, .int .u8 0, .int .u8 0, .int .u8 0, .int .u8 0, .int .u8 0, .int .u8 0, .int .u8 0, .int .u8 0, .int .u8 0, .int .u8 0, .int .u8 0, .int .u8 0, .int .u8 0, .int .u8 0, .int .u8 0, .int .u8 0, .int .u8 0, .int .u8 0, .int .i64 0] : Array Value) = tcs (zer 32) 0 := rfl
theorem tcs_sz {h h' : List Int} {c c' : Int} (hl : h.length = 32) (hl' : h'.length = 32) : (tcs h c).size = (tcs h' c').size := by rw [tcs_size hl, tcs_size hl']
/-- a block that holds a transcript. -/
def TBlk (w : World) (b : Nat) (h : List Int) (c : Int) : Prop := w.heap[b]? = some (.cells (tcs h c) 163 (0, 0))
theorem TBlk.below {w w' : World} {b : Nat} {h : List Int} {c : Int} (hh : TBlk w b h c) (hb : Below w.heap.size w w') : TBlk w' b h c := (hb.block b (Array.getElem?_eq_some_iff.1 hh).1).trans hh
theorem TBlk.new (w : World) (h : List Int) (c : Int) : TBlk (w.alloc (.cells (tcs h c) 163)) w.heap.size h c := heap_alloc_new _ _
theorem TBlk.lt {w : World} {b : Nat} {h : List Int} {c : Int} (hh : TBlk w b h c) : b < w.heap.size := (Array.getElem?_eq_some_iff.1 hh).1
theorem TBlk.setRow {w : World} {b : Nat} {h h' : List Int} {c c' : Int} (hh : TBlk w b h c) : TBlk (w.setRow b (tcs h' c')) b h' c' := setRow_heap w b _ _ _ _ hh
theorem TBlk.count {w : World} {b : Nat} {h : List Int} {c : Int} (hh : TBlk w b h c) (hl : h.length = 32) : w.cell? ⟨b, 32, none⟩ = some (.int .i64 c) := by
  rw [cell_blk hh, tcs, Array.getElem?_append_right (by rw [arr_size, hl]; exact Nat.le_refl _), arr_size, hl]
  rfl
theorem TBlk.sk {w : World} {b : Nat} {h : List Int} {c : Int} (hh : TBlk w b h c) : Sk .u8 w (some ⟨b, 0, none⟩) h := fun j hj => ⟨b, 0, rfl, by
  rw [Nat.zero_add, cell_blk hh, tcs, Array.getElem?_append_left (by rw [arr_size]; exact hj)]
  exact arr_get hj⟩
theorem tvalid_any (h : List Int) (hl : Hid (h.length = 32)) (c : Int) (h0 : 0 ≤ c) (h1 : c ≤ 1000) (w : World) :
    Calls Tryz.prog 174 #[.agg (tcs h c)] w fun e w' => e = .returned (.bool true) ∧ Below w.heap.size w w' := by
  have hc := (TBlk.new w h c).count hl.out
  have d1 : decide ((0 : Int) ≤ c) = true := by simp [h0]
  have d2 : decide (c ≤ 1000) = true := by simp [h1]
  go_enter Tryz.func174, Tryz.ntmps174
  go_wp2
  go_ret
  exact ⟨rfl, below_box0 _ _⟩
theorem rtvalid_any (h : List Int) (hl : Hid (h.length = 32)) (c : Int) (h0 : 0 ≤ c) (h1 : c ≤ 1000) (w : World) :
    Calls Tryz.prog 180 #[.agg (tcs h c)] w fun e w' => e = .returned (.bool true) ∧ Below w.heap.size w w' := by
  have hc := (TBlk.new w h c).count hl.out
  have d1 : decide ((0 : Int) ≤ c) = true := by simp [h0]
  have d2 : decide (c ≤ 1000) = true := by simp [h1]
  go_enter Tryz.func180, Tryz.ntmps180
  go_wp2
  go_ret
  exact ⟨rfl, below_box0 _ _⟩
/-- the tag of new transcripts. -/
def tagT : ByteArray := ⟨#[115, 112, 101, 99, 105, 101, 47, 116, 114, 97, 110, 115, 99, 114, 105, 112, 116]⟩
/-- a transcript and an error. -/
def TrE (h : List Int) (c e : Int) : Value := .tuple #[.agg (tcs h c), .int .i64 e]
def newL (l : List Int) : List Int := tagged (bys tagT) l
set_option maxHeartbeats 1600000 in
theorem tnew_bad (s : ByteArray) (hs : s.size ≤ 1000) (hr : Hid (labB (bys s) = false)) (w : World) :
    Calls Tryz.prog 139 #[.string s] w fun e w' => e = .returned (TrE (zer 32) 0 1) ∧ Below w.heap.size w w' := by
  obtain ⟨W, hW⟩ : ∃ W, w.alloc (.cells #[.int .u8 0, .int .u8 0, .int .u8 0, .int .u8 0, .int .u8 0, .int .u8 0, .int .u8 0, .int .u8 0, .int .u8 0, .int .u8 0, .int .u8 0, .int .u8 0, .int .u8 0, .int .u8 0, .int .u8 0, .int .u8 0, .int .u8 0, .int .u8 0, .int .u8 0, .int .u8 0, .int .u8 0, .int .u8 0, .int .u8 0, .int .u8 0, .int .u8 0, .int .u8 0, .int .u8 0, .int .u8 0, .int .u8 0, .int .u8 0, .int .u8 0, .int .u8 0, .int .i64 0] 163) = W := ⟨_, rfl⟩
  have HBX : Hid (Below w.heap.size w W) := Lib.hid (by rw [← hW]; exact below_box0 _ _)
  have HT0 : Hid (TBlk W w.heap.size (zer 32) 0) := Lib.hid (by rw [← hW, ztr]; exact TBlk.new _ _ _)
  have HW := Lib.hid hW
  clear hW
  go_enter Tryz.func139, Tryz.ntmps139
  go_wp2_with fail
  rw [HW.out]
  refine (tlabel_any s hs false hr _).mono ?_
  rintro e w1 ⟨rfl, hb1⟩
  have HT1 := Lib.hid (HT0.out.below hb1)
  have HB1 := Lib.hid (below_ext HBX.out hb1)
  clear hb1
  go_wp2_with (first
    | ((with_reducible show wpList _ _ _ (⟨some 9, _, _, _, _, _⟩ :: _) _ _); refine wpList_built rfl 163 _ rfl _ built0 ?_)
    | ((with_reducible show wpList _ _ _ (⟨none, _, _, _, _, _⟩ :: _) _ _); refine wpList_store_row rfl 163 _ _ rfl w.heap.size (tcs (zer 32) 0) rfl rfl _ _ HT1.out (tr_info rfl) rfl (tcs_one _ _) ?_))
  have HRR : Hid (TBlk (w1.setRow w.heap.size (tcs (zer 32) 0)) w.heap.size (zer 32) 0) := Lib.hid HT1.out.setRow
  have HBF : Below w.heap.size w (w1.setRow w.heap.size (tcs (zer 32) 0)) := below_setRow' HB1.out (Nat.le_refl _)
  exact bodyPost_ret (v := TrE (zer 32) 0 1) (results_cell_tmp2 (p := 2) (q := 3) (ty := 163) rfl _ _ ⟨w.heap.size, 0, none⟩ _ _ rfl rfl (run_loadVar_row _ _ _ _ _ _ _ HRR.out Tryz.underlying163 rfl (tr_info rfl))) rfl ⟨rfl, HBF⟩
set_option maxHeartbeats 1600000 in
theorem tnew_ok (s : ByteArray) (hs : s.size ≤ 1000) (hr : Hid (labB (bys s) = true)) (w : World) (hv : Hid (VarsD w)) :
    Calls Tryz.prog 139 #[.string s] w fun e w' => e = .returned (TrE (newL (bys s)) 0 0) ∧ Below w.heap.size w w' := by
  have hs0 : 1 ≤ s.size := by
    have h := hr.out
    rw [labB, bys_len] at h
    simp at h
    exact h.1.1
  obtain ⟨W, hW⟩ : ∃ W, w.alloc (.cells #[.int .u8 0, .int .u8 0, .int .u8 0, .int .u8 0, .int .u8 0, .int .u8 0, .int .u8 0, .int .u8 0, .int .u8 0, .int .u8 0, .int .u8 0, .int .u8 0, .int .u8 0, .int .u8 0, .int .u8 0, .int .u8 0, .int .u8 0, .int .u8 0, .int .u8 0, .int .u8 0, .int .u8 0, .int .u8 0, .int .u8 0, .int .u8 0, .int .u8 0, .int .u8 0, .int .u8 0, .int .u8 0, .int .u8 0, .int .u8 0, .int .u8 0, .int .u8 0, .int .i64 0] 163) = W := ⟨_, rfl⟩
  have HBX : Hid (Below w.heap.size w W) := Lib.hid (by rw [← hW]; exact below_box0 _ _)
  have HT0 : Hid (TBlk W w.heap.size (zer 32) 0) := Lib.hid (by rw [← hW, ztr]; exact TBlk.new _ _ _)
  have HV := Lib.hid (hv.out.below HBX.out)
  have HW := Lib.hid hW
  have hcv := fun w => run_bytes_of_string (P := Tryz.prog) w 9 196 5 s Tryz.underlying9 Tryz.underlying196 Tryz.underlying5
  clear hW hv
  go_enter Tryz.func139, Tryz.ntmps139
  go_wp2_with fail
  rw [HW.out]
  refine (tlabel_any s hs true hr _).mono ?_
  rintro e w1 ⟨rfl, hb1⟩
  have HT1 := Lib.hid (HT0.out.below hb1)
  have HB1 := Lib.hid (below_ext HBX.out hb1)
  have HV1 := Lib.hid (HV.out.below hb1)
  clear hb1 HW
  go_wp2_with fail
  clear hcv
  obtain ⟨Wc, hWc⟩ : ∃ u, (w1.alloc (.cells (bytesRow s (grownCap w1 s.size 0 5)) 5 ((bytesRow s (grownCap w1 s.size 0 5)).size, (bytesRow s (grownCap w1 s.size 0 5)).size + 1))).drew = u := ⟨_, rfl⟩
  have HBc : Hid (Below w1.heap.size w1 Wc) := Lib.hid (by rw [← hWc]; exact (below_box0 _ _).drew)
  have HSc : Hid (Sk .u8 Wc (some ⟨w1.heap.size, 0, none⟩) (bys s)) := Lib.hid (by
    rw [← hWc]
    exact bys_sk (heap_alloc_new w1 _))
  obtain ⟨gc, hgc⟩ : ∃ g, grownCap w1 s.size 0 5 = g := ⟨_, rfl⟩
  rw [hWc, hgc]
  clear hWc hgc
  refine (tagged_any tagT (by decide) (by decide) w1.heap.size 0 gc (bys s) s.size (Lib.hid (bys_len s)) hs0 (by omega) (Lib.hid (bys_bytes s)) _ HSc (Lib.hid (HV1.out.below HBc.out))).mono ?_
  rintro e w2 ⟨rfl, hb2⟩
  have HT2 := Lib.hid ((HT1.out.below HBc.out).below hb2)
  have HB2 := Lib.hid (below_ext (below_ext HB1.out HBc.out) hb2)
  obtain ⟨R, hR⟩ : ∃ R, tagged (bys tagT) (bys s) = R := ⟨_, rfl⟩
  have hRl : R.length = 32 := by rw [← hR]; exact tagged_len _ _
  have HN : Kp (newL (bys s) = R) := ⟨hR⟩
  have HRL := Lib.hid hRl
  rw [hR, show HashOk R = .tuple #[.agg (arr .u8 R), .int .i64 0] from rfl]
  clear hb2 HSc HBc HT1 HB1 HV1 hR hRl
  go_upto_region 4 with ((with_reducible show wpList _ _ _ (⟨none, _, _, _, _, _⟩ :: _) _ _); refine wpList_store_row rfl 60 _ _ rfl w2.heap.size (arr .u8 R) rfl rfl _ _ (heap_alloc_new _ _) (hash_info HRL.out) (arrs_sz (l := zer 32) rfl HRL.out) (arr_one _) ?_)
  rw [World.setRow_alloc_new]
  try simp only [Act.put]
  have HH3 : Hid (Blk .u8 60 (w2.alloc (.cells (arr .u8 R) 60)) w2.heap.size R) := Lib.hid (Blk.new _ _)
  have HT3 := Lib.hid (HT2.out.below (below_box0 w2 (.cells (arr .u8 R) 60)))
  have HB3 := Lib.hid (below_ext HB2.out (below_box0 w2 (.cells (arr .u8 R) 60)))
  obtain ⟨W3, hW3⟩ : ∃ u, w2.alloc (.cells (arr .u8 R) 60) = u := ⟨_, rfl⟩
  rw [hW3] at HH3 HT3 HB3 ⊢
  clear hW3
  go_wp2_with (first
    | ((with_reducible show wpList _ _ _ (⟨some 16, _, _, _, _, _⟩ :: _) _ _); refine wpList_load_row rfl 60 _ rfl w2.heap.size rfl _ _ _ _ HH3.out Tryz.underlying60 rfl (hash_info HRL.out) ?_)
    | ((with_reducible show wpList _ _ _ (⟨some 17, _, _, _, _, _⟩ :: _) _ _); refine wpList_built rfl 163 _ rfl _ (built1 R HRL.out) ?_)
    | ((with_reducible show wpList _ _ _ (⟨none, _, _, _, _, _⟩ :: _) _ _); refine wpList_store_row rfl 163 _ _ rfl w.heap.size (tcs R 0) rfl rfl _ _ HT3.out (tr_info HRL.out) (tcs_sz rfl HRL.out) (tcs_one _ _) ?_))
  have HRR : Hid (TBlk (W3.setRow w.heap.size (tcs R 0)) w.heap.size R 0) := Lib.hid HT3.out.setRow
  have HBF : Below w.heap.size w (W3.setRow w.heap.size (tcs R 0)) := below_setRow' HB3.out (Nat.le_refl _)
  exact bodyPost_ret (v := TrE R 0 0) (results_cell_tmp2 (p := 2) (q := 3) (ty := 163) rfl _ _ ⟨w.heap.size, 0, none⟩ _ _ rfl rfl (run_loadVar_row _ _ _ _ _ _ _ HRR.out Tryz.underlying163 rfl (tr_info HRL.out))) rfl ⟨by rw [HN.out], HBF⟩
set_option maxHeartbeats 1600000 in
theorem rtnew_ok (s : ByteArray) (hs : s.size ≤ 1000) (hs0 : 1 ≤ s.size) (w : World) :
    Calls Tryz.prog 147 #[.string s] w fun e w' => e = .returned (.agg (tcs (newL (bys s)) 0)) ∧ Below w.heap.size w w' := by
  obtain ⟨W, hW⟩ : ∃ W, w.alloc (.cells #[.int .u8 0, .int .u8 0, .int .u8 0, .int .u8 0, .int .u8 0, .int .u8 0, .int .u8 0, .int .u8 0, .int .u8 0, .int .u8 0, .int .u8 0, .int .u8 0, .int .u8 0, .int .u8 0, .int .u8 0, .int .u8 0, .int .u8 0, .int .u8 0, .int .u8 0, .int .u8 0, .int .u8 0, .int .u8 0, .int .u8 0, .int .u8 0, .int .u8 0, .int .u8 0, .int .u8 0, .int .u8 0, .int .u8 0, .int .u8 0, .int .u8 0, .int .u8 0, .int .i64 0] 163) = W := ⟨_, rfl⟩
  have HBX : Hid (Below w.heap.size w W) := Lib.hid (by rw [← hW]; exact below_box0 _ _)
  have HT0 : Hid (TBlk W w.heap.size (zer 32) 0) := Lib.hid (by rw [← hW, ztr]; exact TBlk.new _ _ _)
  have HSZ : Hid (W.heap.size = w.heap.size + 1) := Lib.hid (by rw [← hW]; simp)
  have HW := Lib.hid hW
  have hcv := fun w => run_bytes_of_string (P := Tryz.prog) w 9 196 5 s Tryz.underlying9 Tryz.underlying196 Tryz.underlying5
  clear hW
  go_enter Tryz.func147, Tryz.ntmps147
  go_wp2_with fail
  rw [HW.out]
  clear hcv HW
  obtain ⟨Wc, hWc⟩ : ∃ u, (W.alloc (.cells (bytesRow s (grownCap W s.size 0 5)) 5 ((bytesRow s (grownCap W s.size 0 5)).size, (bytesRow s (grownCap W s.size 0 5)).size + 1))).drew = u := ⟨_, rfl⟩
  have HBc : Hid (Below W.heap.size W Wc) := Lib.hid (by rw [← hWc]; exact (below_box0 _ _).drew)
  have HSc : Hid (Sk .u8 Wc (some ⟨w.heap.size + 1, 0, none⟩) (bys s)) := Lib.hid (by
    rw [← hWc, ← HSZ.out]
    exact bys_sk (heap_alloc_new W _))
  obtain ⟨gc, hgc⟩ : ∃ g, grownCap W s.size 0 5 = g := ⟨_, rfl⟩
  rw [hWc, hgc]
  clear hWc hgc
  refine (rtagged_any tagT (by decide) (by decide) (w.heap.size + 1) 0 gc (bys s) s.size (Lib.hid (bys_len s)) hs0 (by omega) (Lib.hid (bys_bytes s)) _ HSc).mono ?_
  rintro e w2 ⟨rfl, hb2⟩
  have HT2 := Lib.hid ((HT0.out.below HBc.out).below hb2)
  have HB2 := Lib.hid (below_ext (below_ext HBX.out HBc.out) hb2)
  obtain ⟨R, hR⟩ : ∃ R, tagged (bys tagT) (bys s) = R := ⟨_, rfl⟩
  have hRl : R.length = 32 := by rw [← hR]; exact tagged_len _ _
  have HN : Kp (newL (bys s) = R) := ⟨hR⟩
  have HRL := Lib.hid hRl
  rw [hR]
  clear hb2 HSc HBc hR hRl
  go_wp2_with (first
    | ((with_reducible show wpList _ _ _ (⟨some 6, _, _, _, _, _⟩ :: _) _ _); refine wpList_built rfl 163 _ rfl _ (built1 R HRL.out) ?_)
    | ((with_reducible show wpList _ _ _ (⟨none, _, _, _, _, _⟩ :: _) _ _); refine wpList_store_row rfl 163 _ _ rfl w.heap.size (tcs R 0) rfl rfl _ _ HT2.out (tr_info HRL.out) (tcs_sz rfl HRL.out) (tcs_one _ _) ?_))
  have HRR : Hid (TBlk (w2.setRow w.heap.size (tcs R 0)) w.heap.size R 0) := Lib.hid HT2.out.setRow
  have HBF : Below w.heap.size w (w2.setRow w.heap.size (tcs R 0)) := below_setRow' HB2.out (Nat.le_refl _)
  exact bodyPost_ret (v := .agg (tcs R 0)) (results_cell1 (p := 2) (ty := 163) rfl _ _ ⟨w.heap.size, 0, none⟩ _ rfl (run_loadVar_row _ _ _ _ _ _ _ HRR.out Tryz.underlying163 rfl (tr_info HRL.out))) rfl ⟨by rw [HN.out], HBF⟩
end Go.Proofs.YtojedhnglobddaaGreatDoor
namespace Go.Proofs.YtojedhnglobddaaGreatDoor
open Go.RowKit SpM
set_option linter.unusedVariables false
set_option linter.unusedSimpArgs false
set_option maxRecDepth 100000
theorem itr_list {w : World} {base : Nat} {v : Value} {cs : List Ic} {l : List It} {n : Nat} (h : OwnI w base v cs) (hc : cs.length = n) (hl : l.length = n) (hpos : 0 < n) (hr : ∀ k, k < n → ItR w (l.getD k default) (cs.getD k default)) :
    ∃ g cap, v = .slice (some ⟨g, 0, none⟩) n cap ∧ ItR w (.lst l) ⟨3, 0, none, 0, 0, some ⟨g, 0, none⟩, n, cap⟩ := by
  obtain ⟨g, cap, e, _, _, hf⟩ := h.four (by omega)
  rw [hc] at e hf
  exact ⟨g, cap, e, .lst l _ rfl rfl rfl hl.symm (fun k => cs.getD k default) (fun k hk => ⟨g, 0, rfl, hf k (by omega)⟩) (fun k hk => hr k (by omega))⟩
/-- the fields of bytes. -/
def icByt (A : Option Addr) (n c : Nat) : Ic := ⟨2, 0, A, n, c, none, 0, 0⟩
theorem itr_byt {w : World} {A : Option Addr} {n c : Nat} {b : List Int} (h : Sk .u8 w A b) (hn : b.length = n) : ItR w (.byt b) (icByt A n c) := .byt b _ rfl rfl hn.symm rfl h
theorem ownI_two (w : World) (a b : Ic) : OwnI (w.alloc (.cells #[.int .i64 a.kind, .int .i64 a.n, .slice a.B a.nb a.cb, .slice a.L a.nl a.cl, .int .i64 b.kind, .int .i64 b.n, .slice b.B b.nb b.cb, .slice b.L b.nl b.cl] 200)) w.heap.size (.slice (some ⟨w.heap.size, 0, none⟩) 2 2) [a, b] :=
  ⟨rfl, Or.inr ⟨w.heap.size, 2, _, rfl, Nat.le_refl _, heap_alloc_new _ _, Nat.le_refl _, by decide, rfl, rfl⟩⟩
theorem four_news {w : World} {b : Nat} {c : Ic} (h : Four w b 0 c) (j : Nat) (u : Value) (hj : (itemCells c)[j]? = some u) : w.cell? ((⟨b, 0, none⟩ : Addr).add j) = some u := by
  obtain ⟨h0, h1, h2, h3⟩ := h
  match j, hj with
  | 0, e => simp [itemCells] at e; subst e; exact h0
  | 1, e => simp [itemCells] at e; subst e; exact h1
  | 2, e => simp [itemCells] at e; subst e; exact h2
  | 3, e => simp [itemCells] at e; subst e; exact h3
  | j + 4, e => simp [itemCells] at e
theorem itemCells_one (c : Ic) : ∀ u ∈ itemCells c, u.oneCell' = true := by
  intro u hu
  simp [itemCells] at hu
  rcases hu with rfl | rfl | rfl | rfl <;> rfl
theorem sk_old {K : IntKind} {w w' : World} {B b : Nat} {l : List Int} (h : Sk K w (some ⟨b, 0, none⟩) l) (hb : Below B w w') (hl : b < B) : Sk K w' (some ⟨b, 0, none⟩) l := by
  intro j hj
  obtain ⟨b1, o, e, hc⟩ := h j hj
  injection e with e
  injection e with e1 e2 e3
  subst e1
  subst e2
  exact ⟨b, 0, rfl, (hb.cell (p := ⟨b, 0 + j, none⟩) hl).trans hc⟩
set_option maxHeartbeats 3200000 in
theorem hash0_any (tg : ByteArray) (ht1 : 1 ≤ tg.size) (ht2 : tg.size ≤ 100) (h : List Int) (hl : Hid (h.length = 32)) (hb : Hid (bytesB h = true)) (c : Int) (s : ByteArray) (hs0 : 1 ≤ s.size) (hs : s.size ≤ 1000) (w : World) (hv : Hid (VarsD w)) :
    Calls Tryz.prog 175 #[.string tg, .agg (tcs h c), .string s, .slice none 0 0] w fun e w' => e = .returned (HashOk (tagged (bys tg) (enc (.lst [.byt h, .byt (bys s)])))) ∧ Below w.heap.size w w' := by
  obtain ⟨i0, hi, hz0, hz1, hz2⟩ := info_parts itemInfo
  obtain ⟨RR, hRR⟩ : ∃ R, tagged (bys tg) (enc (.lst [.byt h, .byt (bys s)])) = R := ⟨_, rfl⟩
  rw [hRR]
  have HRR0 : Kp (tagged (bys tg) (enc (.lst [.byt h, .byt (bys s)])) = RR) := ⟨hRR⟩
  clear hRR
  obtain ⟨W, hW⟩ : ∃ W, (w.alloc (.cells (tcs h c) 163)).alloc (.cells #[.int .u8 0, .int .u8 0, .int .u8 0, .int .u8 0, .int .u8 0, .int .u8 0, .int .u8 0, .int .u8 0, .int .u8 0, .int .u8 0, .int .u8 0, .int .u8 0, .int .u8 0, .int .u8 0, .int .u8 0, .int .u8 0, .int .u8 0, .int .u8 0, .int .u8 0, .int .u8 0, .int .u8 0, .int .u8 0, .int .u8 0, .int .u8 0, .int .u8 0, .int .u8 0, .int .u8 0, .int .u8 0, .int .u8 0, .int .u8 0, .int .u8 0, .int .u8 0] 60) = W := ⟨_, rfl⟩
  have HBX : Hid (Below w.heap.size w W) := Lib.hid (by rw [← hW]; exact below_two (Below.refl _ _))
  have HT0 : Hid (TBlk W w.heap.size h c) := Lib.hid (by rw [← hW]; exact heap_alloc2_old _ _ _)
  have HR0 : Hid (Blk .u8 60 W (w.heap.size + 1) (zer 32)) := Lib.hid (by rw [← hW, zarrh]; exact heap_alloc2_new _ _ _)
  have HSZ : Hid (W.heap.size = w.heap.size + 2) := Lib.hid (by rw [← hW]; simp)
  have HV := Lib.hid (hv.out.below HBX.out)
  have HW := Lib.hid hW
  have hcv := fun w => run_bytes_of_string (P := Tryz.prog) w 9 196 5 s Tryz.underlying9 Tryz.underlying196 Tryz.underlying5
  clear hW hv
  go_enter Tryz.func175, Tryz.ntmps175
  go_upto_region 1 with (fail)
  rw [HW.out]
  go_upto_region 2 with (fail)
  clear hcv HW
  obtain ⟨gc, hgc⟩ : ∃ g, grownCap W s.size 0 5 = g := ⟨_, rfl⟩
  rw [hgc]
  obtain ⟨Wc, hWc⟩ : ∃ u, W.alloc (.cells (bytesRow s gc) 5 ((bytesRow s gc).size, (bytesRow s gc).size + 1)) = u := ⟨_, rfl⟩
  rw [hWc]
  have HBc : Hid (Below W.heap.size W Wc) := Lib.hid (by rw [← hWc]; exact below_box0 _ _)
  have HSc : Hid (Sk .u8 Wc (some ⟨W.heap.size, 0, none⟩) (bys s)) := Lib.hid (by rw [← hWc]; exact bys_sk (heap_alloc_new W _))
  have HCZ : Hid (Wc.heap.size = W.heap.size + 1) := Lib.hid (by rw [← hWc]; simp)
  obtain ⟨W2, hW2⟩ : ∃ u, (Wc.alloc (.cells #[.int .i64 2, .int .i64 0, .slice (some ⟨w.heap.size, 0, none⟩) 32 32, .slice none 0 0, .int .i64 2, .int .i64 0, .slice (some ⟨W.heap.size, 0, none⟩) s.size gc, .slice none 0 0] 200)).drew = u := ⟨_, rfl⟩
  have HO2 : Hid (OwnI W2 Wc.heap.size (.slice (some ⟨W.heap.size + 1, 0, none⟩) 2 2) [icByt (some ⟨w.heap.size, 0, none⟩) 32 32, icByt (some ⟨W.heap.size, 0, none⟩) s.size gc]) := Lib.hid (by
    rw [← hW2]
    have h := (ownI_two Wc (icByt (some ⟨w.heap.size, 0, none⟩) 32 32) (icByt (some ⟨W.heap.size, 0, none⟩) s.size gc)).keep (Below.refl _ _).drew
    rw [HCZ.out] at h ⊢
    exact h)
  have HB2 : Hid (Below W.heap.size W W2) := Lib.hid (below_ext HBc.out (by rw [← hW2]; exact (below_box0 _ _).drew))
  have HS2 : Hid (Sk .u8 W2 (some ⟨W.heap.size, 0, none⟩) (bys s)) := Lib.hid (HSc.out.below (by rw [← hW2]; exact (below_box0 _ _).drew))
  have hzW : Wc.heap.size < W2.heap.size := by rw [← hW2]; simp
  rw [hW2]
  clear hW2 hWc hgc HSc HBc
  have hrow : W2.ownsRow Wc.heap.size 200 4 (.slice (some ⟨W.heap.size + 1, 0, none⟩) 2 2) 2 ([icByt (some ⟨w.heap.size, 0, none⟩) 32 32, icByt (some ⟨W.heap.size, 0, none⟩) s.size gc].flatMap itemCells) := HO2.out
  have HSZB := hs
  go_wp2_with (at_builtin; refine wpList_append_own_none rfl _ _ 198 rfl Wc.heap.size 200 i0 4 Tryz.underlying198 hi _ _ _ rfl hrow rfl ?_)
  have HIX : Hid (∃ g cap, (Value.slice (some ⟨W.heap.size + 1, 0, none⟩) 2 2) = .slice (some ⟨g, 0, none⟩) 2 cap ∧ ItR W2 (.lst [.byt h, .byt (bys s)]) ⟨3, 0, none, 0, 0, some ⟨g, 0, none⟩, 2, cap⟩) := Lib.hid (itr_list HO2.out rfl rfl (by decide) (fun k hk => by
    rcases (show k = 0 ∨ k = 1 by omega) with rfl | rfl
    · exact itr_byt (HT0.out.below HB2.out).sk hl.out
    · exact itr_byt HS2.out (bys_len s)))
  obtain ⟨g3, cap3, e3, hit⟩ := HIX.out
  simp only [Value.slice.injEq, Option.some.injEq, Addr.mk.injEq] at e3
  obtain ⟨⟨rfl, -⟩, -, rfl⟩ := e3
  have HIT := Lib.hid hit
  have HB3 := HB2
  have HFIT : Hid (fits 8 (.lst [.byt h, .byt (bys s)])) := Lib.hid (by
    refine ⟨by simp, fun x hx => ?_⟩
    rcases (by simpa using hx : x = .byt h ∨ x = .byt (bys s)) with rfl | rfl
    · exact ⟨⟨by rw [hl.out]; decide, by rw [hl.out]; decide⟩, hb.out⟩
    · exact ⟨⟨by rw [bys_len]; omega, by rw [bys_len]; omega⟩, bys_bytes s⟩)
  have HLEN : Hid ((enc (.lst [.byt h, .byt (bys s)])).length ≤ 16384) := Lib.hid (by
    rw [enc_lst]
    simp only [encL, enc_byt, List.length_cons, List.length_append, be4_len, hl.out, bys_len, List.length_nil]
    omega)
  clear hit HIX hrow
  rw [show (Value.agg #[.int .i64 3, .int .i64 0, .slice none 0 0, .slice (some ⟨W.heap.size + 1, 0, none⟩) 2 2]) = (Ic.mk 3 0 none 0 0 (some ⟨W.heap.size + 1, 0, none⟩) 2 2).val from rfl]
  refine (encode_any _ _ _ HFIT.out HIT.out HLEN.out).mono ?_
  rintro e w4 ⟨v4, rfl, ho4, hb4⟩
  obtain ⟨E, hE⟩ : ∃ E, enc (.lst [.byt h, .byt (bys s)]) = E := ⟨_, rfl⟩
  have HEB : Hid (bytesB E = true) := Lib.hid (by rw [← hE]; exact enc_bytes HFIT.out)
  have HEL : Hid (0 < E.length ∧ E.length ≤ 16384) := Lib.hid (by rw [← hE]; exact ⟨enc_pos _, HLEN.out⟩)
  rw [hE] at ho4
  obtain ⟨g4, cap4, e4, hg4, -, -, hsk4⟩ := ho4.cells HEL.out.1
  obtain ⟨n4, hn4⟩ : ∃ n, E.length = n := ⟨_, rfl⟩
  rw [hn4] at e4 HEL
  subst e4
  have HN4 := Lib.hid hn4
  have HS4 := Lib.hid hsk4
  have HB4 := Lib.hid (below_ext HB3.out hb4)
  have HEE : Kp (enc (.lst [.byt h, .byt (bys s)]) = E) := ⟨hE⟩
  clear hE hsk4 ho4 hb4 hn4 HIT HLEN HFIT
  obtain ⟨he0, he1⟩ := HEL.out
  go_wp2_with fail
  refine (tagged_any tg ht1 ht2 g4 0 cap4 E n4 HN4 he0 (by omega) HEB _ HS4 (Lib.hid (HV.out.below HB4.out))).mono ?_
  rintro e w5 ⟨rfl, hb5⟩
  have HB5 := Lib.hid (below_ext HB4.out hb5)
  obtain ⟨R, hR⟩ : ∃ R, tagged (bys tg) E = R := ⟨_, rfl⟩
  have HRL : Hid (R.length = 32) := Lib.hid (by rw [← hR]; exact tagged_len _ _)
  have hRe : RR = R := by rw [← HRR0.1, HEE.1, hR]
  subst hRe
  rw [hR, show HashOk RR = .tuple #[.agg (arr .u8 RR), .int .i64 0] from rfl]
  clear hb5 hR HS4 HB4
  have HR5 : Hid (Blk .u8 60 w5 (w.heap.size + 1) (zer 32)) := Lib.hid (HR0.out.below HB5.out)
  go_wp2_with ((with_reducible show wpList _ _ _ (⟨none, _, _, _, _, _⟩ :: _) _ _); refine wpList_store_row rfl 60 _ _ rfl (w.heap.size + 1) (arr .u8 RR) rfl rfl _ _ HR5.out (hash_info HRL.out) (arrs_sz (l := zer 32) rfl HRL.out) (arr_one _) ?_)
  have HRR : Hid (Blk .u8 60 (w5.setRow (w.heap.size + 1) (arr .u8 RR)) (w.heap.size + 1) RR) := Lib.hid HR5.out.setRow
  have HBF : Below w.heap.size w (w5.setRow (w.heap.size + 1) (arr .u8 RR)) := below_setRow' (below_ext HBX.out HB5.out) (Nat.le_succ _)
  exact bodyPost_ret (v := HashOk RR) (results_cell_tmp2 (p := 8) (q := 9) (ty := 60) rfl _ _ ⟨w.heap.size + 1, 0, none⟩ _ _ rfl rfl (run_loadVar_row _ _ _ _ _ _ _ HRR.out Tryz.underlying60 rfl (hash_info HRL.out))) rfl ⟨rfl, HBF⟩
set_option maxHeartbeats 3200000 in
theorem hash1_any (tg : ByteArray) (ht1 : 1 ≤ tg.size) (ht2 : tg.size ≤ 100) (h : List Int) (hl : Hid (h.length = 32)) (hb : Hid (bytesB h = true)) (c : Int) (s : ByteArray) (hs0 : 1 ≤ s.size) (hs : s.size ≤ 1000) (item : It) (cI : Ic) (gm cm : Nat) (w : World) (hv : Hid (VarsD w)) (hF : Hid (Four w gm 0 cI)) (hI : Hid (ItR w item cI)) (hfi : Hid (fits 7 item)) (hle : Hid ((enc item).length ≤ 14000)) :
    Calls Tryz.prog 175 #[.string tg, .agg (tcs h c), .string s, .slice (some ⟨gm, 0, none⟩) 1 cm] w fun e w' => e = .returned (HashOk (tagged (bys tg) (enc (.lst [.byt h, .byt (bys s), item])))) ∧ Below w.heap.size w w' := by
  obtain ⟨i0, hi, hz0, hz1, hz2⟩ := info_parts itemInfo
  obtain ⟨RR, hRR⟩ : ∃ R, tagged (bys tg) (enc (.lst [.byt h, .byt (bys s), item])) = R := ⟨_, rfl⟩
  rw [hRR]
  have HRR0 : Kp (tagged (bys tg) (enc (.lst [.byt h, .byt (bys s), item])) = RR) := ⟨hRR⟩
  clear hRR
  obtain ⟨W, hW⟩ : ∃ W, (w.alloc (.cells (tcs h c) 163)).alloc (.cells #[.int .u8 0, .int .u8 0, .int .u8 0, .int .u8 0, .int .u8 0, .int .u8 0, .int .u8 0, .int .u8 0, .int .u8 0, .int .u8 0, .int .u8 0, .int .u8 0, .int .u8 0, .int .u8 0, .int .u8 0, .int .u8 0, .int .u8 0, .int .u8 0, .int .u8 0, .int .u8 0, .int .u8 0, .int .u8 0, .int .u8 0, .int .u8 0, .int .u8 0, .int .u8 0, .int .u8 0, .int .u8 0, .int .u8 0, .int .u8 0, .int .u8 0, .int .u8 0] 60) = W := ⟨_, rfl⟩
  have HBX : Hid (Below w.heap.size w W) := Lib.hid (by rw [← hW]; exact below_two (Below.refl _ _))
  have HT0 : Hid (TBlk W w.heap.size h c) := Lib.hid (by rw [← hW]; exact heap_alloc2_old _ _ _)
  have HR0 : Hid (Blk .u8 60 W (w.heap.size + 1) (zer 32)) := Lib.hid (by rw [← hW, zarrh]; exact heap_alloc2_new _ _ _)
  have HSZ : Hid (W.heap.size = w.heap.size + 2) := Lib.hid (by rw [← hW]; simp)
  have HV := Lib.hid (hv.out.below HBX.out)
  have HW := Lib.hid hW
  have hcv := fun w => run_bytes_of_string (P := Tryz.prog) w 9 196 5 s Tryz.underlying9 Tryz.underlying196 Tryz.underlying5
  clear hW hv
  go_enter Tryz.func175, Tryz.ntmps175
  go_upto_region 1 with (fail)
  rw [HW.out]
  go_upto_region 2 with (fail)
  clear hcv HW
  obtain ⟨gc, hgc⟩ : ∃ g, grownCap W s.size 0 5 = g := ⟨_, rfl⟩
  rw [hgc]
  obtain ⟨Wc, hWc⟩ : ∃ u, W.alloc (.cells (bytesRow s gc) 5 ((bytesRow s gc).size, (bytesRow s gc).size + 1)) = u := ⟨_, rfl⟩
  rw [hWc]
  have HBc : Hid (Below W.heap.size W Wc) := Lib.hid (by rw [← hWc]; exact below_box0 _ _)
  have HSc : Hid (Sk .u8 Wc (some ⟨W.heap.size, 0, none⟩) (bys s)) := Lib.hid (by rw [← hWc]; exact bys_sk (heap_alloc_new W _))
  have HCZ : Hid (Wc.heap.size = W.heap.size + 1) := Lib.hid (by rw [← hWc]; simp)
  obtain ⟨W2, hW2⟩ : ∃ u, (Wc.alloc (.cells #[.int .i64 2, .int .i64 0, .slice (some ⟨w.heap.size, 0, none⟩) 32 32, .slice none 0 0, .int .i64 2, .int .i64 0, .slice (some ⟨W.heap.size, 0, none⟩) s.size gc, .slice none 0 0] 200)).drew = u := ⟨_, rfl⟩
  have HO2 : Hid (OwnI W2 Wc.heap.size (.slice (some ⟨W.heap.size + 1, 0, none⟩) 2 2) [icByt (some ⟨w.heap.size, 0, none⟩) 32 32, icByt (some ⟨W.heap.size, 0, none⟩) s.size gc]) := Lib.hid (by
    rw [← hW2]
    have h := (ownI_two Wc (icByt (some ⟨w.heap.size, 0, none⟩) 32 32) (icByt (some ⟨W.heap.size, 0, none⟩) s.size gc)).keep (Below.refl _ _).drew
    rw [HCZ.out] at h ⊢
    exact h)
  have HB2 : Hid (Below W.heap.size W W2) := Lib.hid (below_ext HBc.out (by rw [← hW2]; exact (below_box0 _ _).drew))
  have HS2 : Hid (Sk .u8 W2 (some ⟨W.heap.size, 0, none⟩) (bys s)) := Lib.hid (HSc.out.below (by rw [← hW2]; exact (below_box0 _ _).drew))
  have hzW : Wc.heap.size < W2.heap.size := by rw [← hW2]; simp
  rw [hW2]
  clear hW2 hWc hgc HSc HBc
  have hrow : W2.ownsRow Wc.heap.size 200 4 (.slice (some ⟨W.heap.size + 1, 0, none⟩) 2 2) 2 ([icByt (some ⟨w.heap.size, 0, none⟩) 32 32, icByt (some ⟨W.heap.size, 0, none⟩) s.size gc].flatMap itemCells) := HO2.out
  have HSZB := hs
  have HF2 : Hid (Four W2 gm 0 cI) := Lib.hid ((hF.out.below HBX.out).below HB2.out)
  have HI2 : Hid (ItR W2 item cI) := Lib.hid ((hI.out.kept HBX.out).kept HB2.out)
  have HBW : Wc.heap.size ≤ W2.heap.size := by omega
  have b1 : 2 + 1 ≤ maxLen := by unfold maxLen; omega
  have b2 : (2 + 1) * 64 ≤ 140737488355328 := by omega
  have HNW : ∀ (j : Nat) (u : Value), (itemCells cI)[j]? = some u → W2.cell? ((⟨gm, 0, none⟩ : Addr).add j) = some u := four_news HF2.out
  go_wp2_with (at_builtin; refine wpList_append_lies rfl _ _ 198 rfl Wc.heap.size 200 i0 (.agg #[.int .i64 0, .int .i64 0, .slice none 0 0, .slice none 0 0]) 4 64 Tryz.underlying198 hi hz0 hz1 hz2 rfl (by decide) _ _ _ rfl hrow ⟨gm, 0, none⟩ 1 cm (itemCells cI) rfl rfl HNW (itemCells_one cI) (by decide) b1 b2 HBW _ rfl ?_; intro g3 cap3 w3 hown3 hgrow3 hat3 hlt3)
  have HB3 : Hid (Below W.heap.size W w3) := Lib.hid (HB2.out.grown hgrow3 (by have := HCZ.out; omega) (fun j hj => by have := HCZ.out; have := (World.ownsRow.lt hrow j hj).1; omega))
  have HB23 : Hid (Below (W.heap.size + 1) W2 w3) := Lib.hid ((Below.refl _ _).grown hgrow3 (by have := HCZ.out; omega) (fun j hj => by have := HCZ.out; have := (World.ownsRow.lt hrow j hj).1; omega))
  have HO3 : Hid (OwnI w3 Wc.heap.size (.slice (some ⟨g3, 0, none⟩) 3 cap3) [icByt (some ⟨w.heap.size, 0, none⟩) 32 32, icByt (some ⟨W.heap.size, 0, none⟩) s.size gc, cI]) := Lib.hid hown3
  have HIX : Hid (∃ g cap, (Value.slice (some ⟨g3, 0, none⟩) 3 cap3) = .slice (some ⟨g, 0, none⟩) 3 cap ∧ ItR w3 (.lst [.byt h, .byt (bys s), item]) ⟨3, 0, none, 0, 0, some ⟨g, 0, none⟩, 3, cap⟩) := Lib.hid (itr_list HO3.out rfl rfl (by decide) (fun k hk => by
    rcases (show k = 0 ∨ k = 1 ∨ k = 2 by omega) with rfl | rfl | rfl
    · exact itr_byt (HT0.out.below HB3.out).sk hl.out
    · exact itr_byt (sk_old HS2.out HB23.out (by omega)) (bys_len s)
    · exact ((hI.out.kept HBX.out).kept HB3.out)))
  obtain ⟨g, cap, e3, hit⟩ := HIX.out
  simp only [Value.slice.injEq, Option.some.injEq, Addr.mk.injEq] at e3
  obtain ⟨⟨rfl, -⟩, -, rfl⟩ := e3
  have HIT := Lib.hid hit
  have HFIT : Hid (fits 8 (.lst [.byt h, .byt (bys s), item])) := Lib.hid (by
    refine ⟨by simp, fun x hx => ?_⟩
    rcases (by simpa using hx : x = .byt h ∨ x = .byt (bys s) ∨ x = item) with rfl | rfl | rfl
    · exact ⟨⟨by rw [hl.out]; decide, by rw [hl.out]; decide⟩, hb.out⟩
    · exact ⟨⟨by rw [bys_len]; omega, by rw [bys_len]; omega⟩, bys_bytes s⟩
    · exact hfi.out)
  have HLEN : Hid ((enc (.lst [.byt h, .byt (bys s), item])).length ≤ 16384) := Lib.hid (by
    have := hle.out
    rw [enc_lst]
    simp only [encL, enc_byt, List.length_cons, List.length_append, be4_len, hl.out, bys_len, List.length_nil]
    omega)
  clear hit HIX hrow HO3 hown3 hgrow3 hat3 hlt3 HNW HF2 HI2 HB23
  rw [show (Value.agg #[.int .i64 3, .int .i64 0, .slice none 0 0, .slice (some ⟨g3, 0, none⟩) 3 cap3]) = (Ic.mk 3 0 none 0 0 (some ⟨g3, 0, none⟩) 3 cap3).val from rfl]
  refine (encode_any _ _ _ HFIT.out HIT.out HLEN.out).mono ?_
  rintro e w4 ⟨v4, rfl, ho4, hb4⟩
  obtain ⟨E, hE⟩ : ∃ E, enc (.lst [.byt h, .byt (bys s), item]) = E := ⟨_, rfl⟩
  have HEB : Hid (bytesB E = true) := Lib.hid (by rw [← hE]; exact enc_bytes HFIT.out)
  have HEL : Hid (0 < E.length ∧ E.length ≤ 16384) := Lib.hid (by rw [← hE]; exact ⟨enc_pos _, HLEN.out⟩)
  rw [hE] at ho4
  obtain ⟨g4, cap4, e4, hg4, -, -, hsk4⟩ := ho4.cells HEL.out.1
  obtain ⟨n4, hn4⟩ : ∃ n, E.length = n := ⟨_, rfl⟩
  rw [hn4] at e4 HEL
  subst e4
  have HN4 := Lib.hid hn4
  have HS4 := Lib.hid hsk4
  have HB4 := Lib.hid (below_ext HB3.out hb4)
  have HEE : Kp (enc (.lst [.byt h, .byt (bys s), item]) = E) := ⟨hE⟩
  clear hE hsk4 ho4 hb4 hn4 HIT HLEN HFIT
  obtain ⟨he0, he1⟩ := HEL.out
  go_wp2_with fail
  refine (tagged_any tg ht1 ht2 g4 0 cap4 E n4 HN4 he0 (by omega) HEB _ HS4 (Lib.hid (HV.out.below HB4.out))).mono ?_
  rintro e w5 ⟨rfl, hb5⟩
  have HB5 := Lib.hid (below_ext HB4.out hb5)
  obtain ⟨R, hR⟩ : ∃ R, tagged (bys tg) E = R := ⟨_, rfl⟩
  have HRL : Hid (R.length = 32) := Lib.hid (by rw [← hR]; exact tagged_len _ _)
  have hRe : RR = R := by rw [← HRR0.1, HEE.1, hR]
  subst hRe
  rw [hR, show HashOk RR = .tuple #[.agg (arr .u8 RR), .int .i64 0] from rfl]
  clear hb5 hR HS4 HB4
  have HR5 : Hid (Blk .u8 60 w5 (w.heap.size + 1) (zer 32)) := Lib.hid (HR0.out.below HB5.out)
  go_wp2_with ((with_reducible show wpList _ _ _ (⟨none, _, _, _, _, _⟩ :: _) _ _); refine wpList_store_row rfl 60 _ _ rfl (w.heap.size + 1) (arr .u8 RR) rfl rfl _ _ HR5.out (hash_info HRL.out) (arrs_sz (l := zer 32) rfl HRL.out) (arr_one _) ?_)
  have HRR : Hid (Blk .u8 60 (w5.setRow (w.heap.size + 1) (arr .u8 RR)) (w.heap.size + 1) RR) := Lib.hid HR5.out.setRow
  have HBF : Below w.heap.size w (w5.setRow (w.heap.size + 1) (arr .u8 RR)) := below_setRow' (below_ext HBX.out HB5.out) (Nat.le_succ _)
  exact bodyPost_ret (v := HashOk RR) (results_cell_tmp2 (p := 8) (q := 9) (ty := 60) rfl _ _ ⟨w.heap.size + 1, 0, none⟩ _ _ rfl rfl (run_loadVar_row _ _ _ _ _ _ _ HRR.out Tryz.underlying60 rfl (hash_info HRL.out))) rfl ⟨rfl, HBF⟩
end Go.Proofs.YtojedhnglobddaaGreatDoor
namespace Go.Proofs.YtojedhnglobddaaGreatDoor
open Go.RowKit SpM
set_option linter.unusedVariables false
set_option linter.unusedSimpArgs false
set_option maxRecDepth 100000
def tagAb : ByteArray := { data := #[115, 112, 101, 99, 105, 101, 47, 97, 98, 115, 111, 114, 98] }
/-- the state behind an item absorbed. -/
def abL (h s : List Int) (i : It) : List Int := tagged (bys tagAb) (enc (.lst [.byt h, .byt s, i]))
theorem abL_len (h s : List Int) (i : It) : (abL h s i).length = 32 := tagged_len _ _
theorem four_cells {w : World} {b : Nat} {c : Ic} {t : TypeId} (h : w.heap[b]? = some (.cells #[.int .i64 c.kind, .int .i64 c.n, .slice c.B c.nb c.cb, .slice c.L c.nl c.cl] t)) : Four w b 0 c :=
  ⟨cell_blk h 0, cell_blk h 1, cell_blk h 2, cell_blk h 3⟩
set_option maxHeartbeats 3200000 in
theorem tabsorb_ok (h : List Int) (hl : Hid (h.length = 32)) (hb : Hid (bytesB h = true)) (c : Int) (hc0 : 0 ≤ c) (hc1 : c < 1000) (s : ByteArray) (hs : s.size ≤ 1000) (hr : Hid (labB (bys s) = true)) (item : It) (cI : Ic) (w : World) (hv : Hid (VarsD w)) (hI : Hid (ItR w item cI)) (hfi : Hid (fits 7 item)) (hle : Hid ((enc item).length ≤ 14000)) :
    Calls Tryz.prog 172 #[.agg (tcs h c), .string s, .agg #[.int .i64 cI.kind, .int .i64 cI.n, .slice cI.B cI.nb cI.cb, .slice cI.L cI.nl cI.cl]] w fun e w' => e = .returned (TrE (abL h (bys s) item) (c + 1) 0) ∧ Below w.heap.size w w' := by
  have hs0 : 1 ≤ s.size := by
    have h := hr.out
    rw [labB, bys_len] at h
    simp at h
    exact h.1.1
  obtain ⟨i0, hi, hz0, hz1, hz2⟩ := info_parts itemInfo
  obtain ⟨W, hW⟩ : ∃ W, ((w.alloc (.cells (tcs h c) 163)).alloc (.cells #[.int .i64 cI.kind, .int .i64 cI.n, .slice cI.B cI.nb cI.cb, .slice cI.L cI.nl cI.cl] 200)).alloc (.cells #[.int .u8 0, .int .u8 0, .int .u8 0, .int .u8 0, .int .u8 0, .int .u8 0, .int .u8 0, .int .u8 0, .int .u8 0, .int .u8 0, .int .u8 0, .int .u8 0, .int .u8 0, .int .u8 0, .int .u8 0, .int .u8 0, .int .u8 0, .int .u8 0, .int .u8 0, .int .u8 0, .int .u8 0, .int .u8 0, .int .u8 0, .int .u8 0, .int .u8 0, .int .u8 0, .int .u8 0, .int .u8 0, .int .u8 0, .int .u8 0, .int .u8 0, .int .u8 0, .int .i64 0] 163) = W := ⟨_, rfl⟩
  have HBX : Hid (Below w.heap.size w W) := Lib.hid (by rw [← hW]; exact below_ext (below_two (Below.refl _ _)) (below_box0 _ _))
  have HT0 : Hid (TBlk W w.heap.size h c) := Lib.hid (by rw [← hW]; exact ((TBlk.new _ _ _).below (below_box0 _ _)).below (below_box0 _ _))
  have HIB : Hid (W.heap[w.heap.size + 1]? = some (.cells #[.int .i64 cI.kind, .int .i64 cI.n, .slice cI.B cI.nb cI.cb, .slice cI.L cI.nl cI.cl] 200 (0, 0))) := Lib.hid (by rw [← hW, ← (show (w.alloc (.cells (tcs h c) 163)).heap.size = w.heap.size + 1 by simp)]; exact heap_alloc2_old _ _ _)
  have HR0 : Hid (TBlk W (w.heap.size + 1 + 1) (zer 32) 0) := Lib.hid (by rw [← hW, ztr, show w.heap.size + 1 + 1 = (w.alloc (.cells (tcs h c) 163)).heap.size + 1 by simp]; exact heap_alloc2_new _ _ _)
  have HSZ : Hid (W.heap.size = w.heap.size + 3) := Lib.hid (by rw [← hW]; simp)
  have HV := Lib.hid (hv.out.below HBX.out)
  have HII := Lib.hid (hI.out.kept HBX.out)
  have HW := Lib.hid hW
  clear hW hv
  go_enter Tryz.func172, Tryz.ntmps172
  go_upto_region 1 with (fail)
  rw [HW.out]
  clear HW
  go_wp2_with ((with_reducible show wpList _ _ _ (⟨some 10, _, _, _, _, _⟩ :: _) _ _); refine wpList_load_row rfl 163 _ rfl w.heap.size rfl _ _ _ _ HT0.out Tryz.underlying163 rfl (tr_info hl.out) ?_)
  refine (tvalid_any h hl c hc0 (by omega) _).mono ?_
  rintro e w1 ⟨rfl, hb1⟩
  have HB1 := Lib.hid (below_ext HBX.out hb1)
  have HT1 := Lib.hid (HT0.out.below hb1)
  have HI1 := Lib.hid (HII.out.kept hb1)
  have HV1 := Lib.hid (HV.out.below hb1)
  have HR1 := Lib.hid (HR0.out.below hb1)
  have HIB1 : Hid (Four w1 (w.heap.size + 1) 0 cI) := Lib.hid (four_cells ((hb1.block _ (by have := HSZ.out; omega)).trans HIB.out))
  clear hb1 HT0 HII HV HR0 HIB HBX
  go_wp2_with fail
  refine (tlabel_any s hs true hr _).mono ?_
  rintro e w2 ⟨rfl, hb2⟩
  have HT2 := Lib.hid (HT1.out.below hb2)
  have HI2 := Lib.hid (HI1.out.kept hb2)
  have HV2 := Lib.hid (HV1.out.below hb2)
  have HR2 := Lib.hid (HR1.out.below hb2)
  have HIB2 := Lib.hid (HIB1.out.below hb2)
  have HB2 := Lib.hid (below_ext HB1.out hb2)
  clear hb2 HT1 HI1 HV1 HR1 HIB1 HB1
  obtain ⟨f0, f1, f2, f3⟩ := HIB2.out
  go_wp2_with ((with_reducible show wpList _ _ _ (⟨some 20, _, _, _, _, _⟩ :: _) _ _); refine wpList_load_row rfl 163 _ rfl w.heap.size rfl _ _ _ _ HT2.out Tryz.underlying163 rfl (tr_info hl.out) ?_)
  clear f0 f1 f2 f3
  obtain ⟨W3, hW3⟩ : ∃ u, w2.alloc (.cells #[.int .i64 cI.kind, .int .i64 cI.n, .slice cI.B cI.nb cI.cb, .slice cI.L cI.nl cI.cl] 200) = u := ⟨_, rfl⟩
  have HF3 : Hid (Four W3 w2.heap.size 0 cI) := Lib.hid (by rw [← hW3]; exact four_cells (heap_alloc_new _ _))
  have hb3 : Below w2.heap.size w2 W3 := by rw [← hW3]; exact below_box0 _ _
  rw [hW3]
  have HI3 := Lib.hid (HI2.out.kept hb3)
  have HV3 := Lib.hid (HV2.out.below hb3)
  refine (hash1_any tagAb (by decide) (by decide) h hl hb c s hs0 hs item cI w2.heap.size 1 W3 HV3 HF3 HI3 hfi hle).mono ?_
  rintro e w4 ⟨rfl, hb4⟩
  have HT4 := Lib.hid ((HT2.out.below hb3).below hb4)
  have HR4 := Lib.hid ((HR2.out.below hb3).below hb4)
  have HB4 := Lib.hid (below_ext (below_ext HB2.out hb3) hb4)
  obtain ⟨R, hR⟩ : ∃ R, tagged (bys tagAb) (enc (.lst [.byt h, .byt (bys s), item])) = R := ⟨_, rfl⟩
  have hRl : R.length = 32 := by rw [← hR]; exact tagged_len _ _
  have HN : Kp (abL h (bys s) item = R) := ⟨hR⟩
  have HRL := Lib.hid hRl
  rw [hR, show HashOk R = .tuple #[.agg (arr .u8 R), .int .i64 0] from rfl]
  clear hb3 hb4 hW3 HF3 HI3 HV3 HT2 HI2 HV2 HR2 HB2 HIB2 hR hRl
  go_upto_region 4 with ((with_reducible show wpList _ _ _ (⟨none, _, _, _, _, _⟩ :: _) _ _); refine wpList_store_row rfl 60 _ _ rfl w4.heap.size (arr .u8 R) rfl rfl _ _ (heap_alloc_new _ _) (hash_info HRL.out) (arrs_sz (l := zer 32) rfl HRL.out) (arr_one _) ?_)
  rw [World.setRow_alloc_new]
  try simp only [Act.put]
  have HK3 : Hid (Blk .u8 60 (w4.alloc (.cells (arr .u8 R) 60)) w4.heap.size R) := Lib.hid (Blk.new _ _)
  have HT5 := Lib.hid (HT4.out.below (below_box0 w4 (.cells (arr .u8 R) 60)))
  have HR5 := Lib.hid (HR4.out.below (below_box0 w4 (.cells (arr .u8 R) 60)))
  have HB5 := Lib.hid (below_ext HB4.out (below_box0 w4 (.cells (arr .u8 R) 60)))
  obtain ⟨W5, hW5⟩ : ∃ u, w4.alloc (.cells (arr .u8 R) 60) = u := ⟨_, rfl⟩
  rw [hW5] at HK3 HT5 HR5 HB5 ⊢
  clear hW5
  have hcnt := HT5.out.count hl.out
  have hcn : ¬ (c = 1000) := by omega
  have hwr : IntKind.i64.wrap (c + 1) = c + 1 := IntWalk.i64_in _ (by omega)
  go_wp2_with (first
    | ((with_reducible show wpList _ _ _ (⟨some 40, _, _, _, _, _⟩ :: _) _ _); refine wpList_load_row rfl 60 _ rfl w4.heap.size rfl _ _ _ _ HK3.out Tryz.underlying60 rfl (hash_info HRL.out) ?_)
    | ((with_reducible show wpList _ _ _ (⟨some 44, _, _, _, _, _⟩ :: _) _ _); refine wpList_built rfl 163 _ rfl _ (built2 R HRL.out (c + 1)) ?_)
    | ((with_reducible show wpList _ _ _ (⟨none, _, _, _, _, _⟩ :: _) _ _); refine wpList_store_row rfl 163 _ _ rfl (w.heap.size + 1 + 1) (tcs R (c + 1)) rfl rfl _ _ HR5.out (tr_info HRL.out) (tcs_sz rfl HRL.out) (tcs_one _ _) ?_))
  have HRR : Hid (TBlk (W5.setRow (w.heap.size + 1 + 1) (tcs R (c + 1))) (w.heap.size + 1 + 1) R (c + 1)) := Lib.hid HR5.out.setRow
  have HBF : Below w.heap.size w (W5.setRow (w.heap.size + 1 + 1) (tcs R (c + 1))) := below_setRow' HB5.out (by omega)
  exact bodyPost_ret (v := TrE R (c + 1) 0) (results_cell_tmp2 (p := 6) (q := 7) (ty := 163) rfl _ _ ⟨w.heap.size + 1 + 1, 0, none⟩ _ _ rfl rfl (run_loadVar_row _ _ _ _ _ _ _ HRR.out Tryz.underlying163 rfl (tr_info HRL.out))) rfl ⟨by rw [HN.out], HBF⟩
end Go.Proofs.YtojedhnglobddaaGreatDoor
namespace Go.Proofs.YtojedhnglobddaaGreatDoor
open Go.RowKit SpM
set_option linter.unusedVariables false
set_option linter.unusedSimpArgs false
set_option maxRecDepth 100000
set_option maxHeartbeats 3200000 in
theorem tints_ok (h : List Int) (hl : Hid (h.length = 32)) (hb : Hid (bytesB h = true)) (c : Int) (hc0 : 0 ≤ c) (hc1 : c < 1000) (s : ByteArray) (hs : s.size ≤ 1000) (hr : Hid (labB (bys s) = true)) (A : Option Addr) (l : List Int) (n cA : Nat) (hn : Hid (l.length = n)) (hbig : n ≤ 1000) (w : World) (hv : Hid (VarsD w)) (hS : Hid (Sl w A l)) (hfi : Hid (fits 7 (.lst (l.map .int)))) (hle : Hid ((enc (.lst (l.map .int))).length ≤ 14000)) :
    Calls Tryz.prog 141 #[.agg (tcs h c), .string s, .slice A n cA] w fun e w' => e = .returned (TrE (abL h (bys s) (.lst (l.map .int))) (c + 1) 0) ∧ Below w.heap.size w w' := by
  obtain ⟨W, hW⟩ : ∃ W, (w.alloc (.cells (tcs h c) 163)).alloc (.cells #[.int .u8 0, .int .u8 0, .int .u8 0, .int .u8 0, .int .u8 0, .int .u8 0, .int .u8 0, .int .u8 0, .int .u8 0, .int .u8 0, .int .u8 0, .int .u8 0, .int .u8 0, .int .u8 0, .int .u8 0, .int .u8 0, .int .u8 0, .int .u8 0, .int .u8 0, .int .u8 0, .int .u8 0, .int .u8 0, .int .u8 0, .int .u8 0, .int .u8 0, .int .u8 0, .int .u8 0, .int .u8 0, .int .u8 0, .int .u8 0, .int .u8 0, .int .u8 0, .int .i64 0] 163) = W := ⟨_, rfl⟩
  have HBX : Hid (Below w.heap.size w W) := Lib.hid (by rw [← hW]; exact below_two (Below.refl _ _))
  have HT0 : Hid (TBlk W w.heap.size h c) := Lib.hid (by rw [← hW]; exact heap_alloc2_old _ _ _)
  have HR0 : Hid (TBlk W (w.heap.size + 1) (zer 32) 0) := Lib.hid (by rw [← hW, ztr]; exact heap_alloc2_new _ _ _)
  have HV := Lib.hid (hv.out.below HBX.out)
  have HSL := Lib.hid (hS.out.below HBX.out)
  have HW := Lib.hid hW
  clear hW hv
  go_enter Tryz.func141, Tryz.ntmps141
  go_upto_region 1 with (fail)
  rw [HW.out]
  clear HW
  have HBd := Lib.hid ((Below.refl W.heap.size W).drew)
  have HTd := Lib.hid (HT0.out.below HBd.out)
  have HRd := Lib.hid (HR0.out.below HBd.out)
  have HVd := Lib.hid (HV.out.below HBd.out)
  have HSd := Lib.hid (HSL.out.below HBd.out)
  have HB3 := Lib.hid (below_ext HBX.out HBd.out)
  obtain ⟨Wd, hWd⟩ : ∃ u, W.drew = u := ⟨_, rfl⟩
  refine wp_region_T (S := fun w' => w'.heap[w.heap.size]? = some (.cells (tcs h c) 163 (0, 0))) (E := [7, 8]) (by kernel_rfl) (HTd.out) (fun hHeld => ?_)
  refine wpT_take (i := 0) (oi := _) (v := (.agg (tcs h c))) rfl (by kernel_rfl) (by kernel_rfl) (by kernel_rfl) (by kernel_rfl) (fun _ _ _ h => h) (Or.inl ⟨by rfl, yields_row 163 _ rfl w.heap.size rfl _ _ _ _ (fun _ h => h) Tryz.underlying163 rfl (tr_info hl.out)⟩) (by assumption) ?_
  try simp only [List.getElem_toArray, List.getElem_cons_zero, List.getElem_cons_succ, Act.put, List.setIfInBounds_toArray, List.set_cons_zero, List.set_cons_succ]
  refine wpT_take (i := 1) (oi := _) (v := ?_) rfl (by kernel_rfl) (by kernel_rfl) (by kernel_rfl) (by kernel_rfl) (fun _ _ _ h => h) (Or.inl ⟨by rfl, ?_⟩) (by assumption) ?_
  rotate_left; (intro wS hSw; (try dsimp only at hSw); go_simp <;> with_reducible rfl)
  try simp only [List.getElem_toArray, List.getElem_cons_zero, List.getElem_cons_succ, Act.put, List.setIfInBounds_toArray, List.set_cons_zero, List.set_cons_succ]
  refine wpT_take (i := 2) (oi := _) (v := ?_) rfl (by kernel_rfl) (by kernel_rfl) (by kernel_rfl) (by kernel_rfl) (fun _ _ _ h => h) (Or.inl ⟨by rfl, ?_⟩) (by assumption) ?_
  rotate_left; (intro wS hSw; (try dsimp only at hSw); go_simp <;> with_reducible rfl)
  try simp only [List.getElem_toArray, List.getElem_cons_zero, List.getElem_cons_succ, Act.put, List.setIfInBounds_toArray, List.set_cons_zero, List.set_cons_succ]
  refine wpT_one (i := 3) (by kernel_rfl) rfl (fun K hK => ?_)
  go_simp
  try rw [hWd]
  rw [hWd] at HBd HTd HRd HVd HSd HB3
  refine (ints_any A l n cA hn (by omega) _ HSd).mono ?_
  rintro e w4 ⟨cI, rfl, hI4, hb4⟩
  refine hK.out _ _ ?_ (fun hHeld => ?_)
  · exact HTd.out.below hb4
  clear hK K
  try simp only [List.getElem_toArray, List.getElem_cons_zero, List.getElem_cons_succ, Act.put, List.setIfInBounds_toArray, List.set_cons_zero, List.set_cons_succ]
  refine wpT_one (i := 4) (by kernel_rfl) rfl (fun K hK => ?_)
  go_simp
  have HV4 := Lib.hid (HVd.out.below hb4)
  rw [show cI.val = (.agg #[.int .i64 cI.kind, .int .i64 cI.n, .slice cI.B cI.nb cI.cb, .slice cI.L cI.nl cI.cl] : Value) from rfl]
  refine (tabsorb_ok h hl hb c hc0 hc1 s hs hr _ cI _ HV4 (Lib.hid hI4) hfi hle).mono ?_
  rintro e w5 ⟨rfl, hb5⟩
  have HR5 := Lib.hid ((HRd.out.below hb4).below hb5)
  have HB5 := Lib.hid (below_ext (below_ext HB3.out hb4) hb5)
  obtain ⟨R, hR⟩ : ∃ R, abL h (bys s) (.lst (l.map .int)) = R := ⟨_, rfl⟩
  have hRl : R.length = 32 := by rw [← hR]; exact abL_len _ _ _
  have HN : Kp (abL h (bys s) (.lst (l.map .int)) = R) := ⟨hR⟩
  have HRL := Lib.hid hRl
  rw [hR, show TrE R (c + 1) 0 = .tuple #[.agg (tcs R (c + 1)), .int .i64 0] from rfl]
  refine hK.out _ _ ?_ (fun hHeld => ?_)
  · exact (HTd.out.below hb4).below hb5
  clear hK K
  try simp only [List.getElem_toArray, List.getElem_cons_zero, List.getElem_cons_succ, Act.put, List.setIfInBounds_toArray, List.set_cons_zero, List.set_cons_succ]
  refine wpT_take (i := 5) (oi := _) (v := ?_) rfl (by kernel_rfl) (by kernel_rfl) (by kernel_rfl) (by kernel_rfl) (fun _ _ _ h => h) (Or.inl ⟨by rfl, ?_⟩) (by assumption) ?_
  rotate_left; (intro wS hSw; (try dsimp only at hSw); go_simp <;> with_reducible rfl)
  try simp only [List.getElem_toArray, List.getElem_cons_zero, List.getElem_cons_succ, Act.put, List.setIfInBounds_toArray, List.set_cons_zero, List.set_cons_succ]
  refine wpT_take (i := 6) (oi := _) (v := ?_) rfl (by kernel_rfl) (by kernel_rfl) (by kernel_rfl) (by kernel_rfl) (fun _ _ _ h => h) (Or.inl ⟨by rfl, ?_⟩) (by assumption) ?_
  rotate_left; (intro wS hSw; (try dsimp only at hSw); go_simp <;> with_reducible rfl)
  try simp only [List.getElem_toArray, List.getElem_cons_zero, List.getElem_cons_succ, Act.put, List.setIfInBounds_toArray, List.set_cons_zero, List.set_cons_succ]
  refine wpT_pass (i := 7) (by kernel_rfl) (by simp) rfl (fun K hK => ?_)
  rw [show (if Region.wanted _ _ = true then _ else _ : Prop) = _ from if_pos rfl]
  refine wp_store_row 163 _ _ rfl (w.heap.size + 1) (tcs R (c + 1)) rfl rfl 163 _ HR5.out (tr_info HRL.out) (tcs_sz rfl HRL.out) (tcs_one _ _) ?_
  refine hK.out _ _ ?_
  clear hK K
  try simp only [List.getElem_toArray, List.getElem_cons_zero, List.getElem_cons_succ, Act.put, List.setIfInBounds_toArray, List.set_cons_zero, List.set_cons_succ]
  refine wpT_pass (i := 8) (by kernel_rfl) (by simp) rfl (fun K hK => ?_)
  go_simp
  refine hK.out _ _ ?_
  clear hK K
  try simp only [List.getElem_toArray, List.getElem_cons_zero, List.getElem_cons_succ, Act.put, List.setIfInBounds_toArray, List.set_cons_zero, List.set_cons_succ]
  refine wpT_done (by kernel_rfl) ?_ _
  have HRR : Hid (TBlk (w5.setRow (w.heap.size + 1) (tcs R (c + 1))) (w.heap.size + 1) R (c + 1)) := Lib.hid HR5.out.setRow
  have HBF : Below w.heap.size w (w5.setRow (w.heap.size + 1) (tcs R (c + 1))) := below_setRow' HB5.out (by omega)
  clear hR hRl hb4 hb5 hI4 HV4 HB5 HR5 hWd
  go_wp2
  exact bodyPost_ret (v := TrE R (c + 1) 0) (results_cell_tmp2 (p := 6) (q := 7) (ty := 163) rfl _ _ ⟨w.heap.size + 1, 0, none⟩ _ _ rfl rfl (run_loadVar_row _ _ _ _ _ _ _ HRR.out Tryz.underlying163 rfl (tr_info HRL.out))) rfl ⟨by rw [HN.out], HBF⟩
end Go.Proofs.YtojedhnglobddaaGreatDoor
namespace Go.Proofs.YtojedhnglobddaaGreatDoor
open Go.RowKit SpM
set_option linter.unusedVariables false
set_option linter.unusedSimpArgs false
set_option maxRecDepth 100000
def tagCh : ByteArray := { data := #[115, 112, 101, 99, 105, 101, 47, 99, 104, 97, 108, 108, 101, 110, 103, 101] }
/-- the digest that a challenge is made of. -/
def chD (h s : List Int) : List Int := tagged (bys tagCh) (enc (.lst [.byt h, .byt s]))
/-- the challenge. -/
def chN (q : Int) (h s : List Int) : Int := numv q (chD h s)
/-- the state behind a challenge. -/
def chL (q : Int) (h s : List Int) : List Int := abL h s (.int (chN q h s))
theorem chD_bytes (h s : List Int) : bytesB (chD h s) = true := sha_bytes _
theorem results_cell_tmp3 {P : Program} {fn : Func} {p q r : Tmp} {ty : TypeId} (h : fn.results = #[.cell p ty, .tmp q, .tmp r]) (tmps : Array Value) (w : World) (a : Addr) (v u x : Value)
    (hp : tmps.getD p undef = .pointer (some a)) (hq : tmps.getD q undef = u) (hr : tmps.getD r undef = x) (hl : (loadVar ty a).run P w = .ok v w) : (results fn tmps).run P w = .ok (.tuple #[v, u, x]) w := by
  have hp' : tmps[p]?.getD undef = .pointer (some a) := by simpa using hp
  have hq' : tmps[q]?.getD undef = u := by simpa using hq
  have hr' : tmps[r]?.getD undef = x := by simpa using hr
  simp [results, h, hp', hq', hr', asAddr, hl]
/-- the answer of a challenge. -/
def ChE (h : List Int) (c n e : Int) : Value := .tuple #[.agg (tcs h c), .int .i64 n, .int .i64 e]
set_option maxHeartbeats 3200000 in
theorem tchal_ok (h : List Int) (hl : Hid (h.length = 32)) (hb : Hid (bytesB h = true)) (c : Int) (hc0 : 0 ≤ c) (hc1 : c < 1000) (s : ByteArray) (hs : s.size ≤ 1000) (hr : Hid (labB (bys s) = true)) (q : Int) (hq1 : 2 ≤ q) (hq2 : q < 2305843009213693952) (w : World) (hv : Hid (VarsD w)) :
    Calls Tryz.prog 142 #[.agg (tcs h c), .string s, .int .i64 q] w fun e w' => e = .returned (ChE (chL q h (bys s)) (c + 1) (chN q h (bys s)) 0) ∧ Below w.heap.size w w' := by
  have hs0 : 1 ≤ s.size := by
    have h := hr.out
    rw [labB, bys_len] at h
    simp at h
    exact h.1.1
  obtain ⟨W, hW⟩ : ∃ W, (w.alloc (.cells (tcs h c) 163)).alloc (.cells #[.int .u8 0, .int .u8 0, .int .u8 0, .int .u8 0, .int .u8 0, .int .u8 0, .int .u8 0, .int .u8 0, .int .u8 0, .int .u8 0, .int .u8 0, .int .u8 0, .int .u8 0, .int .u8 0, .int .u8 0, .int .u8 0, .int .u8 0, .int .u8 0, .int .u8 0, .int .u8 0, .int .u8 0, .int .u8 0, .int .u8 0, .int .u8 0, .int .u8 0, .int .u8 0, .int .u8 0, .int .u8 0, .int .u8 0, .int .u8 0, .int .u8 0, .int .u8 0, .int .i64 0] 163) = W := ⟨_, rfl⟩
  have HBX : Hid (Below w.heap.size w W) := Lib.hid (by rw [← hW]; exact below_two (Below.refl _ _))
  have HT0 : Hid (TBlk W w.heap.size h c) := Lib.hid (by rw [← hW]; exact heap_alloc2_old _ _ _)
  have HR0 : Hid (TBlk W (w.heap.size + 1) (zer 32) 0) := Lib.hid (by rw [← hW, ztr]; exact heap_alloc2_new _ _ _)
  have HV := Lib.hid (hv.out.below HBX.out)
  have HW := Lib.hid hW
  have hcn : ¬ (c = 1000) := by omega
  have hqa : ¬ (q < 2) := by omega
  have hqb : ¬ (2305843009213693952 ≤ q) := by omega
  clear hW hv
  go_enter Tryz.func142, Tryz.ntmps142
  go_upto_region 1 with (fail)
  rw [HW.out]
  clear HW
  go_wp2_with ((with_reducible show wpList _ _ _ (⟨some 14, _, _, _, _, _⟩ :: _) _ _); refine wpList_load_row rfl 163 _ rfl w.heap.size rfl _ _ _ _ HT0.out Tryz.underlying163 rfl (tr_info hl.out) ?_)
  refine (tvalid_any h hl c hc0 (by omega) _).mono ?_
  rintro e w1 ⟨rfl, hb1⟩
  have HB1 := Lib.hid (below_ext HBX.out hb1)
  have HT1 := Lib.hid (HT0.out.below hb1)
  have HV1 := Lib.hid (HV.out.below hb1)
  have HR1 := Lib.hid (HR0.out.below hb1)
  clear hb1 HT0 HV HR0 HBX
  go_wp2_with fail
  refine (tlabel_any s hs true hr _).mono ?_
  rintro e w2 ⟨rfl, hb2⟩
  have HT2 := Lib.hid (HT1.out.below hb2)
  have HV2 := Lib.hid (HV1.out.below hb2)
  have HR2 := Lib.hid (HR1.out.below hb2)
  have HB2 := Lib.hid (below_ext HB1.out hb2)
  clear hb2 HT1 HV1 HR1 HB1
  have hcnt := HT2.out.count hl.out
  go_wp2_with ((with_reducible show wpList _ _ _ (⟨some 37, _, _, _, _, _⟩ :: _) _ _); refine wpList_load_row rfl 163 _ rfl w.heap.size rfl _ _ _ _ HT2.out Tryz.underlying163 rfl (tr_info hl.out) ?_)
  clear hcnt
  refine (hash0_any tagCh (by decide) (by decide) h hl hb c s hs0 hs _ HV2).mono ?_
  rintro e w4 ⟨rfl, hb4⟩
  have HT4 := Lib.hid (HT2.out.below hb4)
  have HR4 := Lib.hid (HR2.out.below hb4)
  have HV4 := Lib.hid (HV2.out.below hb4)
  have HB4 := Lib.hid (below_ext HB2.out hb4)
  obtain ⟨R, hR⟩ : ∃ R, tagged (bys tagCh) (enc (.lst [.byt h, .byt (bys s)])) = R := ⟨_, rfl⟩
  have hRl : R.length = 32 := by rw [← hR]; exact tagged_len _ _
  have HRB : Hid (bytesB R = true) := Lib.hid (by rw [← hR]; exact chD_bytes _ _)
  have HN : Kp (chD h (bys s) = R) := ⟨hR⟩
  have HRL := Lib.hid hRl
  rw [hR, show HashOk R = .tuple #[.agg (arr .u8 R), .int .i64 0] from rfl]
  clear hb4 HT2 HV2 HR2 HB2 hR hRl
  go_upto_region 8 with ((with_reducible show wpList _ _ _ (⟨none, _, _, _, _, _⟩ :: _) _ _); refine wpList_store_row rfl 60 _ _ rfl w4.heap.size (arr .u8 R) rfl rfl _ _ (heap_alloc_new _ _) (hash_info HRL.out) (arrs_sz (l := zer 32) rfl HRL.out) (arr_one _) ?_)
  rw [World.setRow_alloc_new]
  try simp only [Act.put]
  have HK5 : Hid (Blk .u8 60 (w4.alloc (.cells (arr .u8 R) 60)) w4.heap.size R) := Lib.hid (Blk.new _ _)
  have HT5 := Lib.hid (HT4.out.below (below_box0 w4 (.cells (arr .u8 R) 60)))
  have HR5 := Lib.hid (HR4.out.below (below_box0 w4 (.cells (arr .u8 R) 60)))
  have HV5 := Lib.hid (HV4.out.below (below_box0 w4 (.cells (arr .u8 R) 60)))
  have HB5 := Lib.hid (below_ext HB4.out (below_box0 w4 (.cells (arr .u8 R) 60)))
  obtain ⟨W5, hW5⟩ : ∃ u, w4.alloc (.cells (arr .u8 R) 60) = u := ⟨_, rfl⟩
  rw [hW5] at HK5 HT5 HR5 HB5 HV5 ⊢
  clear hW5 HT4 HR4 HV4 HB4
  go_wp2_with ((with_reducible show wpList _ _ _ (⟨some 47, _, _, _, _, _⟩ :: _) _ _); refine wpList_load_row rfl 60 _ rfl w4.heap.size rfl _ _ _ _ HK5.out Tryz.underlying60 rfl (hash_info HRL.out) ?_)
  refine (number_any R HRL HRB q (by omega) hq2 _).mono ?_
  rintro e w6 ⟨rfl, hb6⟩
  have HT6 := Lib.hid (HT5.out.below hb6)
  have HR6 := Lib.hid (HR5.out.below hb6)
  have HV6 := Lib.hid (HV5.out.below hb6)
  have HB6 := Lib.hid (below_ext HB5.out hb6)
  obtain ⟨n, hn⟩ : ∃ n, numv q R = n := ⟨_, rfl⟩
  have hn0 : 0 ≤ n ∧ n < q := by rw [← hn]; exact numL_lo (by omega) 16
  obtain ⟨hn1, hn2⟩ := hn0
  have HNN : Kp (chN q h (bys s) = n) := ⟨by rw [chN, HN.1]; exact hn⟩
  rw [hn]
  clear hb6 hn HT5 HR5 HV5 HB5 HK5
  go_wp2_with ((with_reducible show wpList _ _ _ (⟨some 57, _, _, _, _, _⟩ :: _) _ _); refine wpList_load_row rfl 163 _ rfl w.heap.size rfl _ _ _ _ HT6.out Tryz.underlying163 rfl (tr_info hl.out) ?_)
  refine (tabsorb_ok h hl hb c hc0 hc1 s hs hr (.int n) ⟨1, n, none, 0, 0, none, 0, 0⟩ _ HV6 (Lib.hid (.int n _ rfl rfl rfl rfl)) (Lib.hid ⟨by omega, by omega⟩) (Lib.hid (by rw [enc_int, List.length_cons, be8_len]; decide))).mono ?_
  rintro e w7 ⟨rfl, hb7⟩
  have HR7 := Lib.hid (HR6.out.below hb7)
  have HB7 := Lib.hid (below_ext HB6.out hb7)
  obtain ⟨G, hG⟩ : ∃ G, abL h (bys s) (.int n) = G := ⟨_, rfl⟩
  have HGL : Hid (G.length = 32) := Lib.hid (by rw [← hG]; exact abL_len _ _ _)
  have HNG : Kp (chL q h (bys s) = G) := ⟨by rw [chL, HNN.1]; exact hG⟩
  rw [hG, show TrE G (c + 1) 0 = .tuple #[.agg (tcs G (c + 1)), .int .i64 0] from rfl]
  clear hb7 hG HR6 HB6 HT6 HV6
  go_upto_region 14 with ((with_reducible show wpList _ _ _ (⟨none, _, _, _, _, _⟩ :: _) _ _); refine wpList_store_row rfl 163 _ _ rfl w7.heap.size (tcs G (c + 1)) rfl rfl _ _ (heap_alloc_new _ _) (tr_info HGL.out) (tcs_sz (h := zer 32) (c := 0) rfl HGL.out) (tcs_one _ _) ?_)
  rw [World.setRow_alloc_new]
  try simp only [Act.put]
  have HK8 : Hid (TBlk (w7.alloc (.cells (tcs G (c + 1)) 163)) w7.heap.size G (c + 1)) := Lib.hid (TBlk.new _ _ _)
  have HR8 := Lib.hid (HR7.out.below (below_box0 w7 (.cells (tcs G (c + 1)) 163)))
  have HB8 := Lib.hid (below_ext HB7.out (below_box0 w7 (.cells (tcs G (c + 1)) 163)))
  obtain ⟨W8, hW8⟩ : ∃ u, w7.alloc (.cells (tcs G (c + 1)) 163) = u := ⟨_, rfl⟩
  rw [hW8] at HK8 HR8 HB8 ⊢
  clear hW8 HR7 HB7
  go_wp2_with (first
    | ((with_reducible show wpList _ _ _ (⟨some 68, _, _, _, _, _⟩ :: _) _ _); refine wpList_load_row rfl 163 _ rfl w7.heap.size rfl _ _ _ _ HK8.out Tryz.underlying163 rfl (tr_info HGL.out) ?_)
    | ((with_reducible show wpList _ _ _ (⟨none, _, _, _, _, _⟩ :: _) _ _); refine wpList_store_row rfl 163 _ _ rfl (w.heap.size + 1) (tcs G (c + 1)) rfl rfl _ _ HR8.out (tr_info HGL.out) (tcs_sz rfl HGL.out) (tcs_one _ _) ?_))
  have HRR : Hid (TBlk (W8.setRow (w.heap.size + 1) (tcs G (c + 1))) (w.heap.size + 1) G (c + 1)) := Lib.hid HR8.out.setRow
  have HBF : Below w.heap.size w (W8.setRow (w.heap.size + 1) (tcs G (c + 1))) := below_setRow' HB8.out (by omega)
  exact bodyPost_ret (v := ChE G (c + 1) n 0) (results_cell_tmp3 (p := 6) (q := 7) (r := 8) (ty := 163) rfl _ _ ⟨w.heap.size + 1, 0, none⟩ _ _ _ rfl rfl rfl (run_loadVar_row _ _ _ _ _ _ _ HRR.out Tryz.underlying163 rfl (tr_info HGL.out))) rfl ⟨by rw [HNG.out, HNN.out], HBF⟩
end Go.Proofs.YtojedhnglobddaaGreatDoor
namespace Go.Proofs.YtojedhnglobddaaGreatDoor
open Go.RowKit SpM
set_option linter.unusedVariables false
set_option linter.unusedSimpArgs false
set_option maxRecDepth 100000
theorem own_setRow {w : World} {p : Addr} {v : Value} {a : Nat} {cs : Array Value} (h : Own w p v) (hne : p.block ≠ a) : Own (w.setRow a cs) p v := by
  have hb := setRow_other w a p.block cs hne
  exact ⟨(World.cell?_of_block hb).trans h.1, by
    have h2 := h.2
    simp only [World.frozen?] at h2 ⊢
    rw [hb]
    exact h2⟩
/-- a list of machine integers, not too long. -/
def okL (l : List Int) : Prop := l.length ≤ 1000 ∧ ∀ x ∈ l, -9223372036854775808 ≤ x ∧ x < 9223372036854775808
theorem okL.fits {l : List Int} (h : okL l) : Hid (fits 7 (.lst (l.map .int))) := Lib.hid (by
  refine ⟨by rw [List.length_map]; exact h.1, fun x hx => ?_⟩
  obtain ⟨y, hy, rfl⟩ := List.mem_map.1 hx
  exact h.2 y hy)
theorem encL_ints (l : List Int) : (encL (l.map .int)).length = 9 * l.length := by
  induction l with
  | nil => rfl
  | cons x l ih => rw [List.map_cons, encL, List.length_append, ih, enc_int, List.length_cons, be8_len, List.length_cons]; omega
theorem okL.len {l : List Int} (h : okL l) : Hid ((enc (.lst (l.map .int))).length ≤ 14000) := Lib.hid (by
  rw [enc_lst, List.length_cons, List.length_append, be4_len, encL_ints]
  have := h.1
  omega)
/-- the state behind a list of integers absorbed. -/
def absL (h s l : List Int) : List Int := abL h s (.lst (l.map .int))
theorem absL_len (h s l : List Int) : (absL h s l).length = 32 := abL_len _ _ _
theorem absL_bytes (h s l : List Int) : bytesB (absL h s l) = true := sha_bytes _
theorem absorb_no (A : Option Addr) (n cA : Nat) (s : ByteArray) (a e0 : Nat) (x : Int) (hx : (x == 0) = false) (w : World) (hE : Hid (Own w ⟨e0, 0, none⟩ (.int .i64 x))) :
    Calls Tryz.prog 140 #[.string s, .slice A n cA, .pointer (some ⟨e0, 0, none⟩), .pointer (some ⟨a, 0, none⟩)] w fun e w' => (∃ v, e = .returned v) ∧ w' = w := by
  obtain ⟨hc, hf⟩ := hE.out
  go_enter Tryz.func140, Tryz.ntmps140
  go_wp2
  go_end0
  exact ⟨⟨_, rfl⟩, rfl⟩
set_option maxHeartbeats 3200000 in
theorem absorb_ok (h : List Int) (hl : Hid (h.length = 32)) (hb : Hid (bytesB h = true)) (c : Int) (hc0 : 0 ≤ c) (hc1 : c < 1000) (s : ByteArray) (hs : s.size ≤ 1000) (hr : Hid (labB (bys s) = true)) (A : Option Addr) (l : List Int) (n cA : Nat) (hn : Hid (l.length = n)) (hok : Hid (okL l)) (a e0 B : Nat) (w : World) (hv : Hid (VarsD w)) (hS : Hid (Sl w A l))
    (hT : Hid (TBlk w a h c)) (hE : Hid (Own w ⟨e0, 0, none⟩ (.int .i64 0))) (hne : e0 ≠ a) (hBa : B ≤ a) (hBe : B ≤ e0) :
    Calls Tryz.prog 140 #[.string s, .slice A n cA, .pointer (some ⟨e0, 0, none⟩), .pointer (some ⟨a, 0, none⟩)] w fun e w' => (∃ v, e = .returned v) ∧ TBlk w' a (absL h (bys s) l) (c + 1) ∧ Own w' ⟨e0, 0, none⟩ (.int .i64 0) ∧ Below B w w' := by
  have hbig : n ≤ 1000 := by rw [← hn.out]; exact hok.out.1
  have HF := hok.out.fits
  have HLN := hok.out.len
  obtain ⟨hc, hf⟩ := hE.out
  have HBS : Hid (B ≤ w.heap.size) := Lib.hid (by have := hT.out.lt; omega)
  go_enter Tryz.func140, Tryz.ntmps140
  go_wp2_with ((with_reducible show wpList _ _ _ (⟨some 9, _, _, _, _, _⟩ :: _) _ _); refine wpList_load_row rfl 163 _ rfl a rfl _ _ _ _ hT.out Tryz.underlying163 rfl (tr_info hl.out) ?_)
  refine (tints_ok h hl hb c hc0 hc1 s hs hr A l n cA hn hbig _ hv hS HF HLN).mono ?_
  rintro e w1 ⟨rfl, hb1⟩
  have HT1 := Lib.hid (hT.out.below hb1)
  have HE1 := Lib.hid (hE.out.below hb1)
  have HB1 : Hid (Below B w w1) := Lib.hid (hb1.mono HBS.out)
  obtain ⟨R, hR⟩ : ∃ R, abL h (bys s) (.lst (l.map .int)) = R := ⟨_, rfl⟩
  have hRl : R.length = 32 := by rw [← hR]; exact abL_len _ _ _
  have HN : Kp (absL h (bys s) l = R) := ⟨hR⟩
  have HRL := Lib.hid hRl
  rw [hR, show TrE R (c + 1) 0 = .tuple #[.agg (tcs R (c + 1)), .int .i64 0] from rfl]
  have HE2 := Lib.hid (own_setRow (cs := tcs R (c + 1)) HE1.out (show (⟨e0, 0, none⟩ : Addr).block ≠ a from hne))
  clear hb1 hc hf hR hRl
  obtain ⟨q1, q2⟩ := HE2.out
  go_wp2_with ((with_reducible show wpList _ _ _ (⟨none, _, _, _, _, _⟩ :: _) _ _); refine wpList_store_row rfl 163 _ _ rfl a (tcs R (c + 1)) rfl rfl _ _ HT1.out (tr_info HRL.out) (tcs_sz hl.out HRL.out) (tcs_one _ _) ?_)
  have HT2 : Hid (TBlk (w1.setRow a (tcs R (c + 1))) a R (c + 1)) := Lib.hid HT1.out.setRow
  have hT3 : TBlk ((w1.setRow a (tcs R (c + 1))).setCell ⟨e0, 0, none⟩ (.int .i64 0)) a R (c + 1) := (heap_setCell_other _ _ _ _ (Ne.symm hne)).trans HT2.out
  have hE3 := own_set_eq2 (u := .int .i64 0) HE2.out
  have hB3 : Below B w ((w1.setRow a (tcs R (c + 1))).setCell ⟨e0, 0, none⟩ (.int .i64 0)) := (below_setRow' HB1.out hBa).setCell hBe _
  go_end0
  exact ⟨⟨_, rfl⟩, by rw [HN.out]; exact hT3, hE3, hB3⟩
end Go.Proofs.YtojedhnglobddaaGreatDoor
namespace Go.Proofs.YtojedhnglobddaaGreatDoor
open Go.RowKit SpM
set_option linter.unusedVariables false
set_option linter.unusedSimpArgs false
set_option maxRecDepth 20000
theorem pow_eq (a e m v : Int) (hv : Hid (pw a e m = v)) (h1 : 1 ≤ m) (h2 : m < 2305843009213693952) (ha0 : 0 ≤ a) (ha : a < m) (he0 : 0 ≤ e) (he : e < 9223372036854775808) (w : World) :
    Calls Tryz.prog 100 #[.int .i64 a, .int .i64 e, .int .i64 m] w fun e' w' => e' = .returned (.tuple #[.int .i64 v, .int .i64 0]) ∧ ∃ n, w' = w.drewN n := by
  rw [← hv.out]; exact pow_ok a e m h1 h2 ha0 ha he0 he w
theorem wmul_eq (a b m v : Int) (hv : Hid (a * b % m = v)) (h2 : m < 2305843009213693952) (ha0 : 0 ≤ a) (ha : a < m) (hb0 : 0 ≤ b) (hb : b < m) (w : World) :
    Calls Tryz.prog 39 #[.int .i64 a, .int .i64 b, .int .i64 m] w fun e w' => e = .returned (.tuple #[.int .i64 v, .int .i64 0]) ∧ ∃ n, w' = w.drewN n := by
  rw [← hv.out]; exact wmul_ok a b m h2 ha0 ha hb0 hb w
/-- the product of powers, folded into acc. -/
def prodF (P : Int) : Int → List Int → List Int → Int
  | acc, x :: xs, e :: es => prodF P (acc * pw x e P % P) xs es
  | acc, _, _ => acc
theorem prodF_step {P acc : Int} {k : Nat} {xs es : List Int} (hk : k < xs.length) (he : k < es.length) :
    prodF P acc (xs.drop k) (es.drop k) = prodF P (acc * pw (xs.getD k 0) (es.getD k 0) P % P) (xs.drop (k + 1)) (es.drop (k + 1)) := by
  rw [List.drop_eq_getElem_cons hk, List.drop_eq_getElem_cons he, prodF, List.getD_eq_getElem?_getD, List.getElem?_eq_getElem hk, List.getD_eq_getElem?_getD, List.getElem?_eq_getElem he]
  rfl
theorem prodF_start {P s V : Int} {xs es : List Int} (h : Hid (prodF P s xs es = V)) : Hid (prodF P s (xs.drop 0) (es.drop 0) = V) := Lib.hid (by
  rw [List.drop_zero, List.drop_zero]
  exact h.out)
theorem prodF_end {P acc V : Int} {k : Nat} {xs es : List Int} (hn : xs.length = k) (h : Hid (prodF P acc (xs.drop k) (es.drop k) = V)) : acc = V := by
  have h2 := h.out
  rw [← hn, List.drop_length] at h2
  exact h2
theorem scB_lo {Q x : Int} (h : scB Q x = true) : 0 ≤ x := by simp [scB] at h; exact h.1
theorem scB_hi {Q x : Int} (h : scB Q x = true) : x < Q := by simp [scB] at h; exact h.2
set_option maxHeartbeats 6400000 in
theorem lproduct_any (P Q G start : Int) (A : Option Addr) (xs : List Int) (n c : Nat) (E : Option Addr) (es : List Int) (m d : Nat) (V : Int) (hV : Hid (prodF P start xs es = V)) (hn : Hid (xs.length = n)) (hm : Hid (es.length = m)) (hnm : n ≤ m) (hbig : m < 1000000)
    (hx : Hid (xs.all (memG P Q) = true)) (he : Hid (es.all (scB Q) = true)) (hp2 : 2 ≤ P) (hp : P < 2305843009213693952) (hQ : Q < 9223372036854775808) (hs0 : 0 ≤ start) (hs1 : start < P) (w : World) (hA : Hid (Sl w A xs)) (hE : Hid (Sl w E es)) :
    Calls Tryz.prog 194 #[gv P Q G, .int .i64 start, .slice A n c, .slice E m d] w fun e' w' => e' = .returned (.int .i64 V) ∧ Below w.heap.size w w' := by
  have HBX := Lib.hid (below_box0 w (gObj P Q G))
  have HX0 := Lib.hid (gbox_alloc w P Q G)
  have HA0 := Lib.hid (hA.out.below HBX.out)
  have HE0 := Lib.hid (hE.out.below HBX.out)
  obtain ⟨W, hW⟩ : ∃ W, w.alloc (gObj P Q G) = W := ⟨_, rfl⟩
  rw [hW] at HX0 HA0 HE0 HBX
  have HW := Lib.hid hW
  clear hW hA hE
  go_enter Tryz.func194, Tryz.ntmps194
  go_wp2
  rw [HW.out]
  go_loopw [9, 17] (fun y i wr => ∃ (k : Nat) (acc : Int), k ≤ n ∧ y = .int .i64 acc ∧ i = .int .i64 k ∧ 0 ≤ acc ∧ acc < P ∧ Hid (prodF P acc (xs.drop k) (es.drop k) = V) ∧ Hid (Below W.heap.size W wr)) (fun _ i _ => n - (intOf i).toNat)
  case atStart => exact ⟨0, start, by omega, rfl, rfl, by omega, by omega, prodF_start hV, Lib.hid (Below.refl _ _)⟩
  case round =>
    obtain ⟨k, acc, hk, rfl, rfl, a0, a1, HJ, HBr⟩ := hrel
    by_cases hlt : k < n
    · have hkl : k < xs.length := by rw [hn.out]; exact hlt
      have hkm : k < m := by omega
      have hke : k < es.length := by rw [hm.out]; exact hkm
      obtain ⟨b, o, hA, hi0⟩ := HA0.out.below HBr.out k hkl
      obtain ⟨b2, o2, hE, hi1⟩ := HE0.out.below HBr.out k hke
      subst hA
      subst hE
      obtain ⟨c0, c1, c2⟩ := HX0.out.below HBr.out
      have hm1 := all_get hx.out hkl
      have hm2 := all_get he.out hke
      have hst := prodF_step (P := P) (acc := acc) hkl hke
      obtain ⟨x, hxx⟩ : ∃ x, xs.getD k 0 = x := ⟨_, rfl⟩
      obtain ⟨ex, hee⟩ : ∃ x, es.getD k 0 = x := ⟨_, rfl⟩
      rw [hxx] at hi0 hm1 hst
      rw [hee] at hi1 hm2 hst
      have x0 := memG_lo hm1
      have x1 := memG_hi hm1
      have e0 := scB_lo hm2
      have e1 := scB_hi hm2
      obtain ⟨p, hp1⟩ : ∃ p, pw x ex P = p := ⟨_, rfl⟩
      obtain ⟨p0, p1⟩ : 0 ≤ p ∧ p < P := by rw [← hp1]; exact pw_lt _ _ _ (by omega)
      rw [hp1] at hst
      obtain ⟨acc2, hac⟩ : ∃ a, acc * p % P = a := ⟨_, rfl⟩
      rw [hac] at hst
      have q0 : 0 ≤ acc2 := by rw [← hac]; exact Int.emod_nonneg _ (by omega)
      have q1 : acc2 < P := by rw [← hac]; exact Int.emod_lt_of_pos _ (by omega)
      have HJ2 : Hid (prodF P acc2 (xs.drop (k + 1)) (es.drop (k + 1)) = V) := Lib.hid (hst.symm.trans HJ.out)
      have HP1 := Lib.hid hp1
      have HAC := Lib.hid hac
      clear hm1 hm2 hst hxx hee hp1 hac hkl hke HJ
      go_wp2
      go_quiet ((go_at_call 100; exact Calls.quiet_of (pow_eq x ex P p HP1 (by omega) hp (by omega) x1 e0 (by omega) _)))
      go_wp2_with fail
      refine (wmul_eq acc p P acc2 HAC hp a0 a1 p0 p1 _).mono ?_
      rintro e w' ⟨rfl, n3, rfl⟩
      have HB2 : Hid (Below W.heap.size W (wr.drewN (nq + n3))) := Lib.hid (below_drawN HBr.out _)
      go_wp2
      go_roundw
      case rel => exact ⟨k + 1, acc2, by omega, rfl, by go_num, q0, q1, HJ2, HB2⟩
      case measure => simp [intOf]; omega
    · obtain rfl : k = n := by omega
      obtain rfl := prodF_end hn.out HJ
      have hbF := below_ext HBX.out HBr.out
      clear HJ hlt
      go_wp2
      go_ret
      exact ⟨rfl, hbF⟩
theorem OwnL.keep {w w' : World} {B : Nat} {v : Value} {xs : List Int} (h : OwnL w B v xs) (hb : Below w.heap.size w w') : OwnL w' B v xs := by
  obtain ⟨h1, h2⟩ := h
  refine ⟨h1, h2.imp id ?_⟩
  rintro ⟨g, cap, cur, rfl, hg, hh, rest⟩
  exact ⟨g, cap, cur, rfl, hg, (hb.block g (Array.getElem?_eq_some_iff.1 hh).1).trans hh, rest⟩
theorem OwnL.mono {w : World} {B B' : Nat} {v : Value} {xs : List Int} (h : OwnL w B v xs) (hb : B' ≤ B) : OwnL w B' v xs := by
  obtain ⟨h1, h2⟩ := h
  refine ⟨h1, h2.imp id ?_⟩
  rintro ⟨g, cap, cur, rfl, hg, rest⟩
  exact ⟨g, cap, cur, rfl, by omega, rest⟩
theorem takeMap_succ {f : Row → Int} {rows : List Row} {k : Nat} (hk : k < rows.length) : (rows.take (k + 1)).map f = (rows.take k).map f ++ [f (rows.getD k noRow)] := by
  rw [List.take_add_one, List.map_append, List.getElem?_eq_getElem hk, List.getD_eq_getElem?_getD, List.getElem?_eq_getElem hk]
  rfl
theorem takeMap_len {f : Row → Int} {rows : List Row} {k : Nat} (hk : k ≤ rows.length) : ((rows.take k).map f).length = k := by
  rw [List.length_map, List.length_take]; omega
theorem rowAll_get {f : Row → Bool} {xs : List Row} (h : xs.all f = true) {k : Nat} (hk : k < xs.length) : f (xs.getD k noRow) = true := by
  rw [List.getD_eq_getElem?_getD, List.getElem?_eq_getElem hk]
  exact List.all_eq_true.1 h _ (List.getElem_mem hk)
/-- a list that the call made. -/
def ListOut (zs : List Int) (w : World) (e : Ending) (w' : World) : Prop := ∃ v, e = .returned v ∧ OwnL w' w.heap.size v zs ∧ Below w.heap.size w w'
set_option maxHeartbeats 6400000 in
theorem lproducts_any (P Q G : Int) (A : Option Addr) (rows : List Row) (n c : Nat) (E : Option Addr) (es : List Int) (m d : Nat) (hn : Hid (rows.length = n)) (hm : Hid (es.length = m)) (hbig : m < 1000000) (hbign : n < 1000000)
    (hx : Hid (rows.all (rowB P Q m) = true)) (he : Hid (es.all (scB Q) = true)) (hp2 : 2 ≤ P) (hp : P < 2305843009213693952) (hQ : Q < 9223372036854775808) (w : World) (hA : Hid (Rw w A rows)) (hE : Hid (Sl w E es)) :
    Calls Tryz.prog 169 #[gv P Q G, .slice A n c, .slice E m d] w (ListOut (rows.map fun r => prodF P 1 r.xs es) w) := by
  obtain ⟨i0, hi, hz0, hz1, hz2⟩ := info_parts intInfo
  have HBX := Lib.hid (below_box0 w (gObj P Q G))
  have HX0 := Lib.hid (gbox_alloc w P Q G)
  have HA0 := Lib.hid (hA.out.below HBX.out)
  have HE0 := Lib.hid (hE.out.below HBX.out)
  obtain ⟨W, hW⟩ : ∃ W, w.alloc (gObj P Q G) = W := ⟨_, rfl⟩
  rw [hW] at HX0 HA0 HE0 HBX
  have HW := Lib.hid hW
  clear hW hA hE
  go_enter Tryz.func169, Tryz.ntmps169
  go_wp2
  rw [HW.out]
  go_loopw [7, 12] (fun v i wr => ∃ k : Nat, k ≤ n ∧ i = .int .i64 k ∧ Hid (OwnL wr W.heap.size v ((rows.take k).map fun r => prodF P 1 r.xs es)) ∧ Hid (Below W.heap.size W wr)) (fun _ i _ => n - (intOf i).toNat)
  case atStart => exact ⟨0, by omega, rfl, Lib.hid (ownL_nil _ _), Lib.hid (Below.refl _ _)⟩
  case round =>
    obtain ⟨k, hk, rfl, HO, HBr⟩ := hrel
    by_cases hlt : k < n
    · have hkl : k < rows.length := by rw [hn.out]; exact hlt
      obtain ⟨⟨b, o, hA, hi0⟩, hok⟩ := HA0.out.below HBr.out k hkl
      subst hA
      obtain ⟨c0, c1, c2⟩ := HX0.out.below HBr.out
      have HEr := Lib.hid (HE0.out.below HBr.out)
      have hrb := rowAll_get hx.out hkl
      have HTS := Lib.hid (takeMap_succ (f := fun r => prodF P 1 r.xs es) hkl)
      obtain ⟨R, hR⟩ : ∃ R, rows.getD k noRow = R := ⟨_, rfl⟩
      rw [hR] at hi0 hrb hok HTS
      obtain ⟨p, rn, rc, xs⟩ := R
      simp only [rowB, Bool.and_eq_true, decide_eq_true_eq] at hrb
      obtain ⟨rfl, hmx⟩ := hrb
      have HL := Lib.hid hok.1
      have HS := Lib.hid hok.2
      have HMX := Lib.hid hmx
      obtain ⟨V, hV⟩ : ∃ V, prodF P 1 xs es = V := ⟨_, rfl⟩
      have HV_ := Lib.hid hV
      have HTS2 : Hid ((rows.take (k + 1)).map (fun r => prodF P 1 r.xs es) = (rows.take k).map (fun r => prodF P 1 r.xs es) ++ [V]) := Lib.hid (by rw [HTS.out, ← hV])
      have HTL := Lib.hid (takeMap_len (f := fun r => prodF P 1 r.xs es) (Nat.le_of_lt hkl))
      dsimp only [Row.val] at hi0
      clear hR hok hmx hV hkl HTS
      go_wp2_with fail
      refine (lproduct_any P Q G 1 p xs rn rc E es rn d V HV_ HL hm (Nat.le_refl _) hbig HMX he hp2 hp hQ (by omega) (by omega) _ HS HEr).mono ?_
      rintro e w2 ⟨rfl, hb0⟩
      have HO1 := Lib.hid (HO.out.keep hb0)
      have HB1 := Lib.hid (below_ext HBr.out hb0)
      have hown : w2.ownsRow W.heap.size 3 1 u7 k (((rows.take k).map fun r => prodF P 1 r.xs es).map (Value.int .i64)) := by
        have h3 := HO1.out
        unfold OwnL at h3
        rwa [HTL.out] at h3
      have hbs := HB1.out.size
      clear hb0 c0 c1 c2 hi0 HO
      go_wp2_with (at_builtin; refine wpList_append_own _ rfl _ _ 24 rfl W.heap.size 3 i0 (.int .i64 0) 1 8 Tryz.underlying24 hi hz0 hz1 hz2 rfl (by decide) _ _ _ rfl (hown.alloc _) ⟨w2.heap.size, 0, none⟩ 1 1 [.int .i64 V] rfl rfl (cell_one_new _ _ _) (ints_oneCell .i64 [V]) (by unfold maxLen; omega) (by omega) (by simp; omega) ?_; intro v' w3 hown1 hgrow1 _)
      have HO2 : Hid (OwnL w3 W.heap.size v' ((rows.take (k + 1)).map fun r => prodF P 1 r.xs es)) := Lib.hid (by
        rw [HTS2.out]
        exact OwnL.app HTL.out.symm hown1)
      have HB2 : Hid (Below W.heap.size W w3) := Lib.hid (HO1.out.below HB1.out hbs hgrow1)
      clear hown hown1 hgrow1
      go_roundw
      case rel => exact ⟨k + 1, by omega, by go_num, HO2, HB2⟩
      case measure => simp [intOf]; omega
    · obtain rfl : k = n := by omega
      have HF : Hid (OwnL wr W.heap.size u7 (rows.map fun r => prodF P 1 r.xs es)) := Lib.hid (by
        have h3 := HO.out
        rwa [← hn.out, List.take_length] at h3)
      have hbF := below_ext HBX.out HBr.out
      have hsz := HBX.out.size
      clear HO hlt
      go_wp2
      go_ret
      exact ⟨_, rfl, HF.out.mono hsz, hbF⟩
end Go.Proofs.YtojedhnglobddaaGreatDoor
namespace Go.Proofs.YtojedhnglobddaaGreatDoor
open Go.RowKit SpM
set_option linter.unusedVariables false
set_option linter.unusedSimpArgs false
set_option maxRecDepth 20000
theorem validR_parts {P Q G : Int} {ys : List Int} {rows : List Row} (h : validR P Q G ys rows = true) :
    validG P Q G = true ∧ 1 ≤ ys.length ∧ ys.length ≤ 8 ∧ rows.length = ys.length ∧ ys.all (memG P Q) = true ∧ 1 ≤ rowN rows ∧ rowN rows ≤ 12 ∧ rows.all (rowB P Q (rowN rows)) = true := by
  simp only [validR, Bool.and_eq_true, decide_eq_true_eq] at h
  exact h
theorem sl_nil (w : World) : Sl w none [] := fun k hk => absurd hk (by simp)
end Go.Proofs.YtojedhnglobddaaGreatDoor
namespace Go.Proofs.YtojedhnglobddaaGreatDoor
open Go.RowKit SpM
set_option linter.unusedVariables false
set_option linter.unusedSimpArgs false
set_option maxRecDepth 20000
theorem sl_of_cells {w : World} {b : Nat} {xs : List Int} (h : Cells w b xs) : Sl w (some ⟨b, 0, none⟩) xs := fun k hk => ⟨b, 0, rfl, by rw [Nat.zero_add]; exact h k hk⟩
theorem scB_one {Q c : Int} (h0 : 0 ≤ c) (h1 : c < Q) : [c].all (scB Q) = true := by simp [scB]; omega
end Go.Proofs.YtojedhnglobddaaGreatDoor
