/- Contracts and lemmas: FmE, DigD, DigE, DigF, Itm, EncA, EncB, EncC, EncD, TrA, DigG, TrB, TrC, TrD. -/
import Derived.Deep.AppendLies
import Derived.Laws.AppendOwnNone
import Derived.Test.YtbljkkpnpcgjfaaGreatDoorTs3
set_option linter.unusedVariables false
set_option linter.unusedSimpArgs false
set_option maxRecDepth 100000
set_option maxHeartbeats 25600000
namespace Go.Proofs.YtbljkkpnpcgjfaaGreatDoor
open Go.RowKit rM
theorem JE {P Q G : Int} {ys : List Int} {rows : List Row} {w : World} {B : Option Addr} (h : aP P Q G ys rows = true) (hB : Rw w B rows) : GM ys rows := by
 simp only [aP, Bool.and_eq_true, decide_eq_true_eq] at h
 obtain ⟨h0, h1, h2, h3, h4, h5, h6, h7⟩ := h
 obtain ⟨p1, p2, p3, p4⟩ := aM h0
 refine ⟨⟨h1, h2, h3, h5, h6⟩, fun i hi => ?_⟩
 have hm := eH h4 hi
 have hr := List.all_eq_true.1 h7 (rows.getD i aG) (by
  rw [List.getD_eq_getElem?_getD, List.getElem?_eq_getElem (by omega)]
  exact List.getElem_mem _)
 simp only [jd, Bool.and_eq_true, decide_eq_true_eq] at hr
 have hl := (hB i (by omega)).2.1
 have a1 := d_ hm
 have a2 := ek hm
 refine ⟨⟨a1, by omega⟩, hr.1, fun j hj => ?_⟩
 have hm2 := eH hr.2 (show j < (rows.getD i aG).xs.length by omega)
 have a1 := d_ hm2
 have a2 := ek hm2
 exact ⟨a1, by omega⟩
theorem Au {P Q G : Int} {w : World} : ∀ (d : Nat) (f : FT), f.dp ≤ d → dU w f → f.sh → f.at_ P Q G → f.fm
 | 0, f, h, _, _, _ => by have := f.dp_eq; omega
 | d + 1, f, h, hF, hs, ha => by
  obtain ⟨h1, h2, h3, h4⟩ := hF.lens
  rw [f.fm_eq]
  rcases f.sh_eq.1 hs with ⟨k1, k2⟩ | ⟨k1, k2, k3, k4, k5⟩
  · exact .inl ⟨k1, k2, JE (VF.rel ha k1) hF.rel.2⟩
  ·
   refine .inr ⟨k1, k2, k3, k4, fun k hk => ?_⟩
   obtain ⟨b, o, _, _, _, _, _, hX⟩ := hF.kid (k := k) (by omega)
   rcases f.at_eq.1 ha with ⟨m1, _⟩ | ⟨_, m2⟩
   · omega
   · exact Au d _ (FT.kid_dp h hk) hX (k5 k hk) (m2 k hk)
theorem zq (f : FT) (w : World) (hF : Hid (dU w f)) : Calls Tryz.prog 15 #[fV f] w (vR (f.nd ≤ 30 ∧ f.dp ≤ 6 ∧ f.fm) (f.nd ≤ 30 ∧ f.dp ≤ 6 ∧ f.sh) w) := by
 have c1 := aa (fun u h => q8 f.dp f u (Nat.le_refl _) h)
 have c2 := aa (fun (hd : f.nd ≤ 30) u h => rD f.dp f u (by have := AA f; omega) (Nat.le_refl _) h)
 have c3 := aa (fun u h => pW f.dp f u (Nat.le_refl _) h)
 obtain ⟨nn, hnn⟩ : ∃ z, f.nd = z := ⟨_, rfl⟩
 obtain ⟨dd, hdd⟩ : ∃ z, f.dp = z := ⟨_, rfl⟩
 obtain ⟨p, hp⟩ : ∃ z, f.fm = z := ⟨_, rfl⟩
 obtain ⟨q, hq⟩ : ∃ z, f.sh = z := ⟨_, rfl⟩
 rw [hp, hq] at c3
 rw [hnn, hdd] at c2
 rw [hnn] at c1
 rw [hp, hq, hnn, hdd]
 clear hp hq hnn hdd
 obtain ⟨mn, hmn⟩ : ∃ z, min (nn : Int) 31 = z := ⟨_, rfl⟩
 rw [hmn] at c1
 obtain ⟨kind, Y, yn, yc, ys, B, bn, bc, rows, L, ln, lc, l⟩ := f
 obtain ⟨w0, HW, av, kC⟩ := st1 (fO kind Y yn yc B bn bc L ln lc) qQ w
 have kF := sM av hF
 have aA := dS w0
 clear hF
 go_in
 go_upto_region 1 with (fail)
 rw [show w.alloc (fO kind Y yn yc B bn bc L ln lc) = w0 from HW.out]
 have zc := kC.out _ aA
 go_wp2_with fail
 refine JM kC aA (c1.out _ (kF.out _ aA)) fun w1 bF zc => ?_
 by_cases h1 : nn ≤ 30
 case neg =>
  have d1 : decide (mn ≤ 30) = false := by simp; omega
  go_wp2
  go_ret
  exact eD av bF (fun h => h1 h.1)
 have d1 : decide (mn ≤ 30) = true := by simp; omega
 go_wp2_with fail
 refine JM kC bF (c2.out h1 _ (kF.out _ bF)) fun w2 fD zc => ?_
 by_cases h2 : dd ≤ 6
 case neg =>
  have d2 : decide ((dd : Int) ≤ 6) = false := by simp; omega
  go_wp2
  go_ret
  exact eD av fD (fun h => h2 h.2.1)
 have d2 : decide ((dd : Int) ≤ 6) = true := by simp; omega
 go_wp2_with fail
 refine (c3.out _ (kF.out _ fD)).mono ?_
 rintro e w3 ⟨r, rfl, hr1, hr2, hb3⟩
 have fC := cZ fD hb3
 have hr1 := aa hr1
 have hr2 := aa hr2
 clear zc hb3
 go_wp2
 go_ret
 exact ⟨r, rfl, fun h => hr1.out h.2.2, fun h => ⟨h1, h2, hr2.out h⟩, gN av fC⟩
theorem rJ (P Q G : Int) (hQ : Q < 9223372036854775808) (f : FT) (w : World) (hF : Hid (dU w f)) : Calls Tryz.prog 7 #[gv P Q G, fV f] w (vR (VF P Q G f) (VF P Q G f) w) := by
 have HP : Hid (VF P Q G f ↔ aJ P Q G = true ∧ (f.nd ≤ 30 ∧ f.dp ≤ 6 ∧ f.sh) ∧ f.at_ P Q G) := aa ⟨fun h => ⟨h.g, ⟨h.n, h.d, h.s⟩, h.a⟩, fun h => ⟨h.1, h.2.1.1, h.2.1.2.1, h.2.1.2.2, h.2.2⟩⟩
 have Ta : Hid ((f.nd ≤ 30 ∧ f.dp ≤ 6 ∧ f.sh) ∧ f.at_ P Q G → f.nd ≤ 30 ∧ f.dp ≤ 6 ∧ f.fm) := aa (fun h => ⟨h.1.1, h.1.2.1, Au f.dp f (Nat.le_refl _) hF.out h.1.2.2 h.2⟩)
 have c1 := aa (fun u h => zq f u h)
 have c2 := aa (fun u h => rG P Q G hQ f.dp f u (Nat.le_refl _) h)
 obtain ⟨v, hv⟩ : ∃ z, VF P Q G f = z := ⟨_, rfl⟩
 obtain ⟨a, ha⟩ : ∃ z, f.at_ P Q G = z := ⟨_, rfl⟩
 obtain ⟨p, hp⟩ : ∃ z, (f.nd ≤ 30 ∧ f.dp ≤ 6 ∧ f.fm) = z := ⟨_, rfl⟩
 obtain ⟨q, hq⟩ : ∃ z, (f.nd ≤ 30 ∧ f.dp ≤ 6 ∧ f.sh) = z := ⟨_, rfl⟩
 rw [hv, hq, ha] at HP
 rw [hq, ha, hp] at Ta
 rw [hp, hq] at c1
 rw [ha] at c2
 rw [hv]
 clear hv ha hp hq
 obtain ⟨gb, hgb⟩ : ∃ z, aJ P Q G = z := ⟨_, rfl⟩
 rw [hgb] at HP
 obtain ⟨kind, Y, yn, yc, ys, B, bn, bc, rows, L, ln, lc, l⟩ := f
 obtain ⟨w0, HW, av, kC⟩ := st2 (aN P Q G) vw (fO kind Y yn yc B bn bc L ln lc) qQ w
 have kF := sM av hF
 have aA := dS w0
 have M8 := aa hgb
 clear hF hgb
 go_in
 go_upto_region 1 with (fail)
 rw [show (w.alloc (aN P Q G)).alloc (fO kind Y yn yc B bn bc L ln lc) = w0 from HW.out]
 have zc := kC.out _ aA
 go_wp2_with fail
 refine JM kC aA (fJ P Q G gb M8 hQ _) fun w1 bF zc => ?_
 cases gb with
 | false =>
  go_wp2
  go_ret
  exact eD av bF (fun h => by have := (HP.out.1 h).1; simp at this)
 | true =>
  go_wp2_with fail
  refine (c1.out _ (kF.out _ bF)).mono ?_
  rintro e w2 ⟨r, rfl, hr1, hr2, hb2⟩
  have fD := cZ bF hb2
  have hr1 := aa hr1
  have hr2 := aa hr2
  clear zc hb2
  have zc := kC.out _ fD
  cases r with
  | false =>
   have hn := aa (show ¬ v from fun h => absurd (hr1.out (Ta.out (HP.out.1 h).2)) (by simp))
   clear hr1 hr2
   go_wp2
   go_ret
   exact eD av fD hn.out
  | true =>
   have hq := aa (hr2.out rfl)
   clear hr1 hr2
   go_wp2_with fail
   refine (c2.out _ (kF.out _ fD)).mono ?_
   rintro e w3 ⟨r, rfl, hr1, hr2, hb3⟩
   have fC := cZ fD hb3
   have hr1 := aa hr1
   have hr2 := aa hr2
   clear zc hb3
   go_wp2
   go_ret
   exact ⟨r, rfl, fun h => hr1.out (HP.out.1 h).2.2, fun h => HP.out.2 ⟨by first | rfl | trivial, hq.out, hr2.out h⟩, gN av fC⟩
def pz (N : Nat) (l : List Int) : List Int := l ++ aZ (N - l.length)
theorem Io {N : Nat} {l : List Int} (h : l.length ≤ N) : (pz N l).length = N := by simp [pz, aZ]; omega
theorem N8 {N : Nat} {l : List Int} {x : Int} (h : l.length < N) : (pz N l).set l.length x = pz N (l ++ [x]) := by
 obtain ⟨m, hm⟩ : ∃ m, N - l.length = m + 1 := ⟨N - l.length - 1, by omega⟩
 have hm2 : N - (l ++ [x]).length = m := by rw [List.length_append, List.length_singleton]; omega
 rw [pz, pz, hm, hm2, aZ, List.replicate_succ, List.set_append_right _ _ (Nat.le_refl _), Nat.sub_self, List.set_cons_zero]
 simp [aZ]
theorem DJ {N : Nat} {l : List Int} (h : l.length = N) : pz N l = l := by simp [pz, aZ, h]
theorem DI {N k : Nat} {l : List Int} (h : k < l.length) (h2 : k < N) : (pz N (l.take k)).set k (l.getD k 0) = pz N (l.take (k + 1)) := by
 have e := N8 (N := N) (l := l.take k) (x := l.getD k 0) (by rw [List.length_take]; omega)
 rw [List.length_take, Nat.min_eq_left (by omega)] at e
 rw [e, take_one h]
theorem Qr : (#[.int .u8 0, .int .u8 0, .int .u8 0, .int .u8 0, .int .u8 0, .int .u8 0, .int .u8 0, .int .u8 0] : Array Value) = arr .u8 (aZ 8) := rfl
theorem MM (n : Int) : ∀ k : Nat, k < 8 → (mg n).getD k 0 = n / 2 ^ (56 - 8 * k) % 256
 | 0, _ => rfl
 | 1, _ => rfl
 | 2, _ => rfl
 | 3, _ => rfl
 | 4, _ => rfl
 | 5, _ => rfl
 | 6, _ => rfl
 | 7, _ => by simp [mg]
 | k + 8, h => absurd h (by omega)
theorem F7 (n : Int) (w : World) :
  Calls Tryz.prog 130 #[.int .u64 n] w fun e w' => e = .returned (.slice (some ⟨w.heap.size, 0, none⟩) 8 8) ∧ cK .u8 5 w' w.heap.size (mg n) ∧ Below w.heap.size w w' := by
 obtain ⟨W, hW⟩ : ∃ W, w.alloc (.cells #[.int .u8 0, .int .u8 0, .int .u8 0, .int .u8 0, .int .u8 0, .int .u8 0, .int .u8 0, .int .u8 0] 5) = W := ⟨_, rfl⟩
 have dR : Hid (Below w.heap.size w W) := aa (by rw [← hW]; exact ai _ _)
 have HB0 : Hid (cK .u8 5 W w.heap.size (pz 8 ((mg n).take 0))) := aa (by
  rw [← hW, Qr]
  exact cK.new _ _)
 have hmk : ∀ w, (Instr.makeSlice 93 (.int .i64 8) (.int .i64 8)).run Tryz.prog w = .ok (.slice (some ⟨w.heap.size, 0, none⟩) 8 8) (w.alloc (.cells #[.int .u8 0, .int .u8 0, .int .u8 0, .int .u8 0, .int .u8 0, .int .u8 0, .int .u8 0, .int .u8 0] 5)) := fun _ => by kernel_rfl
 have HW := aa hW
 clear hW
 go_in
 go_wp2
 rw [HW.out]
 clear HW hmk
 go_loopw [8] (fun i u => ∃ k : Nat, k ≤ 8 ∧ i = .int .i64 k ∧ Hid (cK .u8 5 u w.heap.size (pz 8 ((mg n).take k))) ∧ Hid (Below w.heap.size w u)) (fun i _ => 8 - (intOf i).toNat)
 case atStart => exact ⟨0, by omega, rfl, HB0, dR⟩
 case round =>
  obtain ⟨k, hk, rfl, HB, aF⟩ := hrel
  by_cases hlt : k < 8
  ·
   have hc := HB.out.cell (j := k) (by rw [Io (by rw [List.length_take, iJ]; omega)]; exact hlt)
   have hf := HB.out.free k
   have hst := DI (N := 8) (k := k) (l := mg n) hlt hlt
   rw [MM n k hlt] at hst
   obtain ⟨q, hq⟩ : ∃ q, n / 2 ^ (56 - 8 * k) = q := ⟨_, rfl⟩
   rw [hq] at hst
   have j0 : (0 : Int) ≤ 56 - 8 * k := by omega
   have j1 : (56 - 8 * (k : Int)).toNat = 56 - 8 * k := by omega
   have HB2 : Hid (cK .u8 5 (wr.setCell ⟨w.heap.size, k, none⟩ (.int .u8 (q % 256))) w.heap.size (pz 8 ((mg n).take (k + 1)))) := aa (by
    rw [← hst]
    exact HB.out.set)
   have Ky : Hid (Below w.heap.size w (wr.setCell ⟨w.heap.size, k, none⟩ (.int .u8 (q % 256)))) := aa (aF.out.setCell (Nat.le_refl _) _)
   clear hst HB aF
   go_wp2
   try go_region
   try (rw [hq])
   go_wp2
   go_roundw
   case rel => exact ⟨k + 1, by omega, by go_num, HB2, Ky⟩
   case measure => simp [intOf]; omega
  ·
   have PU : Hid (cK .u8 5 wr w.heap.size (mg n)) := aa (by
    have h := HB.out
    rwa [show k = (mg n).length by rw [iJ]; omega, List.take_length, DJ (iJ n)] at h)
   clear HB
   go_wp2
   go_ret
   exact ⟨rfl, PU.out, aF.out⟩
theorem iK (b o i : Nat) : (⟨b, o, none⟩ : Addr).add i = ⟨b, o + i, none⟩ := by unfold Addr.add; split <;> simp_all
theorem Sk.news {K : IntKind} {w : World} {b o : Nat} {l : List Int} (h : Sk K w (some ⟨b, o, none⟩) l) : ∀ j u, (l.map (Value.int K))[j]? = some u → w.cell? ((⟨b, o, none⟩ : Addr).add j) = some u := fun j u hj => by
 rw [List.getElem?_map] at hj
 by_cases hl : j < l.length
 ·
  rw [List.getElem?_eq_getElem hl] at hj
  rw [iK, h.cell hl, List.getD_eq_getElem?_getD, List.getElem?_eq_getElem hl]
  exact hj
 · rw [List.getElem?_eq_none (by omega)] at hj; cases hj
theorem Sk.at_add {K : IntKind} {w : World} {b o n : Nat} {l : List Int} (h : Sk K w (some ⟨b, o, none⟩) l) (hn : l.length = n) : ∀ i, i < n → w.cell? ((⟨b, o, none⟩ : Addr).add i) = some (.int K (l.getD i 0)) := fun i hi => by
 rw [iK]; exact h.cell (by omega)
theorem Sk.setRow_ne {K : IntKind} {w : World} {a : Nat} {A : Option Addr} {l : List Int} {cs : Array Value} (h : Sk K w A l) (hne : ∀ b o, A = some ⟨b, o, none⟩ → b ≠ a) : Sk K (w.setRow a cs) A l := fun j hj => by
 obtain ⟨b, o, e, hc⟩ := h j hj
 exact ⟨b, o, e, by rw [cell_setRow_other _ _ _ _ (hne b o e)]; exact hc⟩
theorem jJ : (Tryz.prog.info? 5).map (fun i => (i.zero, i.size, i.bytes)) = some (some (.int .u8 0), 1, 1) := by kernel_rfl
theorem QM : (Tryz.prog.info? 32).map (·.size) = some 32 := by kernel_rfl
theorem aW {l : List Int} (h : l.length = 32) : (Tryz.prog.info? 32).map (·.size) = some (arr .u8 l).size := QM.trans (congrArg some (by rw [bD, h]))
theorem fM {l m : List Int} (h : l.length = 32) (h2 : m.length = 32) : (arr .u8 l).size = (arr .u8 m).size := by rw [bD, bD, h, h2]
theorem sW : (z32 : Array Value) = arr .u8 (aZ 32) := rfl
theorem Lt (s : St) : ∀ k : Nat, k < 8 → ∀ m : Nat, m < 4 → (n_ s).getD (4 * k + m) 0 = s.list.getD k 0 / 2 ^ (24 - 8 * m) % 256 := by
 intro k hk m hm
 obtain ⟨a, b, c, d, e, f, g, h⟩ := s
 rcases (show k = 0 ∨ k = 1 ∨ k = 2 ∨ k = 3 ∨ k = 4 ∨ k = 5 ∨ k = 6 ∨ k = 7 by omega) with rfl | rfl | rfl | rfl | rfl | rfl | rfl | rfl <;>
 rcases (show m = 0 ∨ m = 1 ∨ m = 2 ∨ m = 3 by omega) with rfl | rfl | rfl | rfl <;>
 simp [n_, um, St.list]
theorem uk (s : St) : (n_ s).length = 32 := rfl
def lenOf : Value → Nat
 | .slice _ n _ => n
 | _ => 0
theorem Il (m : Nat) : List.replicate (m + 1) (0 : Int) = List.replicate m 0 ++ [0] := List.replicate_succ' ..
theorem LJ (xa xb xc xd xe xf xg xh : Int) (b o cap : Nat) (blk : List Int) (hlen : Hid (blk.length = 64)) (hby : Hid (aH blk = true)) (w : World) (hs : Hid (Sk .u8 w (some ⟨b, o, none⟩) blk)) (hcap : 64 ≤ cap) (hcm : cap ≤ 9223372036854775807) (hv : Hid (bX w)) :
  Calls Tryz.prog 131 #[.agg #[.int .u32 xa, .int .u32 xb, .int .u32 xc, .int .u32 xd, .int .u32 xe, .int .u32 xf, .int .u32 xg, .int .u32 xh], .slice (some ⟨b, o, none⟩) 64 cap] w (Rt w (.agg (arr .u32 (Ce ⟨xa, xb, xc, xd, xe, xf, xg, xh⟩ blk).list))) := by
 rw [MO]
 exact LK ⟨xa, xb, xc, xd, xe, xf, xg, xh⟩ b o cap blk hlen hby w hs hcap hcm hv
theorem xP (b o c : Nat) (l : List Int) (n : Nat) (hn : Hid (l.length = n)) (hbig : n ≤ 1000000) (hby : Hid (aH l = true)) (w : World) (hs : Hid (Sk .u8 w (some ⟨b, o, none⟩) l)) (hv : Hid (bX w)) :
  Calls Tryz.prog 103 #[.slice (some ⟨b, o, none⟩) n c] w (Rt w (.agg (arr .u8 (rT l)))) := by
 obtain ⟨i0, hi, hz0, hz1, hz2⟩ := info_parts jJ
 obtain ⟨W, hW⟩ : ∃ W, w.alloc (.cells z32 32) = W := ⟨_, rfl⟩
 have dR : Hid (Below w.heap.size w W) := aa (by rw [← hW]; exact ai _ _)
 have dY : Hid (cK .u8 32 W w.heap.size (aZ 32)) := aa (by
  rw [← hW, sW]
  exact cK.new _ _)
 have qj : Hid (W.heap.size = w.heap.size + 1) := aa (by rw [← hW]; simp)
 have HS := aa (hs.out.below dR.out)
 have HV := aa (hv.out.below dR.out)
 have HW := aa hW
 clear hW hs hv
 go_in
 go_wp2_with fail
 rw [HW.out]
 refine (Tryz.bytes_Clone_at ⟨b, o, none⟩ n c l _ hn.out (by omega) (HS.out.at_add hn.out)).mono ?_
 rintro e w1 ⟨v1, rfl, ho1, hne1, hb1⟩
 have u_ : Hid (bW .u8 5 w1 W.heap.size v1 l) := aa (by unfold bW; rw [hn.out]; exact ho1)
 have HB1 := hb1
 have Tn := aa hb1
 have hbs := hb1.size
 clear HW hne1 HB1 hb1
 have hown := u_.out.row hn.out
 clear ho1
 go_wp2_with (at_builtin; refine wpList_append_own _ rfl _ _ 93 rfl W.heap.size 5 i0 (.int .u8 0) 1 1 Tryz.underlying93 hi hz0 hz1 hz2 rfl (by decide) _ _ _ rfl (hown.alloc _) ⟨w1.heap.size, 0, none⟩ 1 1 [.int .u8 128] rfl rfl (cell_one_new _ _ _) (ints_oneCell .u8 [128]) (by unfold maxLen; omega) (by omega) (by simp; omega) ?_; intro v2 w2 hown2 hgrow2 _)
 have sH : Hid (bW .u8 5 w2 W.heap.size v2 (l ++ [128])) := aa (bW.app hn.out.symm rfl hown2)
 have WB : Hid (Below W.heap.size W w2) := aa (u_.out.below Tn.out hbs hgrow2)
 clear hown hown2 hgrow2 u_ hbs Tn
 obtain ⟨A2, c2, e2, _⟩ := sH.out.sk
 rw [List.length_append, hn.out, List.length_singleton] at e2
 subst e2
 go_loopw [3] (fun p u => ∃ (N : Nat) (A : Option Addr) (cap : Nat), n + 1 ≤ N ∧ N ≤ n + 1 + o_ n ∧ p = .slice A N cap ∧ Hid (bW .u8 5 u W.heap.size p (l ++ [128] ++ List.replicate (N - n - 1) 0)) ∧ Hid (Below W.heap.size W u)) (fun p _ => n + 65 - lenOf p)
 case atStart => exact ⟨n + 1, A2, c2, Nat.le_refl _, by omega, rfl, aa (by rw [show n + 1 - n - 1 = 0 by omega]; simpa using sH.out), WB⟩
 case round =>
  obtain ⟨N, A, cap, hN0, hN1, rfl, HO, aF⟩ := hrel
  have hpz : o_ n < 64 := by unfold o_; omega
  have hll : (l ++ [128] ++ List.replicate (N - n - 1) 0).length = N := by simp [hn.out]; omega
  by_cases hend : N % 64 = 56
  ·
   have HN : Hid (N = n + 1 + o_ n) := aa (by unfold o_ at hN1 hpz ⊢; omega)
   have t1 : ((N : Int) % 64 == 56) = true := by simp; omega
   have t2 : ((N : Int) % 64 != 56) = false := by simp; omega
   clear hend
   go_wp2_with fail
   refine (F7 _ _).mono ?_
   rintro e w3 ⟨rfl, hbl, hb3⟩
   have qW := aa (HO.out.keep hb3)
   have Kv := aa (aF.out.trans (hb3.mono aF.out.size))
   have YN := aa hbl
   have hbs := Kv.out.size
   have hown := qW.out.row hll
   have NB := aa hll
   clear hbl hb3 HO aF hll
   go_upto_region 5 with (at_builtin; refine wpList_append_own _ rfl _ _ 93 rfl W.heap.size 5 i0 (.int .u8 0) 1 1 Tryz.underlying93 hi hz0 hz1 hz2 rfl (by decide) _ _ _ rfl hown ⟨wr.heap.size, 0, none⟩ 8 8 ((mg (8 * (n : Int))).map (.int .u8)) rfl rfl (YN.out.sk.news) (ints_oneCell .u8 (mg (8 * (n : Int)))) (by unfold maxLen o_ at *; omega) (by unfold o_ at *; omega) (by omega) ?_; intro v4 w4 hown2 hgrow2 _)
   have sG : Hid (bW .u8 5 w4 W.heap.size v4 (pg l)) := aa (by
    have h := bW.app (ys := mg (8 * (n : Int))) NB.out.symm rfl hown2
    have e : l ++ [128] ++ List.replicate (N - n - 1) 0 ++ mg (8 * (n : Int)) = pg l := by
     rw [pg, hn.out, show N - n - 1 = o_ n by have := HN.out; omega]
    rwa [e] at h)
   have Ku : Hid (Below W.heap.size W w4) := aa (qW.out.below0 Kv.out hbs hgrow2)
   clear hown hown2 hgrow2 qW YN Kv hbs
   obtain ⟨M, hM⟩ : ∃ M, (pg l).length = 64 * M := ⟨(pg l).length / 64, by have := Iq l; omega⟩
   have hM1 : 1 ≤ M := by rw [uh] at hM; omega
   have hM2 : 64 * M ≤ n + 200 := by rw [uh, hn.out, o_] at hM; omega
   obtain ⟨g4, cap4, e4, hg4, hcap, Nn, vJ⟩ := sG.out.cells (by omega)
   rw [hM] at e4 hcap
   obtain ⟨P, hP⟩ : ∃ P, pg l = P := ⟨_, rfl⟩
   have XG : aH P = true := by rw [← hP]; exact BS hby.out
   rw [hP] at vJ hM sG
   have HP : Kp (pg l = P) := ⟨hP⟩
   have HM := aa hM
   have sF := aa XG
   have Sd := aa vJ
   have hcm : cap4 ≤ 9223372036854775807 := by simpa [maxLen] using Nn
   have Zq : g4 < w4.heap.size := vJ.lt (by omega)
   subst e4
   clear hP hM XG vJ Nn sG NB t1 t2
   have ze := aa (HV.out.below Ku.out)
   obtain ⟨s0, s1, s2, s3, s4, s5, s6, s7⟩ : w4.cell? ⟨1, 0, none⟩ = some (.int .u32 1779033703) ∧ w4.cell? ⟨1, 1, none⟩ = some (.int .u32 3144134277) ∧ w4.cell? ⟨1, 2, none⟩ = some (.int .u32 1013904242) ∧ w4.cell? ⟨1, 3, none⟩ = some (.int .u32 2773480762) ∧ w4.cell? ⟨1, 4, none⟩ = some (.int .u32 1359893119) ∧ w4.cell? ⟨1, 5, none⟩ = some (.int .u32 2600822924) ∧ w4.cell? ⟨1, 6, none⟩ = some (.int .u32 528734635) ∧ w4.cell? ⟨1, 7, none⟩ = some (.int .u32 1541459225) :=
    ⟨ze.out.2 0 (by decide), ze.out.2 1 (by decide), ze.out.2 2 (by decide), ze.out.2 3 (by decide), ze.out.2 4 (by decide), ze.out.2 5 (by decide), ze.out.2 6 (by decide), ze.out.2 7 (by decide)⟩
   go_wp2_with ((with_reducible show wpList _ _ _ (⟨none, _, _, _, _, _⟩ :: _) _ _); refine wpList_store_row rfl 160 _ _ rfl w4.heap.size (arr .u32 st0.list) rfl rfl _ _ (heap_alloc_new _ _) (iA st0) rfl (dQ _) ?_)
   clear s0 s1 s2 s3 s4 s5 s6 s7
   rw [World.setRow_alloc_new]
   simp only [Act.put]
   have Tm : Hid (Below W.heap.size W (w4.alloc (.cells (arr .u32 st0.list) 160))) := aa (Ku.out.alloc Ku.out.size _)
   have Sb : Hid (cK .u32 160 (w4.alloc (.cells (arr .u32 st0.list) 160)) w4.heap.size (nP P 0).list) := aa (cK.new _ _)
   have Sc : Hid (Sk .u8 (w4.alloc (.cells (arr .u32 st0.list) 160)) (some ⟨g4, 0, none⟩) (P.drop (64 * 0))) := aa (by
    rw [Nat.mul_zero, List.drop_zero]
    exact Sd.out.below (ai _ _))
   have U_ := Ku.out.size
   obtain ⟨W5, Nq⟩ : ∃ u, w4.alloc (.cells (arr .u32 st0.list) 160) = u := ⟨_, rfl⟩
   rw [Nq] at Tm Sb Sc ⊢
   clear Nq Sd Ku ze
   go_loopw [3] (fun p u => ∃ (k R off cp : Nat), k ≤ M ∧ Hid (64 * k + R = 64 * M) ∧ p = .slice (some ⟨g4, off, none⟩) R cp ∧ R ≤ cp ∧ cp ≤ 9223372036854775807 ∧ Hid (Sk .u8 u (some ⟨g4, off, none⟩) (P.drop (64 * k))) ∧ Hid (cK .u32 160 u w4.heap.size (nP P k).list) ∧ Hid (Below W.heap.size W u)) (fun p _ => lenOf p)
   case atStart => exact ⟨0, 64 * M, 0, cap4, by omega, aa (by omega), rfl, hcap, hcm, Sc, Sb, Tm⟩
   case round =>
    obtain ⟨k, R, off, cp, hk, HR, rfl, hRc, hcp, Ew, Ev, aF⟩ := hrel
    by_cases hR0 : 0 < R
    ·
     have ZK : 64 ≤ R := by have := HR.out; omega
     have Zx : (64 : Int) ≤ (cp : Int) := by omega
     have hkM : k < M := by have := HR.out; omega
     have WM : Hid ((iI P k).length = 64) := aa (Ba (by have := HM.out; omega))
     have zm : Hid (aH (iI P k) = true) := aa (vN sF.out k)
     obtain ⟨⟨xa, xb, xc, xd, xe, xf, xg, xh⟩, hS⟩ : ∃ T, nP P k = T := ⟨_, rfl⟩
     rw [hS] at Ev
     have Gl : Kp (nP P k = ⟨xa, xb, xc, xd, xe, xf, xg, xh⟩) := ⟨hS⟩
     clear hS
     have R_ : Hid (Sk .u8 wr (some ⟨g4, off, none⟩) (iI P k)) := aa (Ew.out.take)
     have TZ := aa (HV.out.below aF.out)
     have Ti : Hid (wr.cell? ⟨w4.heap.size, 0, none⟩ = some (.int .u32 xa) ∧ wr.cell? ⟨w4.heap.size, 1, none⟩ = some (.int .u32 xb) ∧ wr.cell? ⟨w4.heap.size, 2, none⟩ = some (.int .u32 xc) ∧ wr.cell? ⟨w4.heap.size, 3, none⟩ = some (.int .u32 xd) ∧ wr.cell? ⟨w4.heap.size, 4, none⟩ = some (.int .u32 xe) ∧ wr.cell? ⟨w4.heap.size, 5, none⟩ = some (.int .u32 xf) ∧ wr.cell? ⟨w4.heap.size, 6, none⟩ = some (.int .u32 xg) ∧ wr.cell? ⟨w4.heap.size, 7, none⟩ = some (.int .u32 xh)) := aa ⟨Ev.out.cell (j := 0) (show 0 < 8 by decide), Ev.out.cell (j := 1) (show 1 < 8 by decide), Ev.out.cell (j := 2) (show 2 < 8 by decide), Ev.out.cell (j := 3) (show 3 < 8 by decide), Ev.out.cell (j := 4) (show 4 < 8 by decide), Ev.out.cell (j := 5) (show 5 < 8 by decide), Ev.out.cell (j := 6) (show 6 < 8 by decide), Ev.out.cell (j := 7) (show 7 < 8 by decide)⟩
     obtain ⟨T, hT⟩ : ∃ T, Ce ⟨xa, xb, xc, xd, xe, xf, xg, xh⟩ (iI P k) = T := ⟨_, rfl⟩
     have HT : Kp (Ce ⟨xa, xb, xc, xd, xe, xf, xg, xh⟩ (iI P k) = T) := ⟨hT⟩
     have Yg : Kp (nP P (k + 1) = T) := ⟨by rw [nP, Gl.out, hT]⟩
     clear hT
     go_wp2_with fail
     refine dZ (S := fun w' => w'.cell? ⟨w4.heap.size, 0, none⟩ = some (.int .u32 xa) ∧ w'.cell? ⟨w4.heap.size, 1, none⟩ = some (.int .u32 xb) ∧ w'.cell? ⟨w4.heap.size, 2, none⟩ = some (.int .u32 xc) ∧ w'.cell? ⟨w4.heap.size, 3, none⟩ = some (.int .u32 xd) ∧ w'.cell? ⟨w4.heap.size, 4, none⟩ = some (.int .u32 xe) ∧ w'.cell? ⟨w4.heap.size, 5, none⟩ = some (.int .u32 xf) ∧ w'.cell? ⟨w4.heap.size, 6, none⟩ = some (.int .u32 xg) ∧ w'.cell? ⟨w4.heap.size, 7, none⟩ = some (.int .u32 xh)) (E := [3, 4]) (by kernel_rfl) (by simpa using Ti.out) (fun hHeld => ?_)
     refine eZ 0 ?_
     refine eZ 1 ?_
     refine eZ 2 ?_
     refine mo 3 fun K hK => ?_
     go_simp
     refine (LJ xa xb xc xd xe xf xg xh g4 off cp (iI P k) WM zm _ (aa (R_.out.below (Below.refl _ _).drew)) (by omega) hcp (aa (TZ.out.below (Below.refl _ _).drew))).mono ?_
     rintro e w6 ⟨rfl, hb6⟩
     rw [HT.out]
     refine hK.out _ _ ?_
     clear hK K
     try simp only [qq]
     refine mo 4 fun K hK => ?_
     refine wp_store_row 160 _ _ rfl w4.heap.size (arr .u32 T.list) rfl rfl 160 _ ((Ev.out.below (Below.refl _ _).drew).below hb6) (iA T) rfl (dQ _) ?_
     refine hK.out _ _ ?_
     clear hK K
     try simp only [qq]
     refine jf ?_
     have Po : Hid (cK .u32 160 (w6.setRow w4.heap.size (arr .u32 T.list)) w4.heap.size (nP P (k + 1)).list) := aa (by
      rw [Yg.out]
      exact ((Ev.out.below (Below.refl _ _).drew).below hb6).setRow)
     have Ky : Hid (Below W.heap.size W (w6.setRow w4.heap.size (arr .u32 T.list))) := aa (aD (aF.out.drew.trans (hb6.mono aF.out.size)) U_)
     have R9 : Hid (Sk .u8 (w6.setRow w4.heap.size (arr .u32 T.list)) (some ⟨g4, off, none⟩) (P.drop (64 * k))) := aa (((Ew.out.below (Below.refl _ _).drew).below hb6).setRow_ne (fun b o e => by cases e; omega))
     obtain ⟨w7, hw7⟩ : ∃ u, w6.setRow w4.heap.size (arr .u32 T.list) = u := ⟨_, rfl⟩
     rw [hw7] at Po Ky R9 ⊢
     clear hw7 hb6 Ew R_ Ev aF TZ Ti HT Yg Gl hHeld
     have ZX : (64 : Int) ≤ (R : Int) := by omega
     by_cases hce : cp = 64
     ·
      subst hce
      obtain rfl : R = 64 := by omega
      have Wi : Hid (Sk .u8 w7 (some ⟨g4, off, none⟩) (P.drop (64 * (k + 1)))) := aa (Sk.nil_of (by rw [List.length_drop, HM.out]; have := HR.out; omega))
      have HR2 : Hid (64 * (k + 1) + 0 = 64 * M) := aa (by have := HR.out; omega)
      go_wp2
      go_roundw
      case rel => exact ⟨k + 1, 0, off, 0, by omega, HR2, rfl, by omega, by omega, Wi, Po, Ky⟩
      case measure => simp [lenOf]
     ·
      have Wi : Hid (Sk .u8 w7 (some ⟨g4, off + 64, none⟩) (P.drop (64 * (k + 1)))) := aa (by
       have h := R9.out.drop (n := 64)
       rwa [List.drop_drop, show 64 * k + 64 = 64 * (k + 1) by omega] at h)
      have HR2 : Hid (64 * (k + 1) + (R - 64) = 64 * M) := aa (by have := HR.out; omega)
      go_wp2
      go_roundw
      case rel => exact ⟨k + 1, R - 64, off + 64, cp - 64, by omega, HR2, rfl, by omega, by omega, Wi, Po, Ky⟩
      case measure => simp [lenOf]; omega
    ·
     obtain rfl : R = 0 := by omega
     obtain ⟨⟨xa, xb, xc, xd, xe, xf, xg, xh⟩, hS⟩ : ∃ T, nP P M = T := ⟨_, rfl⟩
     have VV : Kp (rT l = n_ ⟨xa, xb, xc, xd, xe, xf, xg, xh⟩) := ⟨by
      rw [rT, HP.out, HM.out, show 64 * M / 64 = M by omega, hS]⟩
     have VT : Hid (cK .u32 160 wr w4.heap.size (St.mk xa xb xc xd xe xf xg xh).list) := aa (by
      rw [← hS, show M = k by have := HR.out; omega]
      exact Ev.out)
     have VO : Hid (cK .u8 32 (wr.alloc (.cells z32 32)) wr.heap.size (pz 32 ((n_ ⟨xa, xb, xc, xd, xe, xf, xg, xh⟩).take (4 * 0)))) := aa (by
      rw [sW]
      exact cK.new _ _)
     have PX : Hid (Below W.heap.size W (wr.alloc (.cells z32 32))) := aa (aF.out.alloc aF.out.size _)
     clear hS Ev Ew HR
     go_upto_region 11 with ((with_reducible show wpList _ _ _ (⟨some 37, _, _, _, _, _⟩ :: _) _ _); refine wpList_load_row rfl 160 _ rfl w4.heap.size rfl _ _ _ _ (VT.out.old _) Tryz.underlying160 rfl (iA _) ?_)
     rw [← MO]
     have hbr := aF.out.size
     obtain ⟨WN, Vk⟩ : ∃ u, wr.alloc (.cells z32 32) = u := ⟨_, rfl⟩
     rw [Vk] at VO PX ⊢
     obtain ⟨B5, Vt⟩ : ∃ x, wr.heap.size = x := ⟨_, rfl⟩
     have YM : Hid (B5 < WN.heap.size) := aa (by rw [← Vk, ← Vt]; simp)
     rw [Vt] at VO hbr ⊢
     clear Vk Vt
     go_loopw [38] (fun i u => ∃ k : Nat, k ≤ 8 ∧ i = .int .i64 k ∧ Hid (cK .u8 32 u B5 (pz 32 ((n_ ⟨xa, xb, xc, xd, xe, xf, xg, xh⟩).take (4 * k)))) ∧ Hid (Below B5 WN u)) (fun i _ => 8 - (intOf i).toNat)
     case atStart => exact ⟨0, by omega, rfl, VO, aa (Below.refl _ _)⟩
     case round =>
      obtain ⟨k4, hk4, rfl, Tq, nG⟩ := hrel
      by_cases hlk : k4 < 8
      ·
       have Zn := QT xa xb xc xd xe xf xg xh k4 hlk
       obtain ⟨v0, e1⟩ : ∃ x, (St.mk xa xb xc xd xe xf xg xh).list.getD k4 0 = x := ⟨_, rfl⟩
       rw [e1] at Zn
       have E1 := aa e1
       clear e1
       go_wp2
       go_loopw [42] (fun j u => ∃ m : Nat, m ≤ 4 ∧ j = .int .i64 m ∧ Hid (cK .u8 32 u B5 (pz 32 ((n_ ⟨xa, xb, xc, xd, xe, xf, xg, xh⟩).take (4 * k4 + m)))) ∧ Hid (Below B5 WN u)) (fun j _ => 4 - (intOf j).toNat)
       case atStart => exact ⟨0, by omega, rfl, Tq, nG⟩
       case round =>
        obtain ⟨m, hm, rfl, xI, WE⟩ := hrel
        by_cases hlm : m < 4
        ·
         have hol : (n_ ⟨xa, xb, xc, xd, xe, xf, xg, xh⟩).length = 32 := uk _
         have hc := xI.out.cell (j := 4 * k4 + m) (by rw [Io (by rw [List.length_take, hol]; omega)]; omega)
         have hf := xI.out.free (4 * k4 + m)
         have hst := DI (N := 32) (k := 4 * k4 + m) (l := n_ ⟨xa, xb, xc, xd, xe, xf, xg, xh⟩) (by rw [hol]; omega) (by omega)
         rw [Lt _ k4 hlk m hlm, E1.out] at hst
         obtain ⟨q, hq⟩ : ∃ q, v0 / 2 ^ (24 - 8 * m) = q := ⟨_, rfl⟩
         rw [hq] at hst
         have HC := hc
         have j0 : (0 : Int) ≤ 24 - 8 * m := by omega
         have j1 : (24 - 8 * (m : Int)).toNat = 24 - 8 * m := by omega
         have j2 : (4 * (k4 : Int) + m).toNat = 4 * k4 + m := by omega
         obtain ⟨WV, Vj⟩ : ∃ u, wr.setCell ⟨B5, 4 * k4 + m, none⟩ (.int .u8 (q % 256)) = u := ⟨_, rfl⟩
         have HB2 : Hid (cK .u8 32 WV B5 (pz 32 ((n_ ⟨xa, xb, xc, xd, xe, xf, xg, xh⟩).take (4 * k4 + (m + 1))))) := aa (by
          rw [← Vj, show 4 * k4 + (m + 1) = 4 * k4 + m + 1 by omega, ← hst]
          exact xI.out.set)
         have WC : Hid (Below B5 WN WV) := aa (by rw [← Vj]; exact WE.out.setCell (Nat.le_refl _) _)
         clear hst xI WE hol HC
         go_wp2
         try go_region
         try (rw [hq])
         try (rw [Vj])
         go_wp2
         go_roundw
         case rel => exact ⟨m + 1, by omega, by go_num, HB2, WC⟩
         case measure => simp [intOf]; omega
        ·
         have HB2 : Hid (cK .u8 32 wr B5 (pz 32 ((n_ ⟨xa, xb, xc, xd, xe, xf, xg, xh⟩).take (4 * (k4 + 1))))) := aa (by
          have h := xI.out
          rwa [show 4 * k4 + m = 4 * (k4 + 1) by omega] at h)
         clear xI
         go_wp2
         go_roundw
         case rel => exact ⟨k4 + 1, by omega, by go_num, HB2, WE⟩
         case measure => simp [intOf]; omega
      ·
       have PU : Hid (cK .u8 32 wr B5 (rT l)) := aa (by
        have h := Tq.out
        rwa [show 4 * k4 = (n_ ⟨xa, xb, xc, xd, xe, xf, xg, xh⟩).length by rw [uk]; omega, List.take_length, DJ (uk _), ← VV.out] at h)
       have zB := aa (PX.out.trans (nG.out.mono hbr))
       have Sj : Hid (cK .u8 32 wr w.heap.size (aZ 32)) := aa (dY.out.keepB (by have := qj.out; omega) zB.out)
       have fH : Hid (Below w.heap.size w (wr.setRow w.heap.size (arr .u8 (rT l)))) := aa (aD (af dR.out zB.out) (Nat.le_refl _))
       have HRR : Hid (cK .u8 32 (wr.setRow w.heap.size (arr .u8 (rT l))) w.heap.size (rT l)) := aa Sj.out.setRow
       clear Tq nG
       go_wp2_with (first
        | ((with_reducible show wpList _ _ _ (⟨some 58, _, _, _, _, _⟩ :: _) _ _); refine wpList_load_row rfl 32 _ rfl B5 rfl _ _ _ _ PU.out Tryz.underlying32 rfl (aW (iE l)) ?_)
        | ((with_reducible show wpList _ _ _ (⟨none, _, _, _, _, _⟩ :: _) _ _); refine wpList_store_row rfl 32 _ _ rfl w.heap.size (arr .u8 (rT l)) rfl rfl _ _ Sj.out (aW (iE l)) (fM rfl (iE l)) (dQ _) ?_))
       exact bodyPost_ret (v := .agg (arr .u8 (rT l))) (results_cell_row (p := 2) (ty := 32) rfl _ _ w.heap.size _ _ _ _ rfl HRR.out Tryz.underlying32 rfl (aW (iE l))) rfl ⟨rfl, fH.out⟩
  ·
   have hN : N < n + 1 + o_ n := by unfold o_ at hN1 hpz ⊢; omega
   have t1 : ((N : Int) % 64 == 56) = false := by simp; omega
   have t2 : ((N : Int) % 64 != 56) = true := by simp; omega
   have hown := HO.out.row hll
   have hbs := aF.out.size
   have NB := aa hll
   clear hend hll
   go_wp2_with (at_builtin; refine wpList_append_own _ rfl _ _ 93 rfl W.heap.size 5 i0 (.int .u8 0) 1 1 Tryz.underlying93 hi hz0 hz1 hz2 rfl (by decide) _ _ _ rfl (hown.alloc _) ⟨wr.heap.size, 0, none⟩ 1 1 [.int .u8 0] rfl rfl (cell_one_new _ _ _) (ints_oneCell .u8 [0]) (by unfold maxLen; omega) (by omega) (by simp; omega) ?_; intro v2 w2 hown2 hgrow2 _)
   have qW : Hid (bW .u8 5 w2 W.heap.size v2 (l ++ [128] ++ List.replicate (N + 1 - n - 1) 0)) := aa (by
    rw [show N + 1 - n - 1 = (N - n - 1) + 1 by omega, Il, ← List.append_assoc]
    exact bW.app NB.out.symm rfl hown2)
   have Kv : Hid (Below W.heap.size W w2) := aa (HO.out.below aF.out hbs hgrow2)
   clear hown hown2 hgrow2 HO
   obtain ⟨A3, c3, e3, _⟩ := qW.out.sk
   have e4 : (l ++ [128] ++ List.replicate (N + 1 - n - 1) 0).length = N + 1 := by simp [hn.out]; omega
   rw [e4] at e3
   subst e3
   clear e4
   go_wp2
   go_roundw
   case rel => exact ⟨N + 1, A3, c3, by omega, by omega, rfl, qW, Kv⟩
   case measure => simp [lenOf]; omega
def bP (s : ByteArray) : List Int := s.data.toList.map fun c => (c.toNat : Int)
theorem b_ (s : ByteArray) : (bP s).length = s.size := by simp [bP]
theorem kS (s : ByteArray) : aH (bP s) = true := by
 refine List.all_eq_true.2 fun x hx => ?_
 obtain ⟨c, _, rfl⟩ := List.mem_map.1 hx
 have := c.toNat_lt
 simp; omega
theorem qP {w : World} {g cap : Nat} {s : ByteArray} {e : TypeId} {fr : Nat × Nat} (h : w.heap[g]? = some (.cells (bytesRow s cap) e fr)) : Sk .u8 w (some ⟨g, 0, none⟩) (bP s) := fun j hj => ⟨g, 0, rfl, by
 rw [b_] at hj
 rw [Nat.zero_add, cell_of_row _ _ j _ _ _ h, bytesRow_at s cap j (by simpa using hj)]
 simp [bP, List.getD_eq_getElem?_getD]
 rw [Array.getElem?_eq_getElem (by simpa using hj)]
 rfl⟩
theorem bW.skAt {K : IntKind} {T : TypeId} {w : World} {B g n c : Nat} {xs : List Int} (h : bW K T w B (.slice (some ⟨g, 0, none⟩) n c) xs) (h0 : 0 < xs.length) : Sk K w (some ⟨g, 0, none⟩) xs := by
 obtain ⟨g', cap', e, _, _, _, hs⟩ := h.cells h0
 simp only [Value.slice.injEq, Option.some.injEq, Addr.mk.injEq] at e
 rw [e.1.1]
 exact hs
theorem bL {P : Program} {fn : Func} {p q : Tmp} {ty : TypeId} (h : fn.results = #[.cell p ty, .tmp q]) (tmps : Array Value) (w : World) (a : Addr) (v u : Value)
  (hp : tmps.getD p undef = .pointer (some a)) (hq : tmps.getD q undef = u) (hl : (loadVar ty a).run P w = .ok v w) : (results fn tmps).run P w = .ok (.tuple #[v, u]) w := by
 have hp' : tmps[p]?.getD undef = .pointer (some a) := by simpa using hp
 have hq' : tmps[q]?.getD undef = u := by simpa using hq
 simp [results, h, hp', hq', asAddr, hl]
def jK (h : List Int) : Value := .tuple #[.agg (arr .u8 h), .int .i64 0]
theorem nY (s : ByteArray) (hs1 : 1 ≤ s.size) (hs2 : s.size ≤ 100) (b o c : Nat) (l : List Int) (n : Nat) (hn : Hid (l.length = n)) (hn0 : 0 < n) (hbig : n ≤ 900000) (hby : Hid (aH l = true)) (w : World) (hs : Hid (Sk .u8 w (some ⟨b, o, none⟩) l)) (hv : Hid (bX w)) :
  Calls Tryz.prog 58 #[.string s, .slice (some ⟨b, o, none⟩) n c] w (Rt w (jK (tagged (bP s) l))) := by
 obtain ⟨i0, hi, hz0, hz1, hz2⟩ := info_parts jJ
 obtain ⟨W, hW⟩ : ∃ W, w.alloc (.cells z32 32) = W := ⟨_, rfl⟩
 have dR : Hid (Below w.heap.size w W) := aa (by rw [← hW]; exact ai _ _)
 have dY : Hid (cK .u8 32 W w.heap.size (aZ 32)) := aa (by
  rw [← hW, sW]
  exact cK.new _ _)
 have qj : Hid (W.heap.size = w.heap.size + 1) := aa (by rw [← hW]; simp)
 have HS := aa (hs.out.below dR.out)
 have HV := aa (hv.out.below dR.out)
 have HW := aa hW
 have hcv := fun w => run_bytes_of_string (P := Tryz.prog) w 9 93 5 s Tryz.underlying9 Tryz.underlying93 Tryz.underlying5
 clear hW hs hv
 go_in
 go_wp2_with fail
 rw [HW.out]
 clear hcv HW
 obtain ⟨Wc, hWc⟩ : ∃ u, (W.alloc (.cells (bytesRow s (grownCap W s.size 0 5)) 5 ((bytesRow s (grownCap W s.size 0 5)).size, (bytesRow s (grownCap W s.size 0 5)).size + 1))).drew = u := ⟨_, rfl⟩
 have Bv : Hid (Below W.heap.size W Wc) := aa (by rw [← hWc]; exact (ai _ _).drew)
 have HSc : Hid (Sk .u8 Wc (some ⟨w.heap.size + 1, 0, none⟩) (bP s)) := aa (by
  rw [← hWc, ← qj.out]
  exact qP (heap_alloc_new W _))
 obtain ⟨gc, hgc⟩ : ∃ g, grownCap W s.size 0 5 = g := ⟨_, rfl⟩
 rw [hWc, hgc]
 clear hWc hgc
 refine (xP (w.heap.size + 1) 0 gc (bP s) s.size (aa (b_ s)) (by omega) (aa (kS s)) _ HSc (aa (HV.out.below Bv.out))).mono ?_
 rintro e w1 ⟨rfl, hb1⟩
 have HB1 := aa (af Bv.out hb1)
 clear hb1 HSc Bv
 obtain ⟨t, ht⟩ : ∃ t, rT (bP s) = t := ⟨_, rfl⟩
 have htl : t.length = 32 := by rw [← ht]; exact iE _
 have htb : aH t = true := by rw [← ht]; exact jh _
 have HT : Kp (rT (bP s) = t) := ⟨ht⟩
 have Es := aa htl
 have nV := aa htb
 rw [ht]
 clear ht htl htb
 go_upto_region 4 with ((with_reducible show wpList _ _ _ (⟨none, _, _, _, _, _⟩ :: _) _ _); refine wpList_store_row rfl 32 _ _ rfl w1.heap.size (arr .u8 t) rfl rfl _ _ (heap_alloc_new _ _) (aW Es.out) (fM (l := aZ 32) rfl Es.out) (dQ _) ?_)
 rw [World.setRow_alloc_new]
 simp only [Act.put]
 have HB2 := aa (af HB1.out (ai w1 (.cells (arr .u8 t) 32)))
 have HT2 : Hid (cK .u8 32 (w1.alloc (.cells (arr .u8 t) 32)) w1.heap.size t) := aa (cK.new _ _)
 obtain ⟨W2, hW2⟩ : ∃ u, w1.alloc (.cells (arr .u8 t) 32) = u := ⟨_, rfl⟩
 have HSN : Hid (w1.heap.size < W2.heap.size) := aa (by rw [← hW2]; simp)
 rw [hW2] at HB2 HT2 ⊢
 clear hW2 HB1
 obtain ⟨gt, hgt⟩ : ∃ g, w1.heap.size = g := ⟨_, rfl⟩
 rw [hgt] at HT2 HSN ⊢
 clear hgt
 have WH := aa ((Below.refl W2.heap.size W2).drew)
 have VR := aa (HT2.out.below WH.out)
 have HB3 := aa (af HB2.out WH.out)
 obtain ⟨Wd, hWd⟩ : ∃ u, W2.drew = u := ⟨_, rfl⟩
 refine dZ (S := fun w' => True) (E := []) (by kernel_rfl) (trivial) (fun hHeld => ?_)
 refine eZ 0 ?_
 refine eZ 2 ?_
 refine eZ 4 ?_
 refine dO 1 fun K hK => ?_
 go_simp
 try rw [hWd]
 rw [hWd] at WH VR HB3
 refine (Tryz.bytes_Clone_at ⟨gt, 0, none⟩ 32 32 t _ Es.out (by decide) (VR.out.sk.at_add Es.out)).mono ?_
 rintro e w3 ⟨v3, rfl, ho3, Zi, hb3⟩
 refine hK.out _ _ ?_ (fun hHeld => ?_)
 · trivial
 clear hK K
 try simp only [qq]
 refine dO 3 fun K hK => ?_
 have zf := aa (HS.out.below (af HB3.out hb3))
 have HT3 := aa (VR.out.below hb3)
 have hbz := hb3.size
 refine step_append_lies _ (by rfl) _ _ _ (by rfl) (Wd.heap.size) 5 i0 _ 1 1 Tryz.underlying93 hi hz0 hz1 hz2 rfl (by omega) v3 32 (t.map (.int .u8)) (by rfl) (ho3) ⟨gt, 0, none⟩ 32 32 (t.map (.int .u8)) (by rfl) (by simp [Es.out, hn.out]) (HT3.out.sk.news) (ints_oneCell .u8 _) (by omega) (by unfold maxLen; omega) (by omega) (by omega) (w3.heap.size) (rfl) ?_
 intro g4 cap4 w4 nT Ct Ru UY
 have gI := aa (Below.grown hb3 Ct (by omega) (fun j hj => (World.ownsRow.lt ho3 j hj).1))
 refine hK.out _ _ ?_ (fun hHeld => ?_)
 · trivial
 clear hK K
 try simp only [qq]
 refine dO 5 fun K hK => ?_
 have vS := aa ((HS.out.below HB3.out).below gI.out)
 have Zy := gI.out.size
 refine step_append_lies _ (by rfl) _ _ _ (by rfl) (Wd.heap.size) 5 i0 _ 1 1 Tryz.underlying93 hi hz0 hz1 hz2 rfl (by omega) (.slice (some ⟨g4, 0, none⟩) (32 + 32) cap4) (32 + 32) (t.map (.int .u8) ++ t.map (.int .u8)) (by rfl) (nT) ⟨b, o, none⟩ n c (l.map (.int .u8)) (by rfl) (by simp [Es.out, hn.out]) (vS.out.news) (ints_oneCell .u8 _) (by omega) (by unfold maxLen; omega) (by omega) (by omega) (w4.heap.size) (rfl) ?_
 intro g5 cap5 w5 hown5 ow ZB Q9
 have mh := aa (Below.grown gI.out ow (by omega) (fun j hj => (World.ownsRow.lt nT j hj).1))
 have zy : Hid (bW .u8 5 w5 Wd.heap.size (.slice (some ⟨g5, 0, none⟩) (32 + 32 + n) cap5) (t ++ t ++ l)) := aa (bW.app (by rw [List.length_append, Es.out]) hn.out.symm (by rw [List.map_append]; exact hown5))
 refine hK.out _ _ ?_ (fun hHeld => ?_)
 · trivial
 clear hK K
 try simp only [qq]
 refine dO 6 fun K hK => ?_
 go_simp
 have UM := zy.out.skAt (by simp [hn.out]; omega)
 refine (xP g5 0 cap5 (t ++ t ++ l) (32 + 32 + n) (aa (by simp [hn.out, Es.out]; omega)) (by omega) (aa (by rw [bO, bO, nV.out, hby.out]; rfl)) _ (aa UM) (aa ((HV.out.below HB3.out).below mh.out))).mono ?_
 rintro e w6 ⟨rfl, hb6⟩
 have iT := aa (mh.out.trans (hb6.mono mh.out.size))
 refine hK.out _ _ ?_ (fun hHeld => ?_)
 · trivial
 clear hK K
 try simp only [qq]
 refine dO 7 fun K hK => ?_
 rw [show (if Region.wanted _ _ = true then _ else _ : Prop) = _ from if_pos rfl]
 refine wp_store_row 32 _ _ rfl w.heap.size (arr .u8 (rT (t ++ t ++ l))) rfl rfl 32 _ (((dY.out.below HB3.out)).below iT.out) (aW (iE _)) (fM rfl (iE _)) (dQ _) ?_
 refine hK.out _ _ ?_ (fun hHeld => ?_)
 · trivial
 clear hK K
 try simp only [qq]
 refine eZ 8 ?_
 refine jf ?_
 have HRR : Hid (cK .u8 32 (w6.setRow w.heap.size (arr .u8 (rT (t ++ t ++ l)))) w.heap.size (rT (t ++ t ++ l))) := aa ((dY.out.below HB3.out).below iT.out).setRow
 have fH : Hid (Below w.heap.size w (w6.setRow w.heap.size (arr .u8 (rT (t ++ t ++ l))))) := aa (aD (af dR.out (af HB3.out iT.out)) (Nat.le_refl _))
 have Yh : Kp (tagged (bP s) l = rT (t ++ t ++ l)) := ⟨by rw [tagged, HT.out]⟩
 obtain ⟨R, hR⟩ : ∃ R, rT (t ++ t ++ l) = R := ⟨_, rfl⟩
 have hRl : R.length = 32 := by rw [← hR]; exact iE _
 rw [hR] at HRR fH Yh ⊢
 obtain ⟨w8, hw8⟩ : ∃ u, w6.setRow w.heap.size (arr .u8 R) = u := ⟨_, rfl⟩
 rw [hw8] at HRR fH ⊢
 have Wm : Kp ((loadVar 32 ⟨w.heap.size, 0, none⟩).run Tryz.prog w8 = .ok (.agg (arr .u8 R)) w8) := ⟨run_loadVar_row _ _ _ _ _ _ _ HRR.out Tryz.underlying32 rfl (aW hRl)⟩
 clear hR hRl hw8
 go_wp2
 exact bodyPost_ret (v := jK R) (bL (p := 4) (q := 5) (ty := 32) rfl _ _ ⟨w.heap.size, 0, none⟩ _ _ rfl rfl Wm.out) rfl ⟨by rw [Yh.out], fH.out⟩
inductive It where
 | int (n : Int)
 | byt (b : List Int)
 | lst (l : List It)
def fits : Nat → It → Prop
 | _, .int n => -9223372036854775808 ≤ n ∧ n < 9223372036854775808
 | _, .byt b => (0 < b.length ∧ b.length < 1000000) ∧ aH b = true
 | 0, .lst _ => False
 | d + 1, .lst l => l.length ≤ 1000 ∧ ∀ x ∈ l, fits d x
def Dc (n : Int) : List Int := [n / 16777216 % 256, n / 65536 % 256, n / 256 % 256, n % 256]
theorem jY (n : Int) : (Dc n).length = 4 := rfl
mutual
def enc : It → List Int
 | .int n => 1 :: mg (n % 18446744073709551616)
 | .byt b => 2 :: (Dc b.length ++ b)
 | .lst l => 3 :: (Dc l.length ++ iw l)
def iw : List It → List Int
 | [] => []
 | i :: l => enc i ++ iw l
end
theorem Az (a b : List It) : iw (a ++ b) = iw a ++ iw b := by
 induction a with
 | nil => simp [iw]
 | cons x a ih => simp [iw, ih]
theorem sP (n : Int) : enc (.int n) = 1 :: mg (n % 18446744073709551616) := by simp [enc]
theorem jX (b : List Int) : enc (.byt b) = 2 :: (Dc b.length ++ b) := by simp [enc]
theorem lT (l : List It) : enc (.lst l) = 3 :: (Dc l.length ++ iw l) := by simp [enc]
theorem Ee (i : It) : 0 < (enc i).length := by cases i <;> simp [enc]
instance Xb : Inhabited It := ⟨.int 0⟩
theorem wU {l : List It} {k : Nat} (hk : k < l.length) : iw (l.take (k + 1)) = iw (l.take k) ++ enc (l.getD k default) := by
 rw [List.take_add_one, List.getElem?_eq_getElem hk, List.getD_eq_getElem?_getD, List.getElem?_eq_getElem hk, Az]
 simp [iw]
theorem yK {l : List It} {k : Nat} : (iw (l.take k)).length ≤ (iw l).length := by
 conv => rhs; rw [← List.take_append_drop k l]
 rw [Az, List.length_append]
 omega
theorem qR (n : Int) : aH (Dc n) = true := by simp [aH, Dc, uu]
theorem wT {d : Nat} {i : It} (h : fits d i) : aH (enc i) = true := by
 induction d generalizing i with
 | zero =>
  cases i with
  | int n => rw [sP, show (1 :: mg (n % 18446744073709551616) : List Int) = [1] ++ mg (n % 18446744073709551616) from rfl, bO, nD]; rfl
  | byt b => rw [jX, show (2 :: (Dc b.length ++ b) : List Int) = [2] ++ (Dc b.length ++ b) from rfl, bO, bO, qR, h.2]; rfl
  | lst l => exact absurd h (by simp [fits])
 | succ d ih =>
  cases i with
  | int n => rw [sP, show (1 :: mg (n % 18446744073709551616) : List Int) = [1] ++ mg (n % 18446744073709551616) from rfl, bO, nD]; rfl
  | byt b => rw [jX, show (2 :: (Dc b.length ++ b) : List Int) = [2] ++ (Dc b.length ++ b) from rfl, bO, bO, qR, h.2]; rfl
  | lst l =>
   rw [lT, show (3 :: (Dc l.length ++ iw l) : List Int) = [3] ++ (Dc l.length ++ iw l) from rfl, bO, bO, qR]
   have hl : ∀ (m : List It), (∀ x ∈ m, fits d x) → aH (iw m) = true := by
    intro m hm
    induction m with
    | nil => rfl
    | cons x m Y7 => rw [iw, bO, ih (hm x (by simp)), Y7 (fun y hy => hm y (by simp [hy]))]; rfl
   rw [hl l h.2]; rfl
structure Ic where
 (kind n : Int)
 (B : Option Addr)
 (nb cb : Nat)
 (L : Option Addr)
 (nl cl : Nat)
def Ic.cs (c : Ic) : Array Value := #[.int .i64 c.kind, .int .i64 c.n, .slice c.B c.nb c.cb, .slice c.L c.nl c.cl]
def Ic.val (c : Ic) : Value := .agg c.cs
def Four (w : World) (b o : Nat) (c : Ic) : Prop := w.cell? ⟨b, o, none⟩ = some (.int .i64 c.kind) ∧ w.cell? ⟨b, o + 1, none⟩ = some (.int .i64 c.n) ∧ w.cell? ⟨b, o + 2, none⟩ = some (.slice c.B c.nb c.cb) ∧ w.cell? ⟨b, o + 3, none⟩ = some (.slice c.L c.nl c.cl)
theorem Four.below {w w' : World} {b o : Nat} {c : Ic} (h : Four w b o c) (hb : Below w.heap.size w w') : Four w' b o c :=
 ⟨cell_below h.1 hb, cell_below h.2.1 hb, cell_below h.2.2.1 hb, cell_below h.2.2.2 hb⟩
inductive qi (w : World) : It → Ic → Prop
 | int (n : Int) (c : Ic) (h1 : c.kind = 1) (h2 : c.n = n) (h3 : c.nb = 0) (h4 : c.nl = 0) : qi w (.int n) c
 | byt (b : List Int) (c : Ic) (h1 : c.kind = 2) (h2 : c.n = 0) (h3 : c.nb = b.length) (h4 : c.nl = 0) (h5 : Sk .u8 w c.B b) : qi w (.byt b) c
 | lst (l : List It) (c : Ic) (h1 : c.kind = 3) (h2 : c.n = 0) (h3 : c.nb = 0) (h4 : c.nl = l.length) (f : Nat → Ic)
   (h5 : ∀ k, k < l.length → ∃ b o, c.L = some ⟨b, o, none⟩ ∧ Four w b (o + k * 4) (f k)) (h6 : ∀ k, k < l.length → qi w (l.getD k default) (f k)) : qi w (.lst l) c
theorem qi.kept {w w' : World} {i : It} {c : Ic} (h : qi w i c) (hb : Below w.heap.size w w') : qi w' i c := by
 induction h with
 | int n c h1 h2 h3 h4 => exact .int n c h1 h2 h3 h4
 | byt b c h1 h2 h3 h4 h5 => exact .byt b c h1 h2 h3 h4 (h5.below hb)
 | lst l c h1 h2 h3 h4 f h5 h6 ih =>
  refine .lst l c h1 h2 h3 h4 f (fun k hk => ?_) ih
  obtain ⟨b, o, e, h⟩ := h5 k hk
  exact ⟨b, o, e, h.below hb⟩
theorem Ao {w w1 w2 : World} {r r1 : Option Nat} (h : w.grownBy w1 r) (h2 : w1.grownBy w2 r1) (hr : r1 = r ∨ ∀ g, r1 = some g → w.heap.size ≤ g) : w.grownBy w2 r := by
 refine ⟨h2.os.trans h.os, h2.tape.trans h.tape, h2.output.trans h.output, Nat.le_trans h.size h2.size, fun k hk hne => ?_⟩
 refine (h2.block k (Nat.lt_of_lt_of_le hk h.size) ?_).trans (h.block k hk hne)
 intro e
 rcases hr with hr | hr
 · exact hne (by rw [e, hr])
 · have := hr k e.symm; omega
def App (base : Nat) (w : World) (v : Value) (xs ys : List Int) (w' : World) (v' : Value) : Prop :=
 bW .u8 5 w' base v' (xs ++ ys) ∧ w.grownBy w' v.ownBlock ∧ (v'.ownBlock = v.ownBlock ∨ ∀ g, v'.ownBlock = some g → w.heap.size ≤ g)
theorem App.refl {base : Nat} {w : World} {v : Value} {xs : List Int} (h : bW .u8 5 w base v xs) : App base w v xs [] w v :=
 ⟨by rw [List.append_nil]; exact h, World.grownBy.refl _ _, Or.inl rfl⟩
theorem App.trans {base : Nat} {w w1 w2 : World} {v v1 v2 : Value} {xs ys zs : List Int} (h : App base w v xs ys w1 v1) (h2 : App base w1 v1 (xs ++ ys) zs w2 v2) : App base w v xs (ys ++ zs) w2 v2 := by
 refine ⟨by rw [← List.append_assoc]; exact h2.1, Ao h.2.1 h2.2.1 h.2.2, ?_⟩
 rcases h2.2.2 with e | e
 ·
  rcases h.2.2 with e1 | e1
  · exact Or.inl (e.trans e1)
  · exact Or.inr fun g hg => e1 g (e ▸ hg)
 · exact Or.inr fun g hg => Nat.le_trans h.2.1.size (e g hg)
theorem App.alloc {base : Nat} {w : World} {v : Value} {xs : List Int} (h : bW .u8 5 w base v xs) (o : Obj) : App base w v xs [] (w.alloc o) v :=
 ⟨by rw [List.append_nil]; exact h.keep (ai _ _), World.grownBy_alloc _ _ _, Or.inl rfl⟩
theorem App.pre {base : Nat} {w w1 w2 : World} {v v1 v2 : Value} {xs ys : List Int} (h : App base w v xs [] w1 v1) (h2 : App base w1 v1 xs ys w2 v2) : App base w v xs ys w2 v2 := by
 have h3 : App base w v xs ([] ++ ys) w2 v2 := h.trans (by rw [List.append_nil]; exact h2)
 exact h3
theorem App.calm {base : Nat} {w w1 : World} {v : Value} {xs : List Int} (h : bW .u8 5 w base v xs) (hb : Below w.heap.size w w1) : App base w v xs [] w1 v :=
 ⟨by rw [List.append_nil]; exact h.keep hb, ⟨hb.os, hb.tape, hb.output, hb.size, fun k hk _ => hb.block k hk⟩, Or.inl rfl⟩
theorem App.below {B base : Nat} {w0 w w' : World} {v v' : Value} {xs ys : List Int} (h : App base w v xs ys w' v') (ho : bW .u8 5 w base v xs) (hb : Below B w0 w) (hB : B ≤ base) (hBw : B ≤ w.heap.size) : Below B w0 w' :=
 hb.grown h.2.1 hBw (fun j hj => Nat.le_trans hB (bW.lt ho j hj).1)
theorem App.cell {base : Nat} {w w' : World} {v v' : Value} {xs ys : List Int} (h : App base w v xs ys w' v') {p : Addr} {u : Value} (hc : w.cell? p = some u) (hne : v.ownBlock ≠ some p.block) : w'.cell? p = some u :=
 h.2.1.cell hc (Ne.symm hne)
theorem App.of_lies {base n m : Nat} {w w1 : World} {v : Value} {xs ys : List Int} {g cap H : Nat} (hn : xs.length = n) (hm : ys.length = m) (hH : w.heap.size = H)
  (h1 : w1.ownsRow base 5 1 (.slice (some ⟨g, 0, none⟩) (n + m) cap) (n + m) (xs.map (Value.int .u8) ++ ys.map (Value.int .u8))) (h2 : w.grownBy w1 v.ownBlock) (h3 : v.ownBlock = some g ∨ g = H) : App base w v xs ys w1 (.slice (some ⟨g, 0, none⟩) (n + m) cap) :=
 ⟨bW.app hn.symm hm.symm h1, h2, h3.elim (fun e => Or.inl e.symm) (fun e => Or.inr fun k hk => by cases hk; show w.heap.size ≤ g; omega)⟩
section
variable {P : Program}
theorem wpList_append_lies {ops : Array Oper} {rest : List Oper} {o : Oper} {a : Act} {w : World} {Q : Exit → Act → World → Prop} (hgd : o.guard = none) (s x : Operand) (t : TypeId)
  (ho : o.op = .call { callee := .builtin .append, args := #[s, x], argTypes := #[t, t] })
  (base : Nat) (e : TypeId) (i : TypeInfo) (z : Value) (size bytes : Nat) (ht : P.underlying t = some (.slice e)) (hi : P.info? e = some i) (hz : i.zero = some z)
  (hsize : i.size = size) (hby : i.bytes = bytes) (hzs : z.cells.size = size) (hsz : 0 < size)
  (v : Value) (n : Nat) (xs : List Value) (hs : a.eval s = v) (hown : w.ownsRow base e size v n xs)
  (ad : Addr) (m c : Nat) (news : List Value) (hx : a.eval x = .slice (some ad) m c) (hl : news.length = m * size) (hnews : ∀ j u, news[j]? = some u → w.cell? (ad.add j) = some u) (h1 : ∀ u ∈ news, u.oneCell' = true)
  (hm : 0 < m) (h63 : n + m ≤ maxLen) (hbytes : (n + m) * bytes ≤ 140737488355328) (hbase : base ≤ w.heap.size) (H : Nat) (hH : w.heap.size = H)
  (h : ∀ g cap w', w'.ownsRow base e size (.slice (some ⟨g, 0, none⟩) (n + m) cap) (n + m) (xs ++ news) → w.grownBy w' v.ownBlock → (v.ownBlock = some g ∨ g = H) → g < w'.heap.size → wpList P ops Q rest (a.put o.dst (.slice (some ⟨g, 0, none⟩) (n + m) cap)) w') :
  wpList P ops Q (o :: rest) a w :=
 wpList_plain hgd fun _ hK => wp_append_lies w s x t ho base e i z size bytes ht hi hz hsize hby hzs hsz v n xs hs hown ad m c news hx hl hnews h1 hm h63 hbytes hbase H hH fun g cap w' a1 a2 a3 a4 => hK _ _ (h g cap w' a1 a2 a3 a4)
end
def si (s : Nat) (n : Int) : List Int := if s = 8 then mg n else Dc n
theorem p_ {s : Nat} (h : s = 4 ∨ s = 8) (n : Int) : (si s n).length = s := by rcases h with rfl | rfl <;> rfl
theorem El {s : Nat} (h : s = 4 ∨ s = 8) (n : Int) (j : Nat) (hj : j < s) : (si s n).getD j 0 = n / 2 ^ (8 * (s - 1 - j)) % 256 := by
 rcases h with rfl | rfl
 · rcases (show j = 0 ∨ j = 1 ∨ j = 2 ∨ j = 3 by omega) with rfl | rfl | rfl | rfl <;> simp [si, Dc]
 · rcases (show j = 0 ∨ j = 1 ∨ j = 2 ∨ j = 3 ∨ j = 4 ∨ j = 5 ∨ j = 6 ∨ j = 7 by omega) with rfl | rfl | rfl | rfl | rfl | rfl | rfl | rfl <;> simp [si, mg]
def ni (base : Nat) (v : Value) (xs ys : List Int) (w : World) (e : Ending) (w' : World) : Prop := ∃ v', e = .returned v' ∧ App base w v xs ys w' v'
theorem mV (base : Nat) (v : Value) (xs : List Int) (N : Nat) (n : Int) (s : Nat) (hs : s = 4 ∨ s = 8) (hN : Hid (xs.length = N)) (hbig : N ≤ 20000) (w : World) (ho : Hid (bW .u8 5 w base v xs)) (hbase : base ≤ w.heap.size) :
  Calls Tryz.prog 175 #[v, .int .u64 n, .int .i64 s] w (ni base v xs (si s n) w) := by
 obtain ⟨i0, hi, hz0, hz1, hz2⟩ := info_parts jJ
 have s1 : 4 ≤ s := by omega
 have s2 : s ≤ 8 := by omega
 have Gl := aa hs
 clear hs
 go_in
 go_wp2
 go_loopw [0, 7] (fun p i u => ∃ k : Nat, k ≤ s ∧ i = .int .i64 ((s : Int) - 1 - (k : Int)) ∧ Hid (App base w v xs ((si s n).take k) u p)) (fun _ i _ => (intOf i + 1).toNat)
 case atStart => exact ⟨0, by omega, by simp, aa (App.refl ho.out)⟩
 case round =>
  obtain ⟨k, hk, rfl, HA⟩ := hrel
  by_cases hlt : k < s
  ·
   obtain ⟨q, hq⟩ : ∃ q, n / 2 ^ (8 * (s - 1 - k)) = q := ⟨_, rfl⟩
   have Et : Hid ((si s n).take (k + 1) = (si s n).take k ++ [q % 256]) := aa (by rw [take_one (by rw [p_ Gl.out]; exact hlt), El Gl.out n k hlt, hq])
   have vB : Hid ((xs ++ (si s n).take k).length = N + k) := aa (by rw [List.length_append, List.length_take, p_ Gl.out, hN.out]; omega)
   have j0 : (0 : Int) ≤ 8 * ((s : Int) - 1 - (k : Int)) := by omega
   have j1 : (8 * ((s : Int) - 1 - (k : Int))).toNat = 8 * (s - 1 - k) := by omega
   have hown := (HA.out.1.row vB.out)
   have hbs : base ≤ wr.heap.size := Nat.le_trans hbase HA.out.2.1.size
   have d1 : (0 : Int) ≤ (s : Int) - 1 - (k : Int) := by omega
   go_wp2_with (at_builtin; refine wpList_append_lies rfl _ _ 93 rfl base 5 i0 (.int .u8 0) 1 1 Tryz.underlying93 hi hz0 hz1 hz2 rfl (by decide) _ _ _ rfl (hown.alloc _) ⟨wr.heap.size, 0, none⟩ 1 1 [.int .u8 (q % 256)] rfl rfl (cell_one_new _ _ _) (ints_oneCell .u8 [q % 256]) (by decide) (by unfold maxLen; omega) (by omega) (by simp; omega) _ rfl ?_; intro g cap w2 hown2 hgrow2 qM hlt2)
   have HA2 := App.of_lies (v := u0) (xs := xs ++ (si s n).take k) (ys := [q % 256]) vB.out rfl rfl hown2 hgrow2 qM
   have Bn : Hid (App base w v xs ((si s n).take (k + 1)) w2 (.slice (some ⟨g, 0, none⟩) (N + k + 1) cap)) := aa (by
    rw [Et.out]
    exact HA.out.trans ((App.alloc HA.out.1 _).pre HA2))
   clear hown hown2 hgrow2 qM HA HA2
   go_roundw
   case rel => exact ⟨k + 1, by omega, by go_num, Bn⟩
   case measure => simp [intOf]; omega
  ·
   have HF : Hid (App base w v xs (si s n) wr u0) := aa (by
    have h := HA.out
    rwa [show k = (si s n).length by rw [p_ Gl.out]; omega, List.take_length] at h)
   have d1 : (s : Int) - 1 - (k : Int) < 0 := by omega
   clear HA
   go_wp2
   go_ret
   exact ⟨_, rfl, HF.out⟩
def pK (c : Ic) : Obj := .cells #[.int .i64 c.kind, .int .i64 c.n, .slice c.B c.nb c.cb, .slice c.L c.nl c.cl] 109
theorem jG (w : World) (c : Ic) : Four (w.alloc (pK c)) w.heap.size 0 c := by
 have h := heap_alloc_new w (pK c)
 exact ⟨aj h 0, aj h 1, aj h 2, aj h 3⟩
theorem Four.get {w : World} {b o : Nat} {c : Ic} (h : Four w b o c) : w.cell? ⟨b, o, none⟩ = some (.int .i64 c.kind) ∧ w.cell? ⟨b, o + 1, none⟩ = some (.int .i64 c.n) ∧ w.cell? ⟨b, o + 2, none⟩ = some (.slice c.B c.nb c.cb) ∧ w.cell? ⟨b, o + 3, none⟩ = some (.slice c.L c.nl c.cl) := h
def Ka (g : FuncId) (caps : Array Value) (l : List It) (f : Nat → Ic) (W : World) : Prop :=
 ∀ k, k < l.length → ∀ (w1 : World), Below W.heap.size W w1 → Calls Tryz.prog g (#[(f k).val] ++ caps) w1 fun e w' => e = .returned (.bool false) ∧ Below w1.heap.size w1 w'
theorem I1 (c0 : Value) (A : Option Addr) (l : List It) (f : Nat → Ic) (n c : Nat) (hn : Hid (l.length = n)) (hbig : n ≤ 1000) (w : World)
  (hs : Hid (∀ k, k < l.length → ∃ b o, A = some ⟨b, o, none⟩ ∧ Four w b (o + k * 4) (f k))) (hp : Hid (Ka 182 #[c0] l f w)) :
  Calls Tryz.prog 187 #[.slice A n c, .func (.func 182) #[] #[c0]] w (Rt w (.int .i64 (-1))) := by
 go_in
 go_wp2
 go_loopw [8] (fun i wr => ∃ k : Nat, k ≤ n ∧ i = .int .i64 k ∧ Hid (Below w.heap.size w wr)) (fun i _ => n - (intOf i).toNat)
 case atStart => exact ⟨0, by omega, rfl, aa (Below.refl _ _)⟩
 case round =>
  obtain ⟨k, hk, rfl, aF⟩ := hrel
  by_cases hlt : k < n
  ·
   have hkl : k < l.length := by rw [hn.out]; exact hlt
   obtain ⟨b, o, hA, h4⟩ := hs.out k hkl
   subst hA
   have sV := hp.out k hkl wr aF.out
   obtain ⟨ic, hic⟩ : ∃ x, f k = x := ⟨_, rfl⟩
   rw [hic] at h4 sV
   obtain ⟨kd, nn, B, nb, cb, L, nl, cl⟩ := ic
   obtain ⟨i0, i1, i2, i3⟩ := (h4.below aF.out).get
   have HC : Hid (Calls Tryz.prog 182 #[.agg #[.int .i64 kd, .int .i64 nn, .slice B nb cb, .slice L nl cl], c0] wr fun e w' => e = .returned (.bool false) ∧ Below wr.heap.size wr w') := aa sV
   clear h4 hkl hic sV
   go_wp2_with fail
   refine HC.out.mono ?_
   rintro e w2 ⟨rfl, hb0⟩
   have HB2 := aa (af aF.out hb0)
   clear i0 i1 i2 i3 hb0 HC
   go_wp2
   go_roundw
   case rel => exact ⟨k + 1, by omega, by go_num, HB2⟩
   case measure => simp [intOf]; omega
  ·
   go_wp2
   go_ret
   exact ⟨rfl, aF.out⟩
theorem MF (c0 : Value) (A : Option Addr) (l : List It) (f : Nat → Ic) (n c : Nat) (hn : Hid (l.length = n)) (hbig : n ≤ 1000) (w : World)
  (hs : Hid (∀ k, k < l.length → ∃ b o, A = some ⟨b, o, none⟩ ∧ Four w b (o + k * 4) (f k))) (hp : Hid (Ka 182 #[c0] l f w)) :
  Calls Tryz.prog 181 #[.slice A n c, .func (.func 182) #[] #[c0]] w (Rt w (.bool false)) := by
 go_in
 go_wp2_with fail
 refine (I1 c0 A l f n c hn hbig _ hs hp).mono ?_
 rintro e w' ⟨rfl, hb0⟩
 go_wp2
 go_ret
 exact ⟨rfl, hb0⟩
theorem E_ (d D : Nat) (hD0 : 1 ≤ D) (hD : D ≤ 8) (a : Nat) (l : List It) (f : Nat → Ic) (hl : Hid (∀ x ∈ l, fits d x)) (w : World) (hx : Hid (w.cell? ⟨a, 0, none⟩ = some (.int .i64 (D : Int)))) (hr : Hid (∀ k, k < l.length → qi w (l.getD k default) (f k)))
  (ih : ∀ (i : It) (c : Ic) (w : World), fits d i → qi w i c → Calls Tryz.prog 174 #[c.val, .int .i64 ((D - 1 : Nat) : Int)] w (Rt w (.bool true))) :
  Ka 182 #[.pointer (some ⟨a, 0, none⟩)] l f w := fun k hk w1 hb => by
 have h1 := hl.out (l.getD k default) (by rw [List.getD_eq_getElem?_getD, List.getElem?_eq_getElem hk]; exact List.getElem_mem hk)
 have h2 := (hr.out k hk).kept hb
 obtain ⟨ic, hic⟩ : ∃ x, f k = x := ⟨_, rfl⟩
 rw [hic] at h2 ⊢
 obtain ⟨it, hit⟩ : ∃ x, l.getD k default = x := ⟨_, rfl⟩
 rw [hit] at h1 h2
 have hc0 := cell_below hx.out hb
 have SI := aa (ih it ic ((w1.alloc (pK ic))) h1 (h2.kept (ai _ _)))
 obtain ⟨kd, nn, B, nb, cb, L, nl, cl⟩ := ic
 show Calls Tryz.prog 182 #[.agg #[.int .i64 kd, .int .i64 nn, .slice B nb cb, .slice L nl cl], .pointer (some ⟨a, 0, none⟩)] w1 fun e w' => e = .returned (.bool false) ∧ Below w1.heap.size w1 w'
 have hc : (w1.alloc (.cells #[.int .i64 kd, .int .i64 nn, .slice B nb cb, .slice L nl cl] 109)).cell? ⟨a, 0, none⟩ = some (.int .i64 (D : Int)) := cell_below hc0 (ai _ _)
 have e1 : IntKind.i64.wrap ((D : Int) - 1) = (D : Int) - 1 := IntWalk.i64_in _ (by omega)
 have HE : Hid (((D - 1 : Nat) : Int) = (D : Int) - 1) := aa (by omega)
 clear h1 h2 hic hit hb hc0
 go_in
 go_wp2_with fail
 rw [← HE.out]
 refine SI.out.mono ?_
 rintro e w2 ⟨rfl, hb0⟩
 have hb1 := af (ai _ _) hb0
 clear hb0
 go_wp2
 go_ret
 exact ⟨rfl, hb1⟩
theorem tq (n : Int) (c : Ic) (w : World) (D : Nat) (h1 : c.kind = 1) (h3 : c.nb = 0) (h4 : c.nl = 0) : Calls Tryz.prog 174 #[c.val, .int .i64 (D : Int)] w (Rt w (.bool true)) := by
 obtain ⟨kd, nn, B, nb, cb, L, nl, cl⟩ := c
 dsimp only at h1 h3 h4
 subst h1; subst h3; subst h4
 show Calls Tryz.prog 174 #[.agg #[.int .i64 1, .int .i64 nn, .slice B 0 cb, .slice L 0 cl], .int .i64 (D : Int)] w (Rt w (.bool true))
 go_in
 go_wp2
 go_ret
 exact ⟨rfl, aB (Below.refl _ _)⟩
theorem tu (c : Ic) (w : World) (D : Nat) (h1 : c.kind = 2) (h2 : c.n = 0) (h4 : c.nl = 0) : Calls Tryz.prog 174 #[c.val, .int .i64 (D : Int)] w (Rt w (.bool true)) := by
 obtain ⟨kd, nn, B, nb, cb, L, nl, cl⟩ := c
 dsimp only at h1 h2 h4
 subst h1; subst h2; subst h4
 show Calls Tryz.prog 174 #[.agg #[.int .i64 2, .int .i64 0, .slice B nb cb, .slice L 0 cl], .int .i64 (D : Int)] w (Rt w (.bool true))
 go_in
 go_wp2
 go_ret
 exact ⟨rfl, aB (Below.refl _ _)⟩
theorem BD : ∀ (d D : Nat), d ≤ D → D ≤ 8 → ∀ (i : It) (c : Ic) (w : World), fits d i → qi w i c → Calls Tryz.prog 174 #[c.val, .int .i64 (D : Int)] w (Rt w (.bool true)) := by
 intro d
 induction d with
 | zero =>
  intro D Zv hD i c w hf hr
  cases hr with
  | int n c h1 h2 h3 h4 => exact tq n c w D h1 h3 h4
  | byt b c h1 h2 h3 h4 h5 => exact tu c w D h1 h2 h4
  | lst l c h1 h2 h3 h4 f h5 h6 => exact absurd hf (by simp [fits])
 | succ d ih =>
  intro D Zv hD i c w hf hr
  cases hr with
  | int n c h1 h2 h3 h4 => exact tq n c w D h1 h3 h4
  | byt b c h1 h2 h3 h4 h5 => exact tu c w D h1 h2 h4
  | lst l c h1 h2 h3 h4 f h5 h6 =>
   obtain ⟨kd, nn, B, nb, cb, L, nl, cl⟩ := c
   dsimp only at h1 h2 h3 h4 h5
   subst h1; subst h2; subst h3; subst h4
   show Calls Tryz.prog 174 #[.agg #[.int .i64 3, .int .i64 0, .slice B 0 cb, .slice L l.length cl], .int .i64 (D : Int)] w (Rt w (.bool true))
   obtain ⟨W, hW⟩ : ∃ W, (w.alloc (pK ⟨3, 0, B, 0, cb, L, l.length, cl⟩)).alloc (.cells #[.int .i64 (D : Int)] 3) = W := ⟨_, rfl⟩
   have dR : Hid (Below w.heap.size w W) := aa (by rw [← hW]; exact aB (Below.refl _ _))
   have hF : Four W w.heap.size 0 ⟨3, 0, B, 0, cb, L, l.length, cl⟩ := by rw [← hW]; exact (jG w _).below (ai _ _)
   obtain ⟨i0, i1, i2, i3⟩ := hF.get
   have hd : W.cell? ⟨w.heap.size + 1, 0, none⟩ = some (.int .i64 (D : Int)) := by rw [← hW]; exact aj (heap_alloc2_new _ _ _) 0
   have hll := hf.1
   have Qq := aa (MF (.pointer (some ⟨w.heap.size + 1, 0, none⟩)) L l f l.length cl (aa rfl) hll W (aa fun k hk => by obtain ⟨b, o, e, h⟩ := h5 k hk; exact ⟨b, o, e, h.below dR.out⟩)
    (aa (E_ d D (by omega) hD (w.heap.size + 1) l f (aa hf.2) W (aa hd) (aa fun k hk => (h6 k hk).kept dR.out) (ih (D - 1) (by omega) (by omega)))))
   obtain ⟨nl, hnl⟩ : ∃ x, l.length = x := ⟨_, rfl⟩
   rw [hnl] at i3 hll Qq ⊢
   rw [hnl] at hW
   have HW : Hid ((w.alloc (.cells #[.int .i64 3, .int .i64 0, .slice B 0 cb, .slice L nl cl] 109)).alloc (.cells #[.int .i64 (D : Int)] 3) = W) := aa hW
   have d1 : decide ((nl : Int) ≤ 1000) = true := by simp; omega
   have d2 : decide ((0 : Int) < (D : Int)) = true := by simp; omega
   have d3 : (0 : Int) < (D : Int) := by omega
   clear hW hF hnl h5 h6 hf ih
   go_in
   go_wp2_with fail
   rw [HW.out]
   refine Qq.out.mono ?_
   rintro e w2 ⟨rfl, hb0⟩
   have hb1 := af dR.out hb0
   clear hb0
   go_wp2
   go_ret
   exact ⟨by simp, hb1⟩
theorem CR (i : It) (c : Ic) (w : World) (hf : fits 8 i) (hr : qi w i c) : Calls Tryz.prog 161 #[c.val] w (Rt w (.bool true)) := by
 have SI := aa (BD 8 8 (Nat.le_refl _) (Nat.le_refl _) i c (w.alloc (pK c)) hf (hr.kept (ai _ _)))
 obtain ⟨kd, nn, B, nb, cb, L, nl, cl⟩ := c
 show Calls Tryz.prog 161 #[.agg #[.int .i64 kd, .int .i64 nn, .slice B nb cb, .slice L nl cl]] w (Rt w (.bool true))
 clear hf hr
 go_in
 go_wp2_with fail
 refine SI.out.mono ?_
 rintro e w2 ⟨rfl, hb0⟩
 have hb1 := af (ai _ _) hb0
 clear hb0
 go_wp2
 go_ret
 exact ⟨rfl, hb1⟩
theorem vV (n : Int) (hn1 : -9223372036854775808 ≤ n) (hn2 : n < 9223372036854775808) (B : Option Addr) (cb : Nat) (L : Option Addr) (cl : Nat) (w : World) (base : Nat) (v : Value) (xs : List Int) (ho : Hid (bW .u8 5 w base v xs)) (hbase : base ≤ w.heap.size) (hlen : xs.length + 9 ≤ 16384) :
  Calls Tryz.prog 162 #[v, .agg #[.int .i64 1, .int .i64 n, .slice B 0 cb, .slice L 0 cl]] w (ni base v xs (enc (.int n)) w) := by
 obtain ⟨i0, hi, hz0, hz1, hz2⟩ := info_parts jJ
 obtain ⟨A, cp, rfl, -, -, -⟩ := ho.out.sk
 obtain ⟨N, hN⟩ : ∃ n, xs.length = n := ⟨_, rfl⟩
 rw [hN] at hlen ho ⊢
 have HN := aa hN
 have hlt : (Value.slice A N cp).ownBlock ≠ some w.heap.size := fun e => by have := (ho.out.lt _ e).2; omega
 obtain ⟨W, hW⟩ : ∃ W, w.alloc (.cells #[.int .i64 1, .int .i64 n, .slice B 0 cb, .slice L 0 cl] 109) = W := ⟨_, rfl⟩
 have hF : Four W w.heap.size 0 ⟨1, n, B, 0, cb, L, 0, cl⟩ := by rw [← hW]; exact jG w ⟨1, n, B, 0, cb, L, 0, cl⟩
 have oL : Hid (App base w (.slice A N cp) xs [] W (.slice A N cp)) := aa (by rw [← hW]; exact App.alloc ho.out _)
 have hbW : base ≤ W.heap.size := by rw [← hW]; simp; omega
 have Pp : Hid (W.heap.size = w.heap.size + 1) := aa (by rw [← hW]; simp)
 obtain ⟨c0, c1, c2, c3⟩ := hF.get
 have HC := aa hF
 have hown := oL.out.1.row (n := N) (by rw [List.append_nil, HN.out])
 rw [List.append_nil] at hown
 have HW := aa hW
 clear hN hF hW
 go_in
 go_upto_region 3 with (fail)
 rw [HW.out]
 go_upto_region 4 with (at_builtin; refine wpList_append_lies rfl _ _ 93 rfl base 5 i0 (.int .u8 0) 1 1 Tryz.underlying93 hi hz0 hz1 hz2 rfl (by decide) _ _ _ rfl (hown.alloc _) ⟨W.heap.size, 0, none⟩ 1 1 [.int .u8 1] rfl rfl (cell_one_new _ _ _) (ints_oneCell .u8 [1]) (by decide) (by unfold maxLen; omega) (by omega) (by simp; omega) _ rfl ?_; intro g cap w2 hown2 hgrow2 qM hlt2)
 have HA1 := App.of_lies (v := .slice A N cp) (xs := xs) (ys := [1]) HN.out rfl rfl hown2 hgrow2 qM
 have HA2 : Hid (App base w (.slice A N cp) xs [1] w2 (.slice (some ⟨g, 0, none⟩) (N + 1) cap)) := aa (oL.out.pre (((App.alloc (by have h := oL.out.1; rwa [List.append_nil] at h) _)).pre HA1))
 have hb2 : base ≤ w2.heap.size := Nat.le_trans hbase HA2.out.2.1.size
 have e0 := HA1.cell (cell_below c0 (ai _ _)) hlt
 have e1 := HA1.cell (cell_below c1 (ai _ _)) hlt
 have e2 := HA1.cell (cell_below c2 (ai _ _)) hlt
 have e3 := HA1.cell (cell_below c3 (ai _ _)) hlt
 rw [Nat.zero_add] at e1 e2 e3
 have hne2 : (Value.slice (some ⟨g, 0, none⟩) (N + 1) cap).ownBlock ≠ some w.heap.size := fun e => by
  rcases HA1.2.2 with e5 | e5
  · exact hlt (e5 ▸ e)
  · have h5 := e5 _ e; simp at h5; have := Pp.out; omega
 clear c0 c1 c2 c3 hown hown2 hgrow2 qM HA1 HC HW
 go_wp2_with fail
 refine (mV base _ (xs ++ [1]) (N + 1) _ 8 (Or.inr rfl) (aa (by rw [List.length_append, HN.out]; rfl)) (by omega) _ (aa HA2.out.1) hb2).mono ?_
 rintro e w3 ⟨v3, rfl, FU⟩
 have HF : Hid (App base w (.slice A N cp) xs (enc (.int n)) w3 v3) := aa (HA2.out.trans FU)
 clear FU HA2
 go_wp2
 go_ret
 exact ⟨_, rfl, HF.out⟩
theorem vW (l : List Int) (n : Nat) (hn : Hid (l.length = n)) (hn0 : 0 < n) (b o : Nat) (cb : Nat) (L : Option Addr) (cl : Nat) (w0 w : World) (base : Nat) (v : Value) (xs : List Int) (hs : Hid (Sk .u8 w0 (some ⟨b, o, none⟩) l)) (hw0 : Hid (Below w0.heap.size w0 w)) (Ma : w0.heap.size ≤ base) (ho : Hid (bW .u8 5 w base v xs)) (hbase : base ≤ w.heap.size) (hlen : xs.length + (n + 5) ≤ 16384) :
  Calls Tryz.prog 162 #[v, .agg #[.int .i64 2, .int .i64 0, .slice (some ⟨b, o, none⟩) n cb, .slice L 0 cl]] w (ni base v xs (enc (.byt l)) w) := by
 obtain ⟨i0, hi, hz0, hz1, hz2⟩ := info_parts jJ
 obtain ⟨A, cp, rfl, -, -, -⟩ := ho.out.sk
 obtain ⟨N, hN⟩ : ∃ n, xs.length = n := ⟨_, rfl⟩
 rw [hN] at hlen ho ⊢
 have HN := aa hN
 have hlt : (Value.slice A N cp).ownBlock ≠ some w.heap.size := fun e => by have := (ho.out.lt _ e).2; omega
 obtain ⟨W, hW⟩ : ∃ W, w.alloc (.cells #[.int .i64 2, .int .i64 0, .slice (some ⟨b, o, none⟩) n cb, .slice L 0 cl] 109) = W := ⟨_, rfl⟩
 have hF : Four W w.heap.size 0 ⟨2, 0, some ⟨b, o, none⟩, n, cb, L, 0, cl⟩ := by rw [← hW]; exact jG w ⟨2, 0, some ⟨b, o, none⟩, n, cb, L, 0, cl⟩
 have oL : Hid (App base w (.slice A N cp) xs [] W (.slice A N cp)) := aa (by rw [← hW]; exact App.alloc ho.out _)
 have hbW : base ≤ W.heap.size := by rw [← hW]; simp; omega
 have Pp : Hid (W.heap.size = w.heap.size + 1) := aa (by rw [← hW]; simp)
 obtain ⟨c0, c1, c2, c3⟩ := hF.get
 have HC := aa hF
 have hown := oL.out.1.row (n := N) (by rw [List.append_nil, HN.out])
 rw [List.append_nil] at hown
 have HW := aa hW
 clear hN hF hW
 go_in
 go_upto_region 3 with (fail)
 rw [HW.out]
 go_upto_region 4 with (at_builtin; refine wpList_append_lies rfl _ _ 93 rfl base 5 i0 (.int .u8 0) 1 1 Tryz.underlying93 hi hz0 hz1 hz2 rfl (by decide) _ _ _ rfl (hown.alloc _) ⟨W.heap.size, 0, none⟩ 1 1 [.int .u8 2] rfl rfl (cell_one_new _ _ _) (ints_oneCell .u8 [2]) (by decide) (by unfold maxLen; omega) (by omega) (by simp; omega) _ rfl ?_; intro g cap w2 hown2 hgrow2 qM hlt2)
 have HA1 := App.of_lies (v := .slice A N cp) (xs := xs) (ys := [2]) HN.out rfl rfl hown2 hgrow2 qM
 have HA2 : Hid (App base w (.slice A N cp) xs [2] w2 (.slice (some ⟨g, 0, none⟩) (N + 1) cap)) := aa (oL.out.pre (((App.alloc (by have h := oL.out.1; rwa [List.append_nil] at h) _)).pre HA1))
 have hb2 : base ≤ w2.heap.size := Nat.le_trans hbase HA2.out.2.1.size
 have e0 := HA1.cell (cell_below c0 (ai _ _)) hlt
 have e1 := HA1.cell (cell_below c1 (ai _ _)) hlt
 have e2 := HA1.cell (cell_below c2 (ai _ _)) hlt
 have e3 := HA1.cell (cell_below c3 (ai _ _)) hlt
 rw [Nat.zero_add] at e1 e2 e3
 have hne2 : (Value.slice (some ⟨g, 0, none⟩) (N + 1) cap).ownBlock ≠ some w.heap.size := fun e => by
  rcases HA1.2.2 with e5 | e5
  · exact hlt (e5 ▸ e)
  · have h5 := e5 _ e; simp at h5; have := Pp.out; omega
 clear c0 c1 c2 c3 hown hown2 hgrow2 qM HA1 HC HW
 have u1 : IntKind.u64.wrap (n : Int) = (n : Int) := by simp [IntKind.wrap, IntKind.bits, IntKind.signed]; omega
 go_wp2_with fail
 have HE2 := aa e2
 clear e0 e1 e2 e3
 refine dZ (S := fun w' => w'.cell? ⟨w.heap.size, 2, none⟩ = some (.slice (some ⟨b, o, none⟩) n cb)) (E := [8, 9]) (by kernel_rfl) (cell_below HE2.out (Below.refl _ _).drew) (fun hHeld => ?_)
 refine eZ 0 ?_
 refine eZ 1 ?_
 refine eZ 2 ?_
 refine eZ 3 ?_
 refine eZ 4 ?_
 refine eZ 6 ?_
 refine eZ 7 ?_
 refine dO 5 fun K hK => ?_
 go_simp
 refine (mV base _ (xs ++ [2]) (N + 1) n 4 (Or.inl rfl) (aa (by rw [List.length_append, HN.out]; rfl)) (by omega) _ (aa (HA2.out.1.keep (Below.refl _ _).drew)) hb2).mono ?_
 rintro e w3 ⟨v3, rfl, FU⟩
 have Bn : Hid (App base w (.slice A N cp) xs (2 :: si 4 n) w3 v3) := aa (HA2.out.trans ((App.calm HA2.out.1 (Below.refl _ _).drew).pre FU))
 have hsb := hs.out.below (Bn.out.below ho.out hw0.out Ma hw0.out.size)
 have hb3 : base ≤ w3.heap.size := Nat.le_trans hbase Bn.out.2.1.size
 have hl3 : (xs ++ 2 :: si 4 (n : Int)).length = N + 1 + 4 := by rw [List.length_append, HN.out, List.length_cons, p_ (Or.inl rfl)]
 have hrow3 := Bn.out.1.row hl3
 refine hK.out _ _ ?_ (fun hHeld => ?_)
 · exact FU.cell (cell_below HE2.out (Below.refl _ _).drew) hne2
 clear hK K
 try simp only [qq]
 refine mo 8 fun K hK => ?_
 refine step_append_lies _ (by rfl) _ _ _ (by rfl) base 5 i0 _ 1 1 Tryz.underlying93 hi hz0 hz1 hz2 rfl (by omega) v3 (N + 1 + 4) ((xs ++ 2 :: si 4 (n : Int)).map (.int .u8)) (by rfl) hrow3 ⟨b, o, none⟩ n cb (l.map (.int .u8)) (by rfl) (by simp [hn.out]) hsb.news (ints_oneCell .u8 _) hn0 (by unfold maxLen; omega) (by omega) hb3 w3.heap.size rfl ?_
 intro g4 cap4 w4 nT Ct Ru UY
 have KC := App.of_lies (v := v3) (xs := xs ++ 2 :: si 4 (n : Int)) (ys := l) hl3 hn.out rfl nT Ct Ru
 refine hK.out _ _ ?_
 clear hK K
 try simp only [qq]
 refine mo 9 fun K hK => ?_
 go_simp
 refine hK.out _ _ ?_
 clear hK K
 try simp only [qq]
 refine jf ?_
 have HF : Hid (App base w (.slice A N cp) xs (enc (.byt l)) w4 (.slice (some ⟨g4, 0, none⟩) (N + 1 + 4 + n) cap4)) := aa (by
  rw [jX, hn.out]
  exact Bn.out.trans KC)
 clear KC Bn HA2 HE2
 go_wp2
 go_ret
 exact ⟨_, rfl, HF.out⟩
theorem EJ (l : List It) (n : Nat) (hn : Hid (l.length = n)) (hn1 : n ≤ 1000) (f : Nat → Ic) (B : Option Addr) (cb : Nat) (L : Option Addr) (cl : Nat) (w0 w : World) (base : Nat) (v : Value) (xs : List Int)
  (h5 : Hid (∀ k, k < l.length → ∃ b o, L = some ⟨b, o, none⟩ ∧ Four w0 b (o + k * 4) (f k))) (h6 : Hid (∀ k, k < l.length → qi w0 (l.getD k default) (f k))) (hw0 : Hid (Below w0.heap.size w0 w)) (Ma : w0.heap.size ≤ base) (ho : Hid (bW .u8 5 w base v xs)) (hbase : base ≤ w.heap.size)
  (hsm : Hid (xs.length + (enc (.lst l)).length ≤ 16384))
  (ih : ∀ (k : Nat), k < l.length → ∀ (w : World) (v : Value) (ys : List Int), Below w0.heap.size w0 w → bW .u8 5 w base v ys → base ≤ w.heap.size → ys.length + (enc (l.getD k default)).length ≤ 16384 → Calls Tryz.prog 162 #[v, (f k).val] w (ni base v ys (enc (l.getD k default)) w)) :
  Calls Tryz.prog 162 #[v, .agg #[.int .i64 3, .int .i64 0, .slice B 0 cb, .slice L n cl]] w (ni base v xs (enc (.lst l)) w) := by
 have hlen : xs.length + 5 ≤ 16384 := by have h := hsm.out; rw [lT, List.length_cons, List.length_append, jY] at h; omega
 have SI := aa ih
 clear ih
 obtain ⟨i0, hi, hz0, hz1, hz2⟩ := info_parts jJ
 obtain ⟨A, cp, rfl, -, -, -⟩ := ho.out.sk
 obtain ⟨N, hN⟩ : ∃ n, xs.length = n := ⟨_, rfl⟩
 rw [hN] at hlen ho ⊢
 have HN := aa hN
 have hlt : (Value.slice A N cp).ownBlock ≠ some w.heap.size := fun e => by have := (ho.out.lt _ e).2; omega
 obtain ⟨W, hW⟩ : ∃ W, w.alloc (.cells #[.int .i64 3, .int .i64 0, .slice B 0 cb, .slice L n cl] 109) = W := ⟨_, rfl⟩
 have hF : Four W w.heap.size 0 ⟨3, 0, B, 0, cb, L, n, cl⟩ := by rw [← hW]; exact jG w ⟨3, 0, B, 0, cb, L, n, cl⟩
 have oL : Hid (App base w (.slice A N cp) xs [] W (.slice A N cp)) := aa (by rw [← hW]; exact App.alloc ho.out _)
 have hbW : base ≤ W.heap.size := by rw [← hW]; simp; omega
 have Pp : Hid (W.heap.size = w.heap.size + 1) := aa (by rw [← hW]; simp)
 obtain ⟨c0, c1, c2, c3⟩ := hF.get
 have HC := aa hF
 have hown := oL.out.1.row (n := N) (by rw [List.append_nil, HN.out])
 rw [List.append_nil] at hown
 have HW := aa hW
 clear hN hF hW
 go_in
 go_upto_region 3 with (fail)
 rw [HW.out]
 go_upto_region 4 with (at_builtin; refine wpList_append_lies rfl _ _ 93 rfl base 5 i0 (.int .u8 0) 1 1 Tryz.underlying93 hi hz0 hz1 hz2 rfl (by decide) _ _ _ rfl (hown.alloc _) ⟨W.heap.size, 0, none⟩ 1 1 [.int .u8 3] rfl rfl (cell_one_new _ _ _) (ints_oneCell .u8 [3]) (by decide) (by unfold maxLen; omega) (by omega) (by simp; omega) _ rfl ?_; intro g cap w2 hown2 hgrow2 qM hlt2)
 have HA1 := App.of_lies (v := .slice A N cp) (xs := xs) (ys := [3]) HN.out rfl rfl hown2 hgrow2 qM
 have HA2 : Hid (App base w (.slice A N cp) xs [3] w2 (.slice (some ⟨g, 0, none⟩) (N + 1) cap)) := aa (oL.out.pre (((App.alloc (by have h := oL.out.1; rwa [List.append_nil] at h) _)).pre HA1))
 have hb2 : base ≤ w2.heap.size := Nat.le_trans hbase HA2.out.2.1.size
 have e0 := HA1.cell (cell_below c0 (ai _ _)) hlt
 have e1 := HA1.cell (cell_below c1 (ai _ _)) hlt
 have e2 := HA1.cell (cell_below c2 (ai _ _)) hlt
 have e3 := HA1.cell (cell_below c3 (ai _ _)) hlt
 rw [Nat.zero_add] at e1 e2 e3
 have hne2 : (Value.slice (some ⟨g, 0, none⟩) (N + 1) cap).ownBlock ≠ some w.heap.size := fun e => by
  rcases HA1.2.2 with e5 | e5
  · exact hlt (e5 ▸ e)
  · have h5 := e5 _ e; simp at h5; have := Pp.out; omega
 clear c0 c1 c2 c3 hown hown2 hgrow2 qM HA1 HC HW
 have u1 : IntKind.u64.wrap (n : Int) = (n : Int) := by simp [IntKind.wrap, IntKind.bits, IntKind.signed]; omega
 go_wp2_with fail
 refine (mV base _ (xs ++ [3]) (N + 1) n 4 (Or.inl rfl) (aa (by rw [List.length_append, HN.out]; rfl)) (by omega) _ (aa HA2.out.1) hb2).mono ?_
 rintro e w3 ⟨v3, rfl, FU⟩
 have f3 := FU.cell e3 hne2
 have Bn : Hid (App base w (.slice A N cp) xs (3 :: si 4 n) w3 v3) := aa (HA2.out.trans FU)
 clear FU HA2 e0 e1 e2 e3
 have KC : Hid (App base w (.slice A N cp) xs ((3 :: si 4 n) ++ iw (l.take 0)) w3 v3) := aa (by rw [List.take_zero]; simpa [iw] using Bn.out)
 clear Bn
 go_wp2_with fail
 clear f3
 go_loopw [0, 46] (fun p i u => ∃ k : Nat, k ≤ n ∧ i = .int .i64 k ∧ Hid (App base w (.slice A N cp) xs ((3 :: si 4 n) ++ iw (l.take k)) u p)) (fun _ i _ => n - (intOf i).toNat)
 case atStart => exact ⟨0, by omega, rfl, KC⟩
 case round =>
  obtain ⟨k, hk, rfl, HA⟩ := hrel
  by_cases hlk : k < n
  ·
   have hkl : k < l.length := by rw [hn.out]; exact hlk
   obtain ⟨b, o, hL, h4⟩ := h5.out k hkl
   subst hL
   have hbw := HA.out.below ho.out hw0.out Ma hw0.out.size
   have hle : (xs ++ ((3 :: si 4 (n : Int)) ++ iw (l.take k))).length + (enc (l.getD k default)).length ≤ 16384 := by
    have h := hsm.out
    have t1 := wU hkl
    have t2 := yK (l := l) (k := k + 1)
    rw [t1, List.length_append] at t2
    rw [lT, List.length_cons, List.length_append, jY] at h
    rw [List.length_append, List.length_append, List.length_cons, p_ (Or.inl rfl)]
    omega
   have hbs : base ≤ wr.heap.size := Nat.le_trans hbase HA.out.2.1.size
   have hstep := wU hkl
   obtain ⟨ic, hic⟩ : ∃ x, f k = x := ⟨_, rfl⟩
   obtain ⟨kd, nn, B', nb, cb', L', nl, cl'⟩ := ic
   obtain ⟨WX, TJ⟩ : ∃ u, wr.alloc (.cells #[.int .i64 kd, .int .i64 nn, .slice B' nb cb', .slice L' nl cl'] 109) = u := ⟨_, rfl⟩
   have Us : Hid (App base w (.slice A N cp) xs ((3 :: si 4 n) ++ iw (l.take k)) WX u0) := aa (by
    have h := HA.out.trans (App.alloc HA.out.1 (.cells #[.int .i64 kd, .int .i64 nn, .slice B' nb cb', .slice L' nl cl'] 109))
    rw [List.append_nil] at h
    rwa [← TJ])
   have Ro : Below w0.heap.size w0 WX := Us.out.below ho.out hw0.out Ma hw0.out.size
   have U9 : base ≤ WX.heap.size := by rw [← TJ]; simp; omega
   have sV := SI.out k hkl WX u0 _ Ro Us.out.1 U9 hle
   rw [hic] at h4 sV
   have HC : Hid (Calls Tryz.prog 162 #[u0, .agg #[.int .i64 kd, .int .i64 nn, .slice B' nb cb', .slice L' nl cl']] WX (ni base u0 (xs ++ ((3 :: si 4 (n : Int)) ++ iw (l.take k))) (enc (l.getD k default)) WX)) := aa sV
   obtain ⟨I7, Y_, Y9, Y8⟩ := (h4.below hbw).get
   obtain ⟨et, het⟩ : ∃ x, enc (l.getD k default) = x := ⟨_, rfl⟩
   rw [het] at HC hstep
   have HST := aa hstep
   have X_ := aa TJ
   clear hkl h4 hbw hle hstep hic TJ Ro sV het HA
   go_wp2_with fail
   rw [X_.out]
   refine HC.out.mono ?_
   rintro e w5 ⟨v5, rfl, Xy⟩
   have Ut : Hid (App base w (.slice A N cp) xs ((3 :: si 4 n) ++ iw (l.take (k + 1))) w5 v5) := aa (by
    rw [HST.out, ← List.append_assoc]
    exact Us.out.trans Xy)
   clear Xy HC Us I7 Y_ Y9 Y8 X_
   go_wp2
   go_roundw
   case rel => exact ⟨k + 1, by omega, by go_num, Ut⟩
   case measure => simp [intOf]; omega
  ·
   have HF : Hid (App base w (.slice A N cp) xs (enc (.lst l)) wr u0) := aa (by
    have h := HA.out
    rw [show k = l.length by rw [hn.out]; omega, List.take_length] at h
    rw [lT, hn.out]
    exact h)
   clear HA
   go_wp2
   go_ret
   exact ⟨_, rfl, HF.out⟩
theorem EK : ∀ (d : Nat) (i : It) (c : Ic) (w0 w : World) (base : Nat) (v : Value) (xs : List Int), fits d i → qi w0 i c → Below w0.heap.size w0 w → w0.heap.size ≤ base → bW .u8 5 w base v xs → base ≤ w.heap.size → xs.length + (enc i).length ≤ 16384 →
  Calls Tryz.prog 162 #[v, c.val] w (ni base v xs (enc i) w) := by
 intro d
 induction d with
 | zero =>
  intro i c w0 w base v xs hf hr hw hwb ho hb hl
  obtain ⟨kd, nn, B, nb, cb, L, nl, cl⟩ := c
  cases hr with
  | int n _ h1 h2 h3 h4 =>
   dsimp only at h1 h2 h3 h4
   subst h1; subst h2; subst h3; subst h4
   exact vV nn hf.1 hf.2 B cb L cl w base v xs (aa ho) hb hl
  | byt b _ h1 h2 h3 h4 h5 =>
   dsimp only at h1 h2 h3 h4 h5
   subst h1; subst h2; subst h4; subst h3
   obtain ⟨b', o', rfl, _⟩ := h5.at0 hf.1.1
   rw [jX, List.length_cons, List.length_append, jY] at hl
   exact vW b b.length (aa rfl) hf.1.1 b' o' cb L cl w0 w base v xs (aa h5) (aa hw) hwb (aa ho) hb (by omega)
  | lst l _ h1 h2 h3 h4 f h5 h6 => exact absurd hf (by simp [fits])
 | succ d ih =>
  intro i c w0 w base v xs hf hr hw hwb ho hb hl
  obtain ⟨kd, nn, B, nb, cb, L, nl, cl⟩ := c
  cases hr with
  | int n _ h1 h2 h3 h4 =>
   dsimp only at h1 h2 h3 h4
   subst h1; subst h2; subst h3; subst h4
   exact vV nn hf.1 hf.2 B cb L cl w base v xs (aa ho) hb hl
  | byt b _ h1 h2 h3 h4 h5 =>
   dsimp only at h1 h2 h3 h4 h5
   subst h1; subst h2; subst h4; subst h3
   obtain ⟨b', o', rfl, _⟩ := h5.at0 hf.1.1
   rw [jX, List.length_cons, List.length_append, jY] at hl
   exact vW b b.length (aa rfl) hf.1.1 b' o' cb L cl w0 w base v xs (aa h5) (aa hw) hwb (aa ho) hb (by omega)
  | lst l _ h1 h2 h3 h4 f h5 h6 =>
   dsimp only at h1 h2 h3 h4 h5
   subst h1; subst h2; subst h3; subst h4
   refine EJ l l.length (aa rfl) hf.1 f B cb L cl w0 w base v xs (aa h5) (aa h6) (aa hw) hwb (aa ho) hb (aa hl) ?_
   intro k hk w' v' ys hw' ho' hb' hl'
   exact ih _ (f k) w0 w' base v' ys (hf.2 _ (by rw [List.getD_eq_getElem?_getD, List.getElem?_eq_getElem hk]; exact List.getElem_mem hk)) (h6 k hk) hw' hwb ho' hb' hl'
def NG (ys : List Int) (w : World) (e : Ending) (w' : World) : Prop := ∃ v, e = .returned (.tuple #[v, .int .i64 0]) ∧ bW .u8 5 w' w.heap.size v ys ∧ Below w.heap.size w w'
theorem uP (i : It) (c : Ic) (w : World) (hf : fits 8 i) (hr : qi w i c) (hl : (enc i).length ≤ 16384) :
  Calls Tryz.prog 140 #[c.val] w (NG (enc i) w) := by
 have HV := aa (CR i c (w.alloc (pK c)) hf (hr.kept (ai _ _)))
 have hF := jG w c
 have HE : Hid (∀ u, Below (w.alloc (pK c)).heap.size (w.alloc (pK c)) u → Calls Tryz.prog 162 #[.slice none 0 0, c.val] u (ni u.heap.size (.slice none 0 0) [] (enc i) u)) := aa (fun u hu =>
  EK 8 i c w u u.heap.size (.slice none 0 0) [] hf hr (af (ai _ _) hu) (by have := hu.size; simp at this; omega) (zU _ _) (Nat.le_refl _) (by simpa using hl))
 obtain ⟨ys, hys⟩ : ∃ ys, enc i = ys := ⟨_, rfl⟩
 rw [hys] at HE hl ⊢
 obtain ⟨kd, nn, B, nb, cb, L, nl, cl⟩ := c
 obtain ⟨W, hW⟩ : ∃ W, w.alloc (pK ⟨kd, nn, B, nb, cb, L, nl, cl⟩) = W := ⟨_, rfl⟩
 rw [hW] at HV HE hF
 have dR : Hid (Below w.heap.size w W) := aa (by rw [← hW]; exact ai _ _)
 have HF := aa hF
 have HW : Hid (w.alloc (.cells #[.int .i64 kd, .int .i64 nn, .slice B nb cb, .slice L nl cl] 109) = W) := aa hW
 show Calls Tryz.prog 140 #[.agg #[.int .i64 kd, .int .i64 nn, .slice B nb cb, .slice L nl cl]] w (NG ys w)
 obtain ⟨c0, c1, c2, c3⟩ := hF.get
 clear hf hr hys hW hF
 go_in
 go_wp2_with fail
 rw [HW.out]
 refine HV.out.mono ?_
 rintro e w2 ⟨rfl, hb0⟩
 obtain ⟨d0, d1, d2, d3⟩ := (HF.out.below hb0).get
 have HE2 := aa (HE.out w2 hb0)
 have HB2 := aa (af dR.out hb0)
 clear c0 c1 c2 c3 hb0 HE HV HW
 go_wp2_with fail
 refine HE2.out.mono ?_
 rintro e w3 ⟨v3, rfl, FU⟩
 have qW : Hid (bW .u8 5 w3 w2.heap.size v3 ys) := aa (by have h := FU.1; rwa [List.nil_append] at h)
 have HB3 : Hid (Below w.heap.size w w3) := aa (FU.below (B := w.heap.size) (zU _ _) HB2.out HB2.out.size HB2.out.size)
 have hz : w.heap.size ≤ w2.heap.size := HB2.out.size
 clear FU HE2 d0 d1 d2 d3
 obtain ⟨A, cp, rfl, -, -, -⟩ := qW.out.sk
 obtain ⟨N, hN⟩ : ∃ n, ys.length = n := ⟨_, rfl⟩
 rw [hN] at hl qW ⊢
 clear hN
 have t1 : ¬ 16384 < N := by omega
 go_wp2
 go_ret2
 exact ⟨_, rfl, qW.out.mono hz, HB3.out⟩
def bf (c : Ic) : List Value := [.int .i64 c.kind, .int .i64 c.n, .slice c.B c.nb c.cb, .slice c.L c.nl c.cl]
theorem pI : (Tryz.prog.info? 109).map (fun i => (i.zero, i.size, i.bytes)) = some (some (.agg #[.int .i64 0, .int .i64 0, .slice none 0 0, .slice none 0 0]), 4, 64) := by kernel_rfl
theorem uI (w : World) (a j : Nat) (v : Value) : w.grownBy (w.setCell ⟨a, j, none⟩ v) (some a) :=
 ⟨rfl, rfl, rfl, by simp [World.setCell], fun k hk hne => by
  have : a ≠ k := fun e => hne (by rw [e])
  simp [World.setCell, Array.getElem?_modify, this]⟩
theorem lN {w w1 : World} {row : Option Nat} {p : Addr} {v : Value} (h : Own w p v) (hg : w.grownBy w1 row) (hne : row ≠ some p.block) : Own w1 p v := by
 have hlt := World.block_lt_of_cell? _ _ h.1
 exact ⟨by rw [hg.cell_far _ hlt (Ne.symm hne)]; exact h.1, by rw [hg.frozen_far _ hlt (Ne.symm hne)]; exact h.2⟩
theorem mO {w : World} {p q : Addr} {v u : Value} (h : Own w p v) (hne : q ≠ p) : Own (w.setCell q u) p v :=
 ⟨by rw [World.cell?_setCell_other _ _ _ _ hne]; exact h.1, by rw [World.frozen?_setCell]; exact h.2⟩
theorem jT {w : World} {p : Addr} {v u : Value} (h : Own w p v) : Own (w.setCell p u) p u :=
 ⟨World.cell?_setCell_same _ _ _ h.1, by rw [World.frozen?_setCell]; exact h.2⟩
theorem bM {P : Program} {fn : Func} {p : Tmp} {ty : TypeId} (h : fn.results = #[.cell p ty]) (tmps : Array Value) (w : World) (a : Addr) (v : Value)
  (hp : tmps.getD p undef = .pointer (some a)) (hl : (loadVar ty a).run P w = .ok v w) : (results fn tmps).run P w = .ok v w := by
 have hp' : tmps[p]?.getD undef = .pointer (some a) := by simpa using hp
 simp [results, h, hp', asAddr, hl]
def f_ (w : World) (base : Nat) (v : Value) (cs : List Ic) : Prop := w.ownsRow base 109 4 v cs.length (cs.flatMap bf)
instance Xc : Inhabited Ic := ⟨⟨0, 0, none, 0, 0, none, 0, 0⟩⟩
theorem JQ (cs : List Ic) (k r : Nat) (hr : r < 4) (hk : k < cs.length) : (cs.flatMap bf)[k * 4 + r]? = (bf (cs.getD k default))[r]? := by
 induction cs generalizing k with
 | nil => simp at hk
 | cons c cs ih =>
  cases k with
  | zero =>
   rw [List.flatMap_cons, Nat.zero_mul, Nat.zero_add, List.getElem?_append_left (by simpa [bf] using hr)]
   rfl
  | succ k =>
   rw [List.flatMap_cons, List.getElem?_append_right (by simp [bf]; omega)]
   rw [show (k + 1) * 4 + r - (bf c).length = k * 4 + r by simp [bf]; omega]
   rw [ih k (by simpa using hk)]
   rfl
theorem f_.four {w : World} {base : Nat} {v : Value} {cs : List Ic} (h : f_ w base v cs) (h0 : 0 < cs.length) : ∃ g cap, v = .slice (some ⟨g, 0, none⟩) cs.length cap ∧ base ≤ g ∧ cs.length ≤ cap ∧ ∀ k, k < cs.length → Four w g (0 + k * 4) (cs.getD k default) := by
 obtain ⟨h1, h2⟩ := h
 rcases h2 with ⟨_, h3⟩ | ⟨g, cap, cur, rfl, hg, hh, hn, hc, hs, ht⟩
 · omega
 ·
  refine ⟨g, cap, rfl, hg, hn, fun k hk => ?_⟩
  have key : ∀ r, r < 4 → w.cell? ⟨g, k * 4 + r, none⟩ = (bf (cs.getD k default))[r]? := fun r hr => by
   rw [aj hh, ← Array.getElem?_toList, ← JQ cs k r hr hk, ← ht, List.getElem?_take_of_lt (by omega)]
  rw [Nat.zero_add]
  exact ⟨key 0 (by omega), key 1 (by omega), key 2 (by omega), key 3 (by omega)⟩
theorem Ir (w : World) (base : Nat) : f_ w base (.slice none 0 0) [] := World.ownsRow_nil _ _ _ _
theorem f_.len {w : World} {base : Nat} {v : Value} {cs : List Ic} (h : f_ w base v cs) : ∃ A cap, v = .slice A cs.length cap := by
 by_cases h0 : 0 < cs.length
 ·
  obtain ⟨g, cap, e, _⟩ := h.four h0
  exact ⟨_, cap, e⟩
 ·
  obtain ⟨_, h2⟩ := h
  rcases h2 with ⟨hv, _⟩ | ⟨g, cap, cur, hv, _⟩
  · exact ⟨none, 0, by rw [hv]; congr 1; omega⟩
  · exact ⟨_, cap, hv⟩
theorem f_.keep {w w' : World} {B : Nat} {v : Value} {xs : List Ic} (h : f_ w B v xs) (hb : Below w.heap.size w w') : f_ w' B v xs := by
 obtain ⟨h1, h2⟩ := h
 refine ⟨h1, h2.imp id ?_⟩
 rintro ⟨g, cap, cur, rfl, hg, hh, rest⟩
 exact ⟨g, cap, cur, rfl, hg, (hb.block g (Array.getElem?_eq_some_iff.1 hh).1).trans hh, rest⟩
theorem f_.app {w1 : World} {base k : Nat} {v' : Value} {xs : List Ic} {c : Ic} (hk : k = xs.length)
  (h : w1.ownsRow base 109 4 v' (k + 1) (xs.flatMap bf ++ bf c)) : f_ w1 base v' (xs ++ [c]) := by
 unfold f_
 rw [List.length_append, List.flatMap_append, List.length_singleton, ← hk]
 simpa using h
theorem f_.no {w : World} {base a : Nat} {v : Value} {cs : List Ic} (h : f_ w base v cs) (ha : a < base) : v.ownBlock ≠ some a := fun e => by
 have := (World.ownsRow.lt h _ e).1
 omega
theorem f_.set {w : World} {base a j : Nat} {v u : Value} {cs : List Ic} (h : f_ w base v cs) (ha : a < base) : f_ (w.setCell ⟨a, j, none⟩ u) base v cs :=
 World.ownsRow.kept h (uI w a j u) (Or.inr (h.no ha))
def jD (n : Int) : Ic := ⟨1, n, none, 0, 0, none, 0, 0⟩
theorem Cn {l : List Int} {k : Nat} (hk : k < l.length) : (l.take (k + 1)).map jD = (l.take k).map jD ++ [jD (l.getD k 0)] := by
 rw [take_one hk, List.map_append]; rfl
def Ny (i : It) (w : World) (e : Ending) (w' : World) : Prop := ∃ c : Ic, e = .returned c.val ∧ qi w' i c ∧ Below w.heap.size w w'
theorem IY {w : World} {base : Nat} {v : Value} {l : List Int} (h : f_ w base v (l.map jD)) : ∃ L cl, v = .slice L l.length cl ∧ qi w (.lst (l.map .int)) ⟨3, 0, none, 0, 0, L, l.length, cl⟩ := by
 by_cases h0 : 0 < l.length
 ·
  obtain ⟨g, cap, e, _, _, hf⟩ := h.four (by rw [List.length_map]; exact h0)
  rw [List.length_map] at e hf
  refine ⟨_, cap, e, .lst _ _ rfl rfl rfl (by rw [List.length_map]) (fun k => jD (l.getD k 0)) (fun k hk => ⟨g, 0, rfl, ?_⟩) (fun k hk => ?_)⟩
  ·
   rw [List.length_map] at hk
   have := hf k hk
   have e2 : (l.map jD).getD k default = jD (l.getD k 0) := by
    simp [List.getD_eq_getElem?_getD, List.getElem?_eq_getElem hk]
   rwa [e2] at this
  ·
   rw [List.length_map] at hk
   have e2 : (l.map It.int).getD k default = It.int (l.getD k 0) := by
    simp [List.getD_eq_getElem?_getD, List.getElem?_eq_getElem hk]
   rw [e2]
   exact .int _ _ rfl rfl rfl rfl
 ·
  have e : l = [] := List.eq_nil_of_length_eq_zero (by omega)
  subst e
  obtain ⟨L, cl, hv⟩ := h.len
  exact ⟨L, cl, hv, .lst [] _ rfl rfl rfl rfl (fun _ => default) (fun k hk => absurd hk (by simp)) (fun k hk => absurd hk (by simp))⟩
def TU (lo : Nat) (w : World) (i : It) (c : Ic) : Prop := ∀ w' : World, (∀ b, lo ≤ b → b < w.heap.size → w'.heap[b]? = w.heap[b]?) → qi w' i c
theorem TU.it {lo : Nat} {w : World} {i : It} {c : Ic} (h : TU lo w i c) : qi w i c := h w fun _ _ _ => rfl
theorem BV {w w' : World} {B : Nat} {v : Value} {cs : List Ic} (h : f_ w B v cs) (hw : ∀ b, B ≤ b → b < w.heap.size → w'.heap[b]? = w.heap[b]?) : f_ w' B v cs := by
 obtain ⟨h1, h2⟩ := h
 refine ⟨h1, h2.imp id ?_⟩
 rintro ⟨g, cap, cur, rfl, hg, hh, rest⟩
 exact ⟨g, cap, cur, rfl, hg, (hw g hg (Array.getElem?_eq_some_iff.1 hh).1).trans hh, rest⟩
def Dg (i : It) (w : World) (e : Ending) (w' : World) : Prop := ∃ c : Ic, e = .returned c.val ∧ TU w.heap.size w' i c ∧ Below w.heap.size w w'
theorem Dg.it {i : It} {w w' : World} {e : Ending} (h : Dg i w e w') : Ny i w e w' := by
 obtain ⟨c, h1, h2, h3⟩ := h
 exact ⟨c, h1, h2.it, h3⟩
theorem IX {w : World} {base lo : Nat} {L : Option Addr} {n cl : Nat} {l : List Int} (h : f_ w base (.slice L n cl) (l.map jD)) (hlo : lo ≤ base) : TU lo w (.lst (l.map .int)) ⟨3, 0, none, 0, 0, L, l.length, cl⟩ := fun w' hw => by
 obtain ⟨L', cl', e, hr⟩ := IY (BV h fun b h1 h2 => hw b (by omega) h2)
 simp only [Value.slice.injEq] at e
 obtain ⟨rfl, _, rfl⟩ := e
 exact hr
theorem FK (A : Option Addr) (l : List Int) (n c : Nat) (hn : Hid (l.length = n)) (hbig : n ≤ 1000000) (w : World) (hs : Hid (Sl w A l)) :
  Calls Tryz.prog 75 #[.slice A n c] w (Dg (.lst (l.map .int)) w) := by
 obtain ⟨i0, hi, hz0, hz1, hz2⟩ := info_parts pI
 obtain ⟨W, hW⟩ : ∃ W, (w.alloc (.cells #[.int .i64 0, .int .i64 0, .slice none 0 0, .slice none 0 0] 109)).alloc (.cells #[.int .i64 3, .int .i64 0, .slice none 0 0, .slice none 0 0] 109) = W := ⟨_, rfl⟩
 have dR : Hid (Below w.heap.size w W) := aa (by rw [← hW]; exact aB (Below.refl _ _))
 have qj : Hid (W.heap.size = w.heap.size + 2) := aa (by rw [← hW]; simp)
 have hF : Four W (w.heap.size + 1) 0 ⟨3, 0, none, 0, 0, none, 0, 0⟩ := by
  rw [← hW]
  have h := heap_alloc2_new w (.cells #[.int .i64 0, .int .i64 0, .slice none 0 0, .slice none 0 0] 109) (.cells #[.int .i64 3, .int .i64 0, .slice none 0 0, .slice none 0 0] 109)
  exact ⟨aj h 0, aj h 1, aj h 2, aj h 3⟩
 have hf0 : ∀ j, W.frozen? ⟨w.heap.size + 1, j, none⟩ = false := by
  rw [← hW]
  exact fun j => aS (heap_alloc2_new _ _ _) j
 have HG : Hid ((Four W w.heap.size 0 ⟨0, 0, none, 0, 0, none, 0, 0⟩) ∧ ∀ j, W.frozen? ⟨w.heap.size, j, none⟩ = false) := aa (by
  rw [← hW]
  have h := heap_alloc2_old w (.cells #[.int .i64 0, .int .i64 0, .slice none 0 0, .slice none 0 0] 109) (.cells #[.int .i64 3, .int .i64 0, .slice none 0 0, .slice none 0 0] 109)
  exact ⟨⟨aj h 0, aj h 1, aj h 2, aj h 3⟩, fun j => aS h j⟩)
 have M8 : Hid (W.heap[w.heap.size]? = some (.cells #[.int .i64 0, .int .i64 0, .slice none 0 0, .slice none 0 0] 109 (0, 0))) := aa (by rw [← hW]; exact heap_alloc2_old w _ _)
 have HS := aa hs.out
 have HW := aa hW
 have HX : Hid (Own W ⟨w.heap.size + 1, 0, none⟩ (.int .i64 3) ∧ Own W ⟨w.heap.size + 1, 1, none⟩ (.int .i64 0) ∧ Own W ⟨w.heap.size + 1, 2, none⟩ (.slice none 0 0)) := aa ⟨⟨hF.1, hf0 0⟩, ⟨hF.2.1, hf0 1⟩, ⟨hF.2.2.1, hf0 2⟩⟩
 have HL : Hid (Own W ⟨w.heap.size + 1, 3, none⟩ (.slice none 0 0)) := aa ⟨hF.2.2.2, hf0 3⟩
 clear hW hs hF hf0
 go_in
 go_wp2
 rw [HW.out]
 go_loopw [9] (fun i u => ∃ (k : Nat) (v : Value), k ≤ n ∧ i = .int .i64 k ∧ Hid (Own u ⟨w.heap.size + 1, 3, none⟩ v) ∧ Hid (f_ u (w.heap.size + 2) v ((l.take k).map jD)) ∧ Hid (Own u ⟨w.heap.size + 1, 0, none⟩ (.int .i64 3) ∧ Own u ⟨w.heap.size + 1, 1, none⟩ (.int .i64 0) ∧ Own u ⟨w.heap.size + 1, 2, none⟩ (.slice none 0 0)) ∧ Hid (Below (w.heap.size + 1) W u)) (fun i _ => n - (intOf i).toNat)
 case atStart => exact ⟨0, _, by omega, rfl, HL, aa (Ir _ _), HX, aa (Below.refl _ _)⟩
 case round =>
  obtain ⟨k, v, hk, rfl, HV, HO, m_, aF⟩ := hrel
  by_cases hlt : k < n
  ·
   have hkl : k < l.length := by rw [hn.out]; exact hlt
   obtain ⟨b, o, hA, hc⟩ := (HS.out.below (dR.out.trans (aF.out.mono (Nat.le_succ _)))) k hkl
   subst hA
   have Et := aa (Cn hkl)
   obtain ⟨x, hx⟩ : ∃ x, l.getD k 0 = x := ⟨_, rfl⟩
   rw [hx] at hc Et
   have vB : Hid (((l.take k).map jD).length = k) := aa (by rw [List.length_map, List.length_take]; omega)
   have hown : wr.ownsRow (w.heap.size + 2) 109 4 v k (((l.take k).map jD).flatMap bf) := by have h := HO.out; unfold f_ at h; rwa [vB.out] at h
   have hbs : w.heap.size + 2 ≤ wr.heap.size := by have := aF.out.size; have := qj.out; omega
   have hno : v.ownBlock ≠ some (w.heap.size + 1) := HO.out.no (by omega)
   obtain ⟨v3, YT⟩ := HV.out
   have MS := aa (HV.out.below (ai wr (.cells #[.int .i64 1, .int .i64 x, .slice none 0 0, .slice none 0 0] 109)))
   have b1 : k + 1 ≤ maxLen := by unfold maxLen; omega
   have b2 : (k + 1) * 64 ≤ 140737488355328 := by omega
   have b3 : w.heap.size + 2 ≤ (wr.alloc (.cells #[.int .i64 1, .int .i64 x, .slice none 0 0, .slice none 0 0] 109)).heap.size := by simp; omega
   clear hx hkl
   go_wp2_with (at_builtin; refine wpList_append_lies rfl _ _ 107 rfl (w.heap.size + 2) 109 i0 (.agg #[.int .i64 0, .int .i64 0, .slice none 0 0, .slice none 0 0]) 4 64 Tryz.underlying107 hi hz0 hz1 hz2 rfl (by decide) _ _ _ rfl (hown.alloc _) ⟨wr.heap.size, 0, none⟩ 1 1 [.int .i64 1, .int .i64 x, .slice none 0 0, .slice none 0 0] rfl rfl (World.news_of_block (cs := #[.int .i64 1, .int .i64 x, .slice none 0 0, .slice none 0 0]) (t := 109) (fr := (0, 0)) (heap_alloc_new wr _)) (by simp [Value.oneCell']) (by decide) b1 b2 b3 _ rfl ?_; intro g2 cap2 w2 hown2 hgrow2 qM hlt2; obtain ⟨q1, q2⟩ := lN MS.out hgrow2 hno)
   obtain ⟨v', hv'⟩ : ∃ v', Value.slice (some ⟨g2, 0, none⟩) (k + 1) cap2 = v' := ⟨_, rfl⟩
   rw [hv'] at hown2
   have Pn := aa hv'
   clear hv' qM hlt2
   rw [Pn.out]
   have HB2 : Hid (Below (w.heap.size + 1) W w2) := aa ((aF.out.alloc (by omega) _).grown hgrow2 (by simp; omega) (fun j hj => by have := (World.ownsRow.lt hown j hj).1; omega))
   have sH : Hid (f_ w2 (w.heap.size + 2) v' ((l.take (k + 1)).map jD)) := aa (by
    rw [Et.out]
    exact f_.app vB.out.symm hown2)
   have a0 := lN (m_.out.1.below (ai wr (.cells #[.int .i64 1, .int .i64 x, .slice none 0 0, .slice none 0 0] 109))) hgrow2 hno
   have a1 := lN (m_.out.2.1.below (ai wr (.cells #[.int .i64 1, .int .i64 x, .slice none 0 0, .slice none 0 0] 109))) hgrow2 hno
   have a2 := lN (m_.out.2.2.below (ai wr (.cells #[.int .i64 1, .int .i64 x, .slice none 0 0, .slice none 0 0] 109))) hgrow2 hno
   have ze : Hid (Own (w2.setCell ⟨w.heap.size + 1, 3, none⟩ v') ⟨w.heap.size + 1, 3, none⟩ v') := aa (jT ⟨q1, q2⟩)
   have sG : Hid (f_ (w2.setCell ⟨w.heap.size + 1, 3, none⟩ v') (w.heap.size + 2) v' ((l.take (k + 1)).map jD)) := aa (sH.out.set (by omega))
   have Ki : Hid (Own (w2.setCell ⟨w.heap.size + 1, 3, none⟩ v') ⟨w.heap.size + 1, 0, none⟩ (.int .i64 3) ∧ Own (w2.setCell ⟨w.heap.size + 1, 3, none⟩ v') ⟨w.heap.size + 1, 1, none⟩ (.int .i64 0) ∧ Own (w2.setCell ⟨w.heap.size + 1, 3, none⟩ v') ⟨w.heap.size + 1, 2, none⟩ (.slice none 0 0)) :=
    aa ⟨mO a0 (by simp), mO a1 (by simp), mO a2 (by simp)⟩
   have gI : Hid (Below (w.heap.size + 1) W (w2.setCell ⟨w.heap.size + 1, 3, none⟩ v')) := aa (HB2.out.setCell (Nat.le_refl _) _)
   clear b1 b2 b3 hown hown2 hgrow2 HO m_ HV v3 YT q1 q2 a0 a1 a2 HB2 sH MS hc
   go_roundw
   case rel => exact ⟨k + 1, v', by omega, by go_num, ze, sG, Ki, gI⟩
   case measure => simp [intOf]; omega
  ·
   have zy : Hid (f_ wr (w.heap.size + 2) v (l.map jD)) := aa (by
    have h := HO.out
    rwa [List.take_of_length_le (by have := hn.out; omega)] at h)
   obtain ⟨L, cl, XJ⟩ := zy.out.len
   rw [List.length_map, hn.out] at XJ
   subst XJ
   obtain ⟨p0, p0f⟩ := m_.out.1
   obtain ⟨p1, p1f⟩ := m_.out.2.1
   obtain ⟨p2, p2f⟩ := m_.out.2.2
   obtain ⟨p3, p3f⟩ := HV.out
   have iq := HG.out
   have r0 := (aF.out.cell (p := ⟨w.heap.size, 0, none⟩) (Nat.lt_succ_self _)).trans HG.out.1.1
   have r1 := (aF.out.cell (p := ⟨w.heap.size, 1, none⟩) (Nat.lt_succ_self _)).trans HG.out.1.2.1
   have r2 := (aF.out.cell (p := ⟨w.heap.size, 2, none⟩) (Nat.lt_succ_self _)).trans HG.out.1.2.2.1
   have r3 := (aF.out.cell (p := ⟨w.heap.size, 3, none⟩) (Nat.lt_succ_self _)).trans HG.out.1.2.2.2
   have z0 := (aF.out.frozen (p := ⟨w.heap.size, 0, none⟩) (Nat.lt_succ_self _)).trans (HG.out.2 0)
   have z1 := (aF.out.frozen (p := ⟨w.heap.size, 1, none⟩) (Nat.lt_succ_self _)).trans (HG.out.2 1)
   have z2 := (aF.out.frozen (p := ⟨w.heap.size, 2, none⟩) (Nat.lt_succ_self _)).trans (HG.out.2 2)
   have z3 := (aF.out.frozen (p := ⟨w.heap.size, 3, none⟩) (Nat.lt_succ_self _)).trans (HG.out.2 3)
   have zB := aa (dR.out.trans (aF.out.mono (Nat.le_succ _)))
   clear m_ HV HO iq
   obtain ⟨WF, Rx⟩ : ∃ u, (((wr.setCell ⟨w.heap.size, 0, none⟩ (.int .i64 3)).setCell ⟨w.heap.size, 1, none⟩ (.int .i64 0)).setCell ⟨w.heap.size, 2, none⟩ (.slice none 0 0)).setCell ⟨w.heap.size, 3, none⟩ (.slice L n cl) = u := ⟨_, rfl⟩
   have hgB : WF.heap[w.heap.size]? = some (.cells #[.int .i64 3, .int .i64 0, .slice none 0 0, .slice L n cl] 109 (0, 0)) := by
    have h0 := (aF.out.block w.heap.size (Nat.lt_succ_self _)).trans M8.out
    rw [← Rx, heap_setCell_same _ _ _ _ _ _ (heap_setCell_same _ _ _ _ _ _ (heap_setCell_same _ _ _ _ _ _ (heap_setCell_same _ _ _ _ _ _ h0)))]
    rfl
   have oI : Hid (f_ WF (w.heap.size + 2) (.slice L n cl) (l.map jD)) := aa (by
    rw [← Rx]
    exact (((zy.out.set (by omega)).set (by omega)).set (by omega)).set (by omega))
   have fH : Hid (Below w.heap.size w WF) := aa (by
    rw [← Rx]
    exact (((zB.out.setCell (Nat.le_refl _) _).setCell (Nat.le_refl _) _).setCell (Nat.le_refl _) _).setCell (Nat.le_refl _) _)
   have Oy := IX (lo := w.heap.size) oI.out (by omega)
   rw [hn.out] at Oy
   have HIT := aa Oy
   have Wm : Kp ((loadVar 109 ⟨w.heap.size, 0, none⟩).run Tryz.prog WF = .ok (.agg #[.int .i64 3, .int .i64 0, .slice none 0 0, .slice L n cl]) WF) := ⟨run_loadVar_row _ _ _ _ _ _ _ hgB Tryz.underlying109 rfl (by kernel_rfl)⟩
   have HWF := aa Rx
   clear Oy zy oI hgB Rx
   go_wp2
   rw [HWF.out]
   exact bodyPost_ret (v := .agg #[.int .i64 3, .int .i64 0, .slice none 0 0, .slice L n cl]) (bM (p := 2) (ty := 109) rfl _ _ ⟨w.heap.size, 0, none⟩ _ rfl Wm.out) rfl ⟨⟨3, 0, none, 0, 0, L, n, cl⟩, rfl, HIT.out, fH.out⟩
theorem Ag (A : Option Addr) (l : List Int) (n c : Nat) (hn : Hid (l.length = n)) (hbig : n ≤ 1000000) (w : World) (hs : Hid (Sl w A l)) :
  Calls Tryz.prog 75 #[.slice A n c] w (Ny (.lst (l.map .int)) w) :=
 (FK A l n c hn hbig w hs).mono (fun _ _ h => h.it)
def nL (x : Int) : Bool := decide (x < 33) || decide (126 < x)
def jB (l : List Int) : Bool := decide (1 ≤ l.length) && decide (l.length ≤ 24) && !(l.any nL)
theorem Bb (x : Int) (w : World) : Calls Tryz.prog 102 #[.int .u8 x] w fun e w' => e = .returned (.bool (nL x)) ∧ w = w' := by
 by_cases h1 : x < 33
 ·
  have e : nL x = true := by simp [nL, h1]
  have d1 : decide (x < 33) = true := by simp [h1]
  rw [e]
  clear e
  go_in
  go_wp2
  go_ret
  exact ⟨rfl, rfl⟩
 ·
  have d1 : decide (x < 33) = false := by simp [h1]
  have e : nL x = decide (126 < x) := by simp [nL, h1]
  rw [e]
  clear e
  go_in
  go_wp2
  go_ret
  exact ⟨rfl, rfl⟩
theorem L9 (A : Option Addr) (xs : List Int) (n c : Nat) (hn : Hid (xs.length = n)) (hbig : n ≤ 100000) (w : World) (hs : Hid (Sk .u8 w A xs)) :
  Calls Tryz.prog 129 #[.slice A n c, .func (.func 102) #[] #[]] w (uX nL xs w) := by
 go_in
 go_wp2
 go_loopw [8] (fun i wr => ∃ k : Nat, k ≤ n ∧ i = .int .i64 k ∧ Hid (xs.any nL = (xs.drop k).any nL) ∧ Hid (Below w.heap.size w wr)) (fun i _ => n - (intOf i).toNat)
 case atStart => exact ⟨0, by omega, rfl, aa rfl, aa (Below.refl _ _)⟩
 case round =>
  obtain ⟨k, hk, rfl, HR, aF⟩ := hrel
  by_cases hlt : k < n
  ·
   have hkl : k < xs.length := by rw [hn.out]; exact hlt
   obtain ⟨b, o, hA, hi⟩ := (hs.out.below aF.out) k hkl
   subst hA
   cases hpx : nL (xs.getD k 0) with
   | false =>
    have HN : Hid (xs.any nL = (xs.drop (k + 1)).any nL) := aa (HR.out.trans (fZ hkl hpx))
    obtain ⟨x, hx⟩ : ∃ x, xs.getD k 0 = x := ⟨_, rfl⟩
    rw [hx] at hi hpx
    have ql := aa hpx
    clear hx hkl hpx HR
    go_wp2_with fail
    refine (Bb x _).mono ?_
    rintro e w2 ⟨rfl, rfl⟩
    rw [ql.out]
    go_wp2
    go_roundw
    case rel => exact ⟨k + 1, by omega, by go_num, HN, aF⟩
    case measure => simp [intOf]; omega
   | true =>
    have HN : Hid (xs.any nL = true) := aa (HR.out.trans (gZ hkl hpx))
    obtain ⟨x, hx⟩ : ∃ x, xs.getD k 0 = x := ⟨_, rfl⟩
    rw [hx] at hi hpx
    have ql := aa hpx
    clear hx hkl hpx HR
    go_wp2_with fail
    refine (Bb x _).mono ?_
    rintro e w2 ⟨rfl, rfl⟩
    rw [ql.out]
    go_wp2
    go_ret
    exact ⟨_, rfl, by rw [HN.out]; simp, aF.out⟩
  ·
   have HN : Hid (xs.any nL = false) := aa (by
    have h := HR.out
    rwa [List.drop_of_length_le (by have := hn.out; omega)] at h)
   clear HR
   go_wp2
   go_ret
   exact ⟨_, rfl, by rw [HN.out]; rfl, aF.out⟩
theorem O0 (A : Option Addr) (xs : List Int) (n c : Nat) (r : Bool) (hr : Hid (xs.any nL = r)) (hn : Hid (xs.length = n)) (hbig : n ≤ 100000) (w : World) (hs : Hid (Sk .u8 w A xs)) :
  Calls Tryz.prog 101 #[.slice A n c, .func (.func 102) #[] #[]] w (Rt w (.bool r)) := by
 go_in
 go_wp2_with fail
 refine (L9 A xs n c hn hbig _ hs).mono ?_
 rintro e w' ⟨i, rfl, hdi, hb0⟩
 have HD : Hid (decide (0 ≤ i) = r) := aa (hdi.trans hr.out)
 clear hdi
 go_wp2
 go_ret
 exact ⟨by first | rfl | (rw [← HD.out]; rfl), hb0⟩
theorem lC (s : ByteArray) (hs : s.size ≤ 1000) (r : Bool) (hr : Hid (jB (bP s) = r)) (w : World) :
  Calls Tryz.prog 57 #[.string s] w (Rt w (.bool r)) := by
 by_cases h1 : s.size < 1
 ·
  have e : r = false := by rw [← hr.out, jB, b_, decide_eq_false (by omega)]; rfl
  have d1 : decide ((1 : Int) ≤ (s.size : Int)) = false := by simp; omega
  subst e
  clear hr
  go_in
  go_wp2
  go_ret
  exact ⟨rfl, Below.refl _ _⟩
 ·
  have d1 : decide ((1 : Int) ≤ (s.size : Int)) = true := by simp; omega
  by_cases h2 : 24 < s.size
  ·
   have e : r = false := by rw [← hr.out, jB, b_, decide_eq_false (show ¬ s.size ≤ 24 by omega)]; simp
   have d2 : decide ((s.size : Int) ≤ 24) = false := by simp; omega
   subst e
   clear hr
   go_in
   go_wp2
   go_ret
   exact ⟨rfl, Below.refl _ _⟩
  ·
   have d2 : decide ((s.size : Int) ≤ 24) = true := by simp; omega
   obtain ⟨q, hq⟩ : ∃ q, (bP s).any nL = q := ⟨_, rfl⟩
   have e : r = !q := by rw [← hr.out, jB, b_, decide_eq_true (by omega), decide_eq_true (by omega), hq]; rfl
   subst e
   have HQ := aa hq
   have hcv := fun w => run_bytes_of_string (P := Tryz.prog) w 9 93 5 s Tryz.underlying9 Tryz.underlying93 Tryz.underlying5
   clear hr hq
   go_in
   go_wp2_with fail
   clear hcv
   obtain ⟨Wc, hWc⟩ : ∃ u, (w.alloc (.cells (bytesRow s (grownCap w s.size 0 5)) 5 ((bytesRow s (grownCap w s.size 0 5)).size, (bytesRow s (grownCap w s.size 0 5)).size + 1))).drew = u := ⟨_, rfl⟩
   have Bv : Hid (Below w.heap.size w Wc) := aa (by rw [← hWc]; exact (ai _ _).drew)
   have HSc : Hid (Sk .u8 Wc (some ⟨w.heap.size, 0, none⟩) (bP s)) := aa (by
    rw [← hWc]
    exact qP (heap_alloc_new w _))
   obtain ⟨gc, hgc⟩ : ∃ g, grownCap w s.size 0 5 = g := ⟨_, rfl⟩
   rw [hWc, hgc]
   clear hWc hgc
   refine (O0 (some ⟨w.heap.size, 0, none⟩) (bP s) s.size gc q HQ (aa (b_ s)) (by omega) _ HSc).mono ?_
   rintro e w2 ⟨rfl, hb2⟩
   have hbf := af Bv.out hb2
   clear hb2
   go_wp2
   go_ret
   exact ⟨by first | rfl | simp, hbf⟩
def yo (m : Int) (h : List Int) : Nat → Int
 | 0 => 0
 | k + 1 => (yo m h k * 256 + h.getD k 0) % m
def LG (m : Int) (h : List Int) : Int := yo m h 16
theorem ym {m : Int} {h : List Int} (hm : 1 ≤ m) (k : Nat) : 0 ≤ yo m h k ∧ yo m h k < m := by
 cases k with
 | zero => exact ⟨Int.le_refl _, by simp [yo]; omega⟩
 | succ k => exact ⟨Int.emod_nonneg _ (by omega), Int.emod_lt_of_pos _ (by omega)⟩
theorem JK {acc m a : Int} {j : Nat} (h : acc * 2 ^ j % m = a) : acc * 2 ^ (j + 1) % m = (a + a) % m := by
 rw [← h, Int.pow_succ, ← Int.mul_assoc, Int.mul_comm _ 2, Int.add_emod_emod, Int.emod_add_emod]
 congr 1
 omega
theorem Iw {acc m a c : Int} (h : acc * 2 ^ 8 % m = a) : (a + c % m) % m = (acc * 256 + c) % m := by
 rw [← h, Int.add_emod_emod, Int.emod_add_emod]
 rfl
theorem Cb (h : List Int) (hh : Hid (h.length = 32)) (hb : Hid (aH h = true)) (m : Int) (h1 : 1 ≤ m) (h2 : m < 2305843009213693952) (w : World) :
  Calls Tryz.prog 115 #[.agg (arr .u8 h), .int .i64 m] w (Rt w (.tuple #[.int .i64 (LG m h), .int .i64 0])) := by
 obtain ⟨W, hW⟩ : ∃ W, w.alloc (.cells (arr .u8 h) 32) = W := ⟨_, rfl⟩
 have dR : Hid (Below w.heap.size w W) := aa (by rw [← hW]; exact ai _ _)
 have dY : Hid (cK .u8 32 W w.heap.size h) := aa (by rw [← hW]; exact cK.new _ _)
 have HW := aa hW
 clear hW
 have hm0 : ((m : Int) == 0) = false := by simp; omega
 have hm1 : ¬ m < 1 := by omega
 have hm2 : ¬ 2305843009213693952 ≤ m := by omega
 go_in
 go_wp2
 rw [HW.out]
 go_loopw [6, 17] (fun p i u => ∃ (k : Nat) (acc : Int), k ≤ 16 ∧ i = .int .i64 k ∧ p = .int .i64 acc ∧ Hid (yo m h k = acc) ∧ Hid (Below W.heap.size W u)) (fun _ i _ => 16 - (intOf i).toNat)
 case atStart => exact ⟨0, 0, by omega, rfl, rfl, aa rfl, aa (Below.refl _ _)⟩
 case round =>
  obtain ⟨k, acc, hk, rfl, rfl, HN, aF⟩ := hrel
  have ha := ym (m := m) (h := h) h1 k
  rw [HN.out] at ha
  obtain ⟨a0, a1⟩ := ha
  by_cases hlt : k < 16
  ·
   have hc := (dY.out.below aF.out).cell (j := k) (by have := hh.out; omega)
   obtain ⟨c0, c1⟩ := iD hb.out k
   have hnx : yo m h (k + 1) = (acc * 256 + h.getD k 0) % m := by rw [yo, HN.out]
   obtain ⟨c, hcc⟩ : ∃ c, h.getD k 0 = c := ⟨_, rfl⟩
   rw [hcc] at hc c0 c1 hnx
   have lY := aa hnx
   clear hcc hnx
   have dk : decide ((k : Int) < 16) = true := by simp; omega
   go_wp2
   go_loopw [6, 21] (fun p i u => ∃ (j : Nat) (a : Int), j ≤ 8 ∧ i = .int .i64 j ∧ p = .int .i64 a ∧ Hid (acc * 2 ^ j % m = a) ∧ 0 ≤ a ∧ a < m ∧ Hid (Below W.heap.size W u)) (fun _ i _ => 8 - (intOf i).toNat)
   case atStart => exact ⟨0, acc, by omega, rfl, rfl, aa (by rw [Int.pow_zero, Int.mul_one]; exact Int.emod_eq_of_lt a0 a1), a0, a1, aF⟩
   case round =>
    obtain ⟨j, a, hj, rfl, rfl, HA, b0, b1, nG⟩ := hrel
    by_cases hlj : j < 8
    ·
     have HA2 := aa (JK HA.out)
     have e0 : 0 ≤ (a + a) % m := Int.emod_nonneg _ (by omega)
     have e1 : (a + a) % m < m := Int.emod_lt_of_pos _ (by omega)
     obtain ⟨q, hq⟩ : ∃ q, (a + a) % m = q := ⟨_, rfl⟩
     rw [hq] at e0 e1 HA2
     have HQ := aa hq
     clear hq HA
     go_wp2_with fail
     refine (J4 a a m h2 b0 b1 b0 b1 _).mono ?_
     rintro e w' ⟨rfl, rfl⟩
     rw [HQ.out]
     go_wp2
     go_roundw
     case rel => exact ⟨j + 1, q, by omega, by go_num, rfl, HA2, e0, e1, nG⟩
     case measure => simp [intOf]; omega
    ·
     have YQ : Hid (acc * 2 ^ 8 % m = a) := aa (by have h := HA.out; rwa [show j = 8 by omega] at h)
     have HE : Hid ((a + c % m) % m = (acc * 256 + c) % m) := aa (Iw YQ.out)
     have f0 : 0 ≤ c % m := Int.emod_nonneg _ (by omega)
     have f1 : c % m < m := Int.emod_lt_of_pos _ (by omega)
     obtain ⟨cm, hcm⟩ : ∃ x, c % m = x := ⟨_, rfl⟩
     rw [hcm] at f0 f1 HE
     obtain ⟨q, hq⟩ : ∃ q, (a + cm) % m = q := ⟨_, rfl⟩
     have KR : Hid (yo m h (k + 1) = q) := aa (by rw [lY.out, ← HE.out, hq])
     have HQ := aa hq
     clear hq HA YQ HE lY HN
     go_wp2_with fail
     refine (J4 a cm m h2 b0 b1 f0 f1 _).mono ?_
     rintro e w' ⟨rfl, rfl⟩
     rw [HQ.out]
     go_wp2
     go_roundw
     case rel => exact ⟨k + 1, q, by omega, by go_num, rfl, KR, nG⟩
     case measure => simp [intOf]; omega
  ·
   have HF : Hid (LG m h = acc) := aa (by have e := HN.out; rwa [show k = 16 by omega] at e)
   have hbf := af dR.out aF.out
   clear HN
   go_wp2
   go_ret2
   exact ⟨by rw [HF.out]; rfl, hbf⟩
def aT (h : List Int) (c : Int) : Array Value := arr .u8 h ++ #[.int .i64 c]
theorem yC : ∀ h : List Int, h.length = 32 → ∃ a0 a1 a2 a3 a4 a5 a6 a7 a8 a9 Pj Ph a12 Pg Pf Pe a16 a17 Pd Pb a20 a21 a22 a23 a24 a25 a26 a27 a28 a29 a30 a31, h = [a0, a1, a2, a3, a4, a5, a6, a7, a8, a9, Pj, Ph, a12, Pg, Pf, Pe, a16, a17, Pd, Pb, a20, a21, a22, a23, a24, a25, a26, a27, a28, a29, a30, a31]
 | [a0, a1, a2, a3, a4, a5, a6, a7, a8, a9, Pj, Ph, a12, Pg, Pf, Pe, a16, a17, Pd, Pb, a20, a21, a22, a23, a24, a25, a26, a27, a28, a29, a30, a31], _ => ⟨a0, a1, a2, a3, a4, a5, a6, a7, a8, a9, Pj, Ph, a12, Pg, Pf, Pe, a16, a17, Pd, Pb, a20, a21, a22, a23, a24, a25, a26, a27, a28, a29, a30, a31, rfl⟩
theorem O7 : Tryz.prog.built 58 [] = some (aT (aZ 32) 0) := by kernel_rfl
theorem O6 (h : List Int) (hl : h.length = 32) : Tryz.prog.built 58 [(0, .agg (arr .u8 h))] = some (aT h 0) := by
 obtain ⟨a0, a1, a2, a3, a4, a5, a6, a7, a8, a9, Pj, Ph, a12, Pg, Pf, Pe, a16, a17, Pd, Pb, a20, a21, a22, a23, a24, a25, a26, a27, a28, a29, a30, a31, rfl⟩ := yC h hl
 kernel_rfl
theorem O5 (h : List Int) (hl : h.length = 32) (c : Int) : Tryz.prog.built 58 [(0, .agg (arr .u8 h)), (1, .int .i64 c)] = some (aT h c) := by
 obtain ⟨a0, a1, a2, a3, a4, a5, a6, a7, a8, a9, Pj, Ph, a12, Pg, Pf, Pe, a16, a17, Pd, Pb, a20, a21, a22, a23, a24, a25, a26, a27, a28, a29, a30, a31, rfl⟩ := yC h hl
 kernel_rfl
theorem dA {P : Program} {ops : Array Oper} {rest : List Oper} {o : Oper} {a : Act} {w : World} {Q : Exit → Act → World → Prop} (hg : o.guard = none) (t : TypeId) (l : List (Nat × Operand)) (ho : o.op = .build t l.toArray) (cells : Array Value)
  (hf : P.built t (l.map fun x => (x.1, a.eval x.2)) = some cells) (h : wpList P ops Q rest (a.put o.dst (.agg cells)) w) : wpList P ops Q (o :: rest) a w := by
 have e : (l.toArray.map fun (x : Nat × Operand) => (x.1, a.eval x.2)).toList = l.map fun x => (x.1, a.eval x.2) := by simp
 refine wpList_build hg t l.toArray ho ?_ ?_
 ·
  show (P.built t (l.toArray.map fun (x : Nat × Operand) => (x.1, a.eval x.2)).toList).isSome = true
  rw [e, hf]; rfl
 ·
  show wpList P ops Q rest (a.put o.dst (.agg ((P.built t (l.toArray.map fun (x : Nat × Operand) => (x.1, a.eval x.2)).toList).getD #[]))) w
  rw [e, hf]; exact h
theorem jr {h : List Int} {c : Int} (hl : h.length = 32) : (aT h c).size = 33 := by simp [aT, bD, hl]
theorem QL : (Tryz.prog.info? 58).map (·.size) = some 33 := by kernel_rfl
theorem bZ {h : List Int} {c : Int} (hl : h.length = 32) : (Tryz.prog.info? 58).map (·.size) = some (aT h c).size := QL.trans (congrArg some (jr hl).symm)
theorem bg (h : List Int) (c : Int) : (aT h c).all (·.oneCell') = true := by simp [aT, arr, Value.oneCell']
theorem Du : (#[.int .u8 0, .int .u8 0, .int .u8 0, .int .u8 0, .int .u8 0, .int .u8 0, .int .u8 0, .int .u8 0, .int .u8 0, .int .u8 0, .int .u8 0, .int .u8 0, .int .u8 0, .int .u8 0, .int .u8 0, .int .u8 0, .int .u8 0, .int .u8 0, .int .u8 0, .int .u8 0, .int .u8 0, .int .u8 0, .int .u8 0, .int .u8 0, .int .u8 0, .int .u8 0, .int .u8 0, .int .u8 0, .int .u8 0, .int .u8 0, .int .u8 0, .int .u8 0, .int .i64 0] : Array Value) = aT (aZ 32) 0 := rfl
theorem fe {h h' : List Int} {c c' : Int} (hl : h.length = 32) (hl' : h'.length = 32) : (aT h c).size = (aT h' c').size := by rw [jr hl, jr hl']
def eT (w : World) (b : Nat) (h : List Int) (c : Int) : Prop := w.heap[b]? = some (.cells (aT h c) 58 (0, 0))
theorem eT.below {w w' : World} {b : Nat} {h : List Int} {c : Int} (hh : eT w b h c) (hb : Below w.heap.size w w') : eT w' b h c := (hb.block b (Array.getElem?_eq_some_iff.1 hh).1).trans hh
theorem eT.new (w : World) (h : List Int) (c : Int) : eT (w.alloc (.cells (aT h c) 58)) w.heap.size h c := heap_alloc_new _ _
theorem eT.lt {w : World} {b : Nat} {h : List Int} {c : Int} (hh : eT w b h c) : b < w.heap.size := (Array.getElem?_eq_some_iff.1 hh).1
theorem eT.setRow {w : World} {b : Nat} {h h' : List Int} {c c' : Int} (hh : eT w b h c) : eT (w.setRow b (aT h' c')) b h' c' := setRow_heap w b _ _ _ _ hh
theorem eT.count {w : World} {b : Nat} {h : List Int} {c : Int} (hh : eT w b h c) (hl : h.length = 32) : w.cell? ⟨b, 32, none⟩ = some (.int .i64 c) := by
 rw [aj hh, aT, Array.getElem?_append_right (by rw [bD, hl]; exact Nat.le_refl _), bD, hl]
 rfl
theorem eT.sk {w : World} {b : Nat} {h : List Int} {c : Int} (hh : eT w b h c) : Sk .u8 w (some ⟨b, 0, none⟩) h := fun j hj => ⟨b, 0, rfl, by
 rw [Nat.zero_add, aj hh, aT, Array.getElem?_append_left (by rw [bD]; exact hj)]
 exact yU hj⟩
theorem tJ (h : List Int) (hl : Hid (h.length = 32)) (c : Int) (h0 : 0 ≤ c) (h1 : c ≤ 1000) (w : World) :
  Calls Tryz.prog 113 #[.agg (aT h c)] w (Rt w (.bool true)) := by
 have hc := (eT.new w h c).count hl.out
 have d1 : decide ((0 : Int) ≤ c) = true := by simp [h0]
 have d2 : decide (c ≤ 1000) = true := by simp [h1]
 go_in
 go_wp2
 go_ret
 exact ⟨rfl, ai _ _⟩
def NM : ByteArray := ⟨#[115, 112, 101, 99, 105, 101, 47, 116, 114, 97, 110, 115, 99, 114, 105, 112, 116]⟩
def J9 (h : List Int) (c e : Int) : Value := .tuple #[.agg (aT h c), .int .i64 e]
def newL (l : List Int) : List Int := tagged (bP NM) l
theorem GZ (s : ByteArray) (hs : s.size ≤ 1000) (hr : Hid (jB (bP s) = false)) (w : World) :
  Calls Tryz.prog 23 #[.string s] w (Rt w (J9 (aZ 32) 0 1)) := by
 obtain ⟨W, hW⟩ : ∃ W, w.alloc (.cells #[.int .u8 0, .int .u8 0, .int .u8 0, .int .u8 0, .int .u8 0, .int .u8 0, .int .u8 0, .int .u8 0, .int .u8 0, .int .u8 0, .int .u8 0, .int .u8 0, .int .u8 0, .int .u8 0, .int .u8 0, .int .u8 0, .int .u8 0, .int .u8 0, .int .u8 0, .int .u8 0, .int .u8 0, .int .u8 0, .int .u8 0, .int .u8 0, .int .u8 0, .int .u8 0, .int .u8 0, .int .u8 0, .int .u8 0, .int .u8 0, .int .u8 0, .int .u8 0, .int .i64 0] 58) = W := ⟨_, rfl⟩
 have dR : Hid (Below w.heap.size w W) := aa (by rw [← hW]; exact ai _ _)
 have HT0 : Hid (eT W w.heap.size (aZ 32) 0) := aa (by rw [← hW, Du]; exact eT.new _ _ _)
 have HW := aa hW
 clear hW
 go_in
 go_wp2_with fail
 rw [HW.out]
 refine (lC s hs false hr _).mono ?_
 rintro e w1 ⟨rfl, hb1⟩
 have HT1 := aa (HT0.out.below hb1)
 have HB1 := aa (af dR.out hb1)
 clear hb1
 go_wp2_with (first
  | ((with_reducible show wpList _ _ _ (⟨some 9, _, _, _, _, _⟩ :: _) _ _); refine dA rfl 58 _ rfl _ O7 ?_)
  | ((with_reducible show wpList _ _ _ (⟨none, _, _, _, _, _⟩ :: _) _ _); refine wpList_store_row rfl 58 _ _ rfl w.heap.size (aT (aZ 32) 0) rfl rfl _ _ HT1.out (bZ rfl) rfl (bg _ _) ?_))
 have HRR : Hid (eT (w1.setRow w.heap.size (aT (aZ 32) 0)) w.heap.size (aZ 32) 0) := aa HT1.out.setRow
 have fH : Below w.heap.size w (w1.setRow w.heap.size (aT (aZ 32) 0)) := aD HB1.out (Nat.le_refl _)
 exact bodyPost_ret (v := J9 (aZ 32) 0 1) (bL (p := 2) (q := 3) (ty := 58) rfl _ _ ⟨w.heap.size, 0, none⟩ _ _ rfl rfl (run_loadVar_row _ _ _ _ _ _ _ HRR.out Tryz.underlying58 rfl (bZ rfl))) rfl ⟨rfl, fH⟩
theorem Dy (s : ByteArray) (hs : s.size ≤ 1000) (hr : Hid (jB (bP s) = true)) (w : World) (hv : Hid (bX w)) :
  Calls Tryz.prog 23 #[.string s] w (Rt w (J9 (newL (bP s)) 0 0)) := by
 have hs0 : 1 ≤ s.size := by
  have h := hr.out
  rw [jB, b_] at h
  simp at h
  exact h.1.1
 obtain ⟨W, hW⟩ : ∃ W, w.alloc (.cells #[.int .u8 0, .int .u8 0, .int .u8 0, .int .u8 0, .int .u8 0, .int .u8 0, .int .u8 0, .int .u8 0, .int .u8 0, .int .u8 0, .int .u8 0, .int .u8 0, .int .u8 0, .int .u8 0, .int .u8 0, .int .u8 0, .int .u8 0, .int .u8 0, .int .u8 0, .int .u8 0, .int .u8 0, .int .u8 0, .int .u8 0, .int .u8 0, .int .u8 0, .int .u8 0, .int .u8 0, .int .u8 0, .int .u8 0, .int .u8 0, .int .u8 0, .int .u8 0, .int .i64 0] 58) = W := ⟨_, rfl⟩
 have dR : Hid (Below w.heap.size w W) := aa (by rw [← hW]; exact ai _ _)
 have HT0 : Hid (eT W w.heap.size (aZ 32) 0) := aa (by rw [← hW, Du]; exact eT.new _ _ _)
 have HV := aa (hv.out.below dR.out)
 have HW := aa hW
 have hcv := fun w => run_bytes_of_string (P := Tryz.prog) w 9 93 5 s Tryz.underlying9 Tryz.underlying93 Tryz.underlying5
 clear hW hv
 go_in
 go_wp2_with fail
 rw [HW.out]
 refine (lC s hs true hr _).mono ?_
 rintro e w1 ⟨rfl, hb1⟩
 have HT1 := aa (HT0.out.below hb1)
 have HB1 := aa (af dR.out hb1)
 have gT := aa (HV.out.below hb1)
 clear hb1 HW
 go_wp2_with fail
 clear hcv
 obtain ⟨Wc, hWc⟩ : ∃ u, (w1.alloc (.cells (bytesRow s (grownCap w1 s.size 0 5)) 5 ((bytesRow s (grownCap w1 s.size 0 5)).size, (bytesRow s (grownCap w1 s.size 0 5)).size + 1))).drew = u := ⟨_, rfl⟩
 have Bv : Hid (Below w1.heap.size w1 Wc) := aa (by rw [← hWc]; exact (ai _ _).drew)
 have HSc : Hid (Sk .u8 Wc (some ⟨w1.heap.size, 0, none⟩) (bP s)) := aa (by
  rw [← hWc]
  exact qP (heap_alloc_new w1 _))
 obtain ⟨gc, hgc⟩ : ∃ g, grownCap w1 s.size 0 5 = g := ⟨_, rfl⟩
 rw [hWc, hgc]
 clear hWc hgc
 refine (nY NM (by decide) (by decide) w1.heap.size 0 gc (bP s) s.size (aa (b_ s)) hs0 (by omega) (aa (kS s)) _ HSc (aa (gT.out.below Bv.out))).mono ?_
 rintro e w2 ⟨rfl, hb2⟩
 have HT2 := aa ((HT1.out.below Bv.out).below hb2)
 have HB2 := aa (af (af HB1.out Bv.out) hb2)
 obtain ⟨R, hR⟩ : ∃ R, tagged (bP NM) (bP s) = R := ⟨_, rfl⟩
 have hRl : R.length = 32 := by rw [← hR]; exact gB _ _
 have HN : Kp (newL (bP s) = R) := ⟨hR⟩
 have jl := aa hRl
 rw [hR, show jK R = .tuple #[.agg (arr .u8 R), .int .i64 0] from rfl]
 clear hb2 HSc Bv HT1 HB1 gT hR hRl
 go_upto_region 4 with ((with_reducible show wpList _ _ _ (⟨none, _, _, _, _, _⟩ :: _) _ _); refine wpList_store_row rfl 32 _ _ rfl w2.heap.size (arr .u8 R) rfl rfl _ _ (heap_alloc_new _ _) (aW jl.out) (fM (l := aZ 32) rfl jl.out) (dQ _) ?_)
 rw [World.setRow_alloc_new]
 try simp only [Act.put]
 have YB : Hid (cK .u8 32 (w2.alloc (.cells (arr .u8 R) 32)) w2.heap.size R) := aa (cK.new _ _)
 have HT3 := aa (HT2.out.below (ai w2 (.cells (arr .u8 R) 32)))
 have HB3 := aa (af HB2.out (ai w2 (.cells (arr .u8 R) 32)))
 obtain ⟨W3, hW3⟩ : ∃ u, w2.alloc (.cells (arr .u8 R) 32) = u := ⟨_, rfl⟩
 rw [hW3] at YB HT3 HB3 ⊢
 clear hW3
 go_wp2_with (first
  | ((with_reducible show wpList _ _ _ (⟨some 16, _, _, _, _, _⟩ :: _) _ _); refine wpList_load_row rfl 32 _ rfl w2.heap.size rfl _ _ _ _ YB.out Tryz.underlying32 rfl (aW jl.out) ?_)
  | ((with_reducible show wpList _ _ _ (⟨some 17, _, _, _, _, _⟩ :: _) _ _); refine dA rfl 58 _ rfl _ (O6 R jl.out) ?_)
  | ((with_reducible show wpList _ _ _ (⟨none, _, _, _, _, _⟩ :: _) _ _); refine wpList_store_row rfl 58 _ _ rfl w.heap.size (aT R 0) rfl rfl _ _ HT3.out (bZ jl.out) (fe rfl jl.out) (bg _ _) ?_))
 have HRR : Hid (eT (W3.setRow w.heap.size (aT R 0)) w.heap.size R 0) := aa HT3.out.setRow
 have fH : Below w.heap.size w (W3.setRow w.heap.size (aT R 0)) := aD HB3.out (Nat.le_refl _)
 exact bodyPost_ret (v := J9 R 0 0) (bL (p := 2) (q := 3) (ty := 58) rfl _ _ ⟨w.heap.size, 0, none⟩ _ _ rfl rfl (run_loadVar_row _ _ _ _ _ _ _ HRR.out Tryz.underlying58 rfl (bZ jl.out))) rfl ⟨by rw [HN.out], fH⟩
theorem Ad {w : World} {base : Nat} {v : Value} {cs : List Ic} {l : List It} {n : Nat} (h : f_ w base v cs) (hc : cs.length = n) (hl : l.length = n) (hpos : 0 < n) (hr : ∀ k, k < n → qi w (l.getD k default) (cs.getD k default)) :
  ∃ g cap, v = .slice (some ⟨g, 0, none⟩) n cap ∧ qi w (.lst l) ⟨3, 0, none, 0, 0, some ⟨g, 0, none⟩, n, cap⟩ := by
 obtain ⟨g, cap, e, _, _, hf⟩ := h.four (by omega)
 rw [hc] at e hf
 exact ⟨g, cap, e, .lst l _ rfl rfl rfl hl.symm (fun k => cs.getD k default) (fun k hk => ⟨g, 0, rfl, hf k (by omega)⟩) (fun k hk => hr k (by omega))⟩
def jE (A : Option Addr) (n c : Nat) : Ic := ⟨2, 0, A, n, c, none, 0, 0⟩
theorem sN {w : World} {A : Option Addr} {n c : Nat} {b : List Int} (h : Sk .u8 w A b) (hn : b.length = n) : qi w (.byt b) (jE A n c) := .byt b _ rfl rfl hn.symm rfl h
theorem zV (w : World) (a b : Ic) : f_ (w.alloc (.cells #[.int .i64 a.kind, .int .i64 a.n, .slice a.B a.nb a.cb, .slice a.L a.nl a.cl, .int .i64 b.kind, .int .i64 b.n, .slice b.B b.nb b.cb, .slice b.L b.nl b.cl] 109)) w.heap.size (.slice (some ⟨w.heap.size, 0, none⟩) 2 2) [a, b] :=
 ⟨rfl, Or.inr ⟨w.heap.size, 2, _, rfl, Nat.le_refl _, heap_alloc_new _ _, Nat.le_refl _, by decide, rfl, rfl⟩⟩
theorem FY {w : World} {b : Nat} {c : Ic} (h : Four w b 0 c) (j : Nat) (u : Value) (hj : (bf c)[j]? = some u) : w.cell? ((⟨b, 0, none⟩ : Addr).add j) = some u := by
 obtain ⟨h0, h1, h2, h3⟩ := h
 match j, hj with
 | 0, e => simp [bf] at e; subst e; exact h0
 | 1, e => simp [bf] at e; subst e; exact h1
 | 2, e => simp [bf] at e; subst e; exact h2
 | 3, e => simp [bf] at e; subst e; exact h3
 | j + 4, e => simp [bf] at e
theorem vI (c : Ic) : ∀ u ∈ bf c, u.oneCell' = true := by
 intro u hu
 simp [bf] at hu
 rcases hu with rfl | rfl | rfl | rfl <;> rfl
theorem NQ {K : IntKind} {w w' : World} {B b : Nat} {l : List Int} (h : Sk K w (some ⟨b, 0, none⟩) l) (hb : Below B w w') (hl : b < B) : Sk K w' (some ⟨b, 0, none⟩) l := by
 intro j hj
 obtain ⟨b1, o, e, hc⟩ := h j hj
 injection e with e
 injection e with e1 e2 e3
 subst e1
 subst e2
 exact ⟨b, 0, rfl, (hb.cell (p := ⟨b, 0 + j, none⟩) hl).trans hc⟩
theorem FR (tg : ByteArray) (ht1 : 1 ≤ tg.size) (ht2 : tg.size ≤ 100) (h : List Int) (hl : Hid (h.length = 32)) (hb : Hid (aH h = true)) (c : Int) (s : ByteArray) (hs0 : 1 ≤ s.size) (hs : s.size ≤ 1000) (w : World) (hv : Hid (bX w)) :
  Calls Tryz.prog 114 #[.string tg, .agg (aT h c), .string s, .slice none 0 0] w (Rt w (jK (tagged (bP tg) (enc (.lst [.byt h, .byt (bP s)]))))) := by
 obtain ⟨i0, hi, hz0, hz1, hz2⟩ := info_parts pI
 obtain ⟨RR, hRR⟩ : ∃ R, tagged (bP tg) (enc (.lst [.byt h, .byt (bP s)])) = R := ⟨_, rfl⟩
 rw [hRR]
 have Pq : Kp (tagged (bP tg) (enc (.lst [.byt h, .byt (bP s)])) = RR) := ⟨hRR⟩
 clear hRR
 obtain ⟨W, hW⟩ : ∃ W, (w.alloc (.cells (aT h c) 58)).alloc (.cells z32 32) = W := ⟨_, rfl⟩
 have dR : Hid (Below w.heap.size w W) := aa (by rw [← hW]; exact aB (Below.refl _ _))
 have HT0 : Hid (eT W w.heap.size h c) := aa (by rw [← hW]; exact heap_alloc2_old _ _ _)
 have dY : Hid (cK .u8 32 W (w.heap.size + 1) (aZ 32)) := aa (by rw [← hW, sW]; exact heap_alloc2_new _ _ _)
 have qj : Hid (W.heap.size = w.heap.size + 2) := aa (by rw [← hW]; simp)
 have HV := aa (hv.out.below dR.out)
 have HW := aa hW
 have hcv := fun w => run_bytes_of_string (P := Tryz.prog) w 9 93 5 s Tryz.underlying9 Tryz.underlying93 Tryz.underlying5
 clear hW hv
 go_in
 go_upto_region 1 with (fail)
 rw [HW.out]
 go_upto_region 2 with (fail)
 clear hcv HW
 obtain ⟨gc, hgc⟩ : ∃ g, grownCap W s.size 0 5 = g := ⟨_, rfl⟩
 rw [hgc]
 obtain ⟨Wc, hWc⟩ : ∃ u, W.alloc (.cells (bytesRow s gc) 5 ((bytesRow s gc).size, (bytesRow s gc).size + 1)) = u := ⟨_, rfl⟩
 rw [hWc]
 have Bv : Hid (Below W.heap.size W Wc) := aa (by rw [← hWc]; exact ai _ _)
 have HSc : Hid (Sk .u8 Wc (some ⟨W.heap.size, 0, none⟩) (bP s)) := aa (by rw [← hWc]; exact qP (heap_alloc_new W _))
 have Na : Hid (Wc.heap.size = W.heap.size + 1) := aa (by rw [← hWc]; simp)
 obtain ⟨W2, hW2⟩ : ∃ u, (Wc.alloc (.cells #[.int .i64 2, .int .i64 0, .slice (some ⟨w.heap.size, 0, none⟩) 32 32, .slice none 0 0, .int .i64 2, .int .i64 0, .slice (some ⟨W.heap.size, 0, none⟩) s.size gc, .slice none 0 0] 109)).drew = u := ⟨_, rfl⟩
 have sH : Hid (f_ W2 Wc.heap.size (.slice (some ⟨W.heap.size + 1, 0, none⟩) 2 2) [jE (some ⟨w.heap.size, 0, none⟩) 32 32, jE (some ⟨W.heap.size, 0, none⟩) s.size gc]) := aa (by
  rw [← hW2]
  have h := (zV Wc (jE (some ⟨w.heap.size, 0, none⟩) 32 32) (jE (some ⟨W.heap.size, 0, none⟩) s.size gc)).keep (Below.refl _ _).drew
  rw [Na.out] at h ⊢
  exact h)
 have HB2 : Hid (Below W.heap.size W W2) := aa (af Bv.out (by rw [← hW2]; exact (ai _ _).drew))
 have HS2 : Hid (Sk .u8 W2 (some ⟨W.heap.size, 0, none⟩) (bP s)) := aa (HSc.out.below (by rw [← hW2]; exact (ai _ _).drew))
 have Za : Wc.heap.size < W2.heap.size := by rw [← hW2]; simp
 rw [hW2]
 clear hW2 hWc hgc HSc Bv
 have hrow : W2.ownsRow Wc.heap.size 109 4 (.slice (some ⟨W.heap.size + 1, 0, none⟩) 2 2) 2 ([jE (some ⟨w.heap.size, 0, none⟩) 32 32, jE (some ⟨W.heap.size, 0, none⟩) s.size gc].flatMap bf) := sH.out
 have VU := hs
 go_wp2_with (at_builtin; refine wpList_append_own_none rfl _ _ 107 rfl Wc.heap.size 109 i0 4 Tryz.underlying107 hi _ _ _ rfl hrow rfl ?_)
 have NC : Hid (∃ g cap, (Value.slice (some ⟨W.heap.size + 1, 0, none⟩) 2 2) = .slice (some ⟨g, 0, none⟩) 2 cap ∧ qi W2 (.lst [.byt h, .byt (bP s)]) ⟨3, 0, none, 0, 0, some ⟨g, 0, none⟩, 2, cap⟩) := aa (Ad sH.out rfl rfl (by decide) (fun k hk => by
  rcases (show k = 0 ∨ k = 1 by omega) with rfl | rfl
  · exact sN (HT0.out.below HB2.out).sk hl.out
  · exact sN HS2.out (b_ s)))
 obtain ⟨g3, JY, e3, hit⟩ := NC.out
 simp only [Value.slice.injEq, Option.some.injEq, Addr.mk.injEq] at e3
 obtain ⟨⟨rfl, -⟩, -, rfl⟩ := e3
 have HIT := aa hit
 have HB3 := HB2
 have Dp : Hid (fits 8 (.lst [.byt h, .byt (bP s)])) := aa (by
  refine ⟨by simp, fun x hx => ?_⟩
  rcases (by simpa using hx : x = .byt h ∨ x = .byt (bP s)) with rfl | rfl
  · exact ⟨⟨by rw [hl.out]; decide, by rw [hl.out]; decide⟩, hb.out⟩
  · exact ⟨⟨by rw [b_]; omega, by rw [b_]; omega⟩, kS s⟩)
 have HLEN : Hid ((enc (.lst [.byt h, .byt (bP s)])).length ≤ 16384) := aa (by
  rw [lT]
  simp only [iw, jX, List.length_cons, List.length_append, jY, hl.out, b_, List.length_nil]
  omega)
 clear hit NC hrow
 rw [show (Value.agg #[.int .i64 3, .int .i64 0, .slice none 0 0, .slice (some ⟨W.heap.size + 1, 0, none⟩) 2 2]) = (Ic.mk 3 0 none 0 0 (some ⟨W.heap.size + 1, 0, none⟩) 2 2).val from rfl]
 refine (uP _ _ _ Dp.out HIT.out HLEN.out).mono ?_
 rintro e w4 ⟨v4, rfl, KI, hb4⟩
 obtain ⟨E, hE⟩ : ∃ E, enc (.lst [.byt h, .byt (bP s)]) = E := ⟨_, rfl⟩
 have Td : Hid (aH E = true) := aa (by rw [← hE]; exact wT Dp.out)
 have Kr : Hid (0 < E.length ∧ E.length ≤ 16384) := aa (by rw [← hE]; exact ⟨Ee _, HLEN.out⟩)
 rw [hE] at KI
 obtain ⟨g4, cap4, e4, hg4, -, -, vJ⟩ := KI.cells Kr.out.1
 obtain ⟨n4, Ow⟩ : ∃ n, E.length = n := ⟨_, rfl⟩
 rw [Ow] at e4 Kr
 subst e4
 have We := aa Ow
 have vS := aa vJ
 have gI := aa (af HB3.out hb4)
 have M_ : Kp (enc (.lst [.byt h, .byt (bP s)]) = E) := ⟨hE⟩
 clear hE vJ KI hb4 Ow HIT HLEN Dp
 obtain ⟨he0, he1⟩ := Kr.out
 go_wp2_with fail
 refine (nY tg ht1 ht2 g4 0 cap4 E n4 We he0 (by omega) Td _ vS (aa (HV.out.below gI.out))).mono ?_
 rintro e w5 ⟨rfl, hb5⟩
 have mh := aa (af gI.out hb5)
 obtain ⟨R, hR⟩ : ∃ R, tagged (bP tg) E = R := ⟨_, rfl⟩
 have jl : Hid (R.length = 32) := aa (by rw [← hR]; exact gB _ _)
 have hRe : RR = R := by rw [← Pq.1, M_.1, hR]
 subst hRe
 rw [hR, show jK RR = .tuple #[.agg (arr .u8 RR), .int .i64 0] from rfl]
 clear hb5 hR vS gI
 have xH : Hid (cK .u8 32 w5 (w.heap.size + 1) (aZ 32)) := aa (dY.out.below mh.out)
 go_wp2_with ((with_reducible show wpList _ _ _ (⟨none, _, _, _, _, _⟩ :: _) _ _); refine wpList_store_row rfl 32 _ _ rfl (w.heap.size + 1) (arr .u8 RR) rfl rfl _ _ xH.out (aW jl.out) (fM (l := aZ 32) rfl jl.out) (dQ _) ?_)
 have HRR : Hid (cK .u8 32 (w5.setRow (w.heap.size + 1) (arr .u8 RR)) (w.heap.size + 1) RR) := aa xH.out.setRow
 have fH : Below w.heap.size w (w5.setRow (w.heap.size + 1) (arr .u8 RR)) := aD (af dR.out mh.out) (Nat.le_succ _)
 exact bodyPost_ret (v := jK RR) (bL (p := 8) (q := 9) (ty := 32) rfl _ _ ⟨w.heap.size + 1, 0, none⟩ _ _ rfl rfl (run_loadVar_row _ _ _ _ _ _ _ HRR.out Tryz.underlying32 rfl (aW jl.out))) rfl ⟨rfl, fH⟩
theorem FQ (tg : ByteArray) (ht1 : 1 ≤ tg.size) (ht2 : tg.size ≤ 100) (h : List Int) (hl : Hid (h.length = 32)) (hb : Hid (aH h = true)) (c : Int) (s : ByteArray) (hs0 : 1 ≤ s.size) (hs : s.size ≤ 1000) (item : It) (cI : Ic) (gm cm : Nat) (w : World) (hv : Hid (bX w)) (hF : Hid (Four w gm 0 cI)) (hI : Hid (qi w item cI)) (hfi : Hid (fits 7 item)) (hle : Hid ((enc item).length ≤ 14000)) :
  Calls Tryz.prog 114 #[.string tg, .agg (aT h c), .string s, .slice (some ⟨gm, 0, none⟩) 1 cm] w (Rt w (jK (tagged (bP tg) (enc (.lst [.byt h, .byt (bP s), item]))))) := by
 obtain ⟨i0, hi, hz0, hz1, hz2⟩ := info_parts pI
 obtain ⟨RR, hRR⟩ : ∃ R, tagged (bP tg) (enc (.lst [.byt h, .byt (bP s), item])) = R := ⟨_, rfl⟩
 rw [hRR]
 have Pq : Kp (tagged (bP tg) (enc (.lst [.byt h, .byt (bP s), item])) = RR) := ⟨hRR⟩
 clear hRR
 obtain ⟨W, hW⟩ : ∃ W, (w.alloc (.cells (aT h c) 58)).alloc (.cells z32 32) = W := ⟨_, rfl⟩
 have dR : Hid (Below w.heap.size w W) := aa (by rw [← hW]; exact aB (Below.refl _ _))
 have HT0 : Hid (eT W w.heap.size h c) := aa (by rw [← hW]; exact heap_alloc2_old _ _ _)
 have dY : Hid (cK .u8 32 W (w.heap.size + 1) (aZ 32)) := aa (by rw [← hW, sW]; exact heap_alloc2_new _ _ _)
 have qj : Hid (W.heap.size = w.heap.size + 2) := aa (by rw [← hW]; simp)
 have HV := aa (hv.out.below dR.out)
 have HW := aa hW
 have hcv := fun w => run_bytes_of_string (P := Tryz.prog) w 9 93 5 s Tryz.underlying9 Tryz.underlying93 Tryz.underlying5
 clear hW hv
 go_in
 go_upto_region 1 with (fail)
 rw [HW.out]
 go_upto_region 2 with (fail)
 clear hcv HW
 obtain ⟨gc, hgc⟩ : ∃ g, grownCap W s.size 0 5 = g := ⟨_, rfl⟩
 rw [hgc]
 obtain ⟨Wc, hWc⟩ : ∃ u, W.alloc (.cells (bytesRow s gc) 5 ((bytesRow s gc).size, (bytesRow s gc).size + 1)) = u := ⟨_, rfl⟩
 rw [hWc]
 have Bv : Hid (Below W.heap.size W Wc) := aa (by rw [← hWc]; exact ai _ _)
 have HSc : Hid (Sk .u8 Wc (some ⟨W.heap.size, 0, none⟩) (bP s)) := aa (by rw [← hWc]; exact qP (heap_alloc_new W _))
 have Na : Hid (Wc.heap.size = W.heap.size + 1) := aa (by rw [← hWc]; simp)
 obtain ⟨W2, hW2⟩ : ∃ u, (Wc.alloc (.cells #[.int .i64 2, .int .i64 0, .slice (some ⟨w.heap.size, 0, none⟩) 32 32, .slice none 0 0, .int .i64 2, .int .i64 0, .slice (some ⟨W.heap.size, 0, none⟩) s.size gc, .slice none 0 0] 109)).drew = u := ⟨_, rfl⟩
 have sH : Hid (f_ W2 Wc.heap.size (.slice (some ⟨W.heap.size + 1, 0, none⟩) 2 2) [jE (some ⟨w.heap.size, 0, none⟩) 32 32, jE (some ⟨W.heap.size, 0, none⟩) s.size gc]) := aa (by
  rw [← hW2]
  have h := (zV Wc (jE (some ⟨w.heap.size, 0, none⟩) 32 32) (jE (some ⟨W.heap.size, 0, none⟩) s.size gc)).keep (Below.refl _ _).drew
  rw [Na.out] at h ⊢
  exact h)
 have HB2 : Hid (Below W.heap.size W W2) := aa (af Bv.out (by rw [← hW2]; exact (ai _ _).drew))
 have HS2 : Hid (Sk .u8 W2 (some ⟨W.heap.size, 0, none⟩) (bP s)) := aa (HSc.out.below (by rw [← hW2]; exact (ai _ _).drew))
 have Za : Wc.heap.size < W2.heap.size := by rw [← hW2]; simp
 rw [hW2]
 clear hW2 hWc hgc HSc Bv
 have hrow : W2.ownsRow Wc.heap.size 109 4 (.slice (some ⟨W.heap.size + 1, 0, none⟩) 2 2) 2 ([jE (some ⟨w.heap.size, 0, none⟩) 32 32, jE (some ⟨W.heap.size, 0, none⟩) s.size gc].flatMap bf) := sH.out
 have VU := hs
 have YF : Hid (Four W2 gm 0 cI) := aa ((hF.out.below dR.out).below HB2.out)
 have HI2 : Hid (qi W2 item cI) := aa ((hI.out.kept dR.out).kept HB2.out)
 have zB : Wc.heap.size ≤ W2.heap.size := by omega
 have b1 : 2 + 1 ≤ maxLen := by unfold maxLen; omega
 have b2 : (2 + 1) * 64 ≤ 140737488355328 := by omega
 have Yn : ∀ (j : Nat) (u : Value), (bf cI)[j]? = some u → W2.cell? ((⟨gm, 0, none⟩ : Addr).add j) = some u := FY YF.out
 go_wp2_with (at_builtin; refine wpList_append_lies rfl _ _ 107 rfl Wc.heap.size 109 i0 (.agg #[.int .i64 0, .int .i64 0, .slice none 0 0, .slice none 0 0]) 4 64 Tryz.underlying107 hi hz0 hz1 hz2 rfl (by decide) _ _ _ rfl hrow ⟨gm, 0, none⟩ 1 cm (bf cI) rfl rfl Yn (vI cI) (by decide) b1 b2 zB _ rfl ?_; intro g3 JY w3 hown3 hgrow3 Vg hlt3)
 have HB3 : Hid (Below W.heap.size W w3) := aa (HB2.out.grown hgrow3 (by have := Na.out; omega) (fun j hj => by have := Na.out; have := (World.ownsRow.lt hrow j hj).1; omega))
 have Tu : Hid (Below (W.heap.size + 1) W2 w3) := aa ((Below.refl _ _).grown hgrow3 (by have := Na.out; omega) (fun j hj => by have := Na.out; have := (World.ownsRow.lt hrow j hj).1; omega))
 have qW : Hid (f_ w3 Wc.heap.size (.slice (some ⟨g3, 0, none⟩) 3 JY) [jE (some ⟨w.heap.size, 0, none⟩) 32 32, jE (some ⟨W.heap.size, 0, none⟩) s.size gc, cI]) := aa hown3
 have NC : Hid (∃ g cap, (Value.slice (some ⟨g3, 0, none⟩) 3 JY) = .slice (some ⟨g, 0, none⟩) 3 cap ∧ qi w3 (.lst [.byt h, .byt (bP s), item]) ⟨3, 0, none, 0, 0, some ⟨g, 0, none⟩, 3, cap⟩) := aa (Ad qW.out rfl rfl (by decide) (fun k hk => by
  rcases (show k = 0 ∨ k = 1 ∨ k = 2 by omega) with rfl | rfl | rfl
  · exact sN (HT0.out.below HB3.out).sk hl.out
  · exact sN (NQ HS2.out Tu.out (by omega)) (b_ s)
  · exact ((hI.out.kept dR.out).kept HB3.out)))
 obtain ⟨g, cap, e3, hit⟩ := NC.out
 simp only [Value.slice.injEq, Option.some.injEq, Addr.mk.injEq] at e3
 obtain ⟨⟨rfl, -⟩, -, rfl⟩ := e3
 have HIT := aa hit
 have Dp : Hid (fits 8 (.lst [.byt h, .byt (bP s), item])) := aa (by
  refine ⟨by simp, fun x hx => ?_⟩
  rcases (by simpa using hx : x = .byt h ∨ x = .byt (bP s) ∨ x = item) with rfl | rfl | rfl
  · exact ⟨⟨by rw [hl.out]; decide, by rw [hl.out]; decide⟩, hb.out⟩
  · exact ⟨⟨by rw [b_]; omega, by rw [b_]; omega⟩, kS s⟩
  · exact hfi.out)
 have HLEN : Hid ((enc (.lst [.byt h, .byt (bP s), item])).length ≤ 16384) := aa (by
  have := hle.out
  rw [lT]
  simp only [iw, jX, List.length_cons, List.length_append, jY, hl.out, b_, List.length_nil]
  omega)
 clear hit NC hrow qW hown3 hgrow3 Vg hlt3 Yn YF HI2 Tu
 rw [show (Value.agg #[.int .i64 3, .int .i64 0, .slice none 0 0, .slice (some ⟨g3, 0, none⟩) 3 JY]) = (Ic.mk 3 0 none 0 0 (some ⟨g3, 0, none⟩) 3 JY).val from rfl]
 refine (uP _ _ _ Dp.out HIT.out HLEN.out).mono ?_
 rintro e w4 ⟨v4, rfl, KI, hb4⟩
 obtain ⟨E, hE⟩ : ∃ E, enc (.lst [.byt h, .byt (bP s), item]) = E := ⟨_, rfl⟩
 have Td : Hid (aH E = true) := aa (by rw [← hE]; exact wT Dp.out)
 have Kr : Hid (0 < E.length ∧ E.length ≤ 16384) := aa (by rw [← hE]; exact ⟨Ee _, HLEN.out⟩)
 rw [hE] at KI
 obtain ⟨g4, cap4, e4, hg4, -, -, vJ⟩ := KI.cells Kr.out.1
 obtain ⟨n4, Ow⟩ : ∃ n, E.length = n := ⟨_, rfl⟩
 rw [Ow] at e4 Kr
 subst e4
 have We := aa Ow
 have vS := aa vJ
 have gI := aa (af HB3.out hb4)
 have M_ : Kp (enc (.lst [.byt h, .byt (bP s), item]) = E) := ⟨hE⟩
 clear hE vJ KI hb4 Ow HIT HLEN Dp
 obtain ⟨he0, he1⟩ := Kr.out
 go_wp2_with fail
 refine (nY tg ht1 ht2 g4 0 cap4 E n4 We he0 (by omega) Td _ vS (aa (HV.out.below gI.out))).mono ?_
 rintro e w5 ⟨rfl, hb5⟩
 have mh := aa (af gI.out hb5)
 obtain ⟨R, hR⟩ : ∃ R, tagged (bP tg) E = R := ⟨_, rfl⟩
 have jl : Hid (R.length = 32) := aa (by rw [← hR]; exact gB _ _)
 have hRe : RR = R := by rw [← Pq.1, M_.1, hR]
 subst hRe
 rw [hR, show jK RR = .tuple #[.agg (arr .u8 RR), .int .i64 0] from rfl]
 clear hb5 hR vS gI
 have xH : Hid (cK .u8 32 w5 (w.heap.size + 1) (aZ 32)) := aa (dY.out.below mh.out)
 go_wp2_with ((with_reducible show wpList _ _ _ (⟨none, _, _, _, _, _⟩ :: _) _ _); refine wpList_store_row rfl 32 _ _ rfl (w.heap.size + 1) (arr .u8 RR) rfl rfl _ _ xH.out (aW jl.out) (fM (l := aZ 32) rfl jl.out) (dQ _) ?_)
 have HRR : Hid (cK .u8 32 (w5.setRow (w.heap.size + 1) (arr .u8 RR)) (w.heap.size + 1) RR) := aa xH.out.setRow
 have fH : Below w.heap.size w (w5.setRow (w.heap.size + 1) (arr .u8 RR)) := aD (af dR.out mh.out) (Nat.le_succ _)
 exact bodyPost_ret (v := jK RR) (bL (p := 8) (q := 9) (ty := 32) rfl _ _ ⟨w.heap.size + 1, 0, none⟩ _ _ rfl rfl (run_loadVar_row _ _ _ _ _ _ _ HRR.out Tryz.underlying32 rfl (aW jl.out))) rfl ⟨rfl, fH⟩
def G8 : ByteArray := { data := #[115, 112, 101, 99, 105, 101, 47, 97, 98, 115, 111, 114, 98] }
def Bd (h s : List Int) (i : It) : List Int := tagged (bP G8) (enc (.lst [.byt h, .byt s, i]))
theorem qf (h s : List Int) (i : It) : (Bd h s i).length = 32 := gB _ _
theorem uL {w : World} {b : Nat} {c : Ic} {t : TypeId} (h : w.heap[b]? = some (.cells #[.int .i64 c.kind, .int .i64 c.n, .slice c.B c.nb c.cb, .slice c.L c.nl c.cl] t)) : Four w b 0 c :=
 ⟨aj h 0, aj h 1, aj h 2, aj h 3⟩
theorem tL (h : List Int) (hl : Hid (h.length = 32)) (hb : Hid (aH h = true)) (c : Int) (hc0 : 0 ≤ c) (hc1 : c < 1000) (s : ByteArray) (hs : s.size ≤ 1000) (hr : Hid (jB (bP s) = true)) (item : It) (cI : Ic) (w : World) (hv : Hid (bX w)) (hI : Hid (qi w item cI)) (hfi : Hid (fits 7 item)) (hle : Hid ((enc item).length ≤ 14000)) :
  Calls Tryz.prog 74 #[.agg (aT h c), .string s, .agg #[.int .i64 cI.kind, .int .i64 cI.n, .slice cI.B cI.nb cI.cb, .slice cI.L cI.nl cI.cl]] w (Rt w (J9 (Bd h (bP s) item) (c + 1) 0)) := by
 have hs0 : 1 ≤ s.size := by
  have h := hr.out
  rw [jB, b_] at h
  simp at h
  exact h.1.1
 obtain ⟨i0, hi, hz0, hz1, hz2⟩ := info_parts pI
 obtain ⟨W, hW⟩ : ∃ W, ((w.alloc (.cells (aT h c) 58)).alloc (.cells #[.int .i64 cI.kind, .int .i64 cI.n, .slice cI.B cI.nb cI.cb, .slice cI.L cI.nl cI.cl] 109)).alloc (.cells #[.int .u8 0, .int .u8 0, .int .u8 0, .int .u8 0, .int .u8 0, .int .u8 0, .int .u8 0, .int .u8 0, .int .u8 0, .int .u8 0, .int .u8 0, .int .u8 0, .int .u8 0, .int .u8 0, .int .u8 0, .int .u8 0, .int .u8 0, .int .u8 0, .int .u8 0, .int .u8 0, .int .u8 0, .int .u8 0, .int .u8 0, .int .u8 0, .int .u8 0, .int .u8 0, .int .u8 0, .int .u8 0, .int .u8 0, .int .u8 0, .int .u8 0, .int .u8 0, .int .i64 0] 58) = W := ⟨_, rfl⟩
 have dR : Hid (Below w.heap.size w W) := aa (by rw [← hW]; exact af (aB (Below.refl _ _)) (ai _ _))
 have HT0 : Hid (eT W w.heap.size h c) := aa (by rw [← hW]; exact ((eT.new _ _ _).below (ai _ _)).below (ai _ _))
 have SQ : Hid (W.heap[w.heap.size + 1]? = some (.cells #[.int .i64 cI.kind, .int .i64 cI.n, .slice cI.B cI.nb cI.cb, .slice cI.L cI.nl cI.cl] 109 (0, 0))) := aa (by rw [← hW, ← (show (w.alloc (.cells (aT h c) 58)).heap.size = w.heap.size + 1 by simp)]; exact heap_alloc2_old _ _ _)
 have dY : Hid (eT W (w.heap.size + 1 + 1) (aZ 32) 0) := aa (by rw [← hW, Du, show w.heap.size + 1 + 1 = (w.alloc (.cells (aT h c) 58)).heap.size + 1 by simp]; exact heap_alloc2_new _ _ _)
 have qj : Hid (W.heap.size = w.heap.size + 3) := aa (by rw [← hW]; simp)
 have HV := aa (hv.out.below dR.out)
 have YA := aa (hI.out.kept dR.out)
 have HW := aa hW
 clear hW hv
 go_in
 go_upto_region 1 with (fail)
 rw [HW.out]
 clear HW
 go_wp2_with ((with_reducible show wpList _ _ _ (⟨some 10, _, _, _, _, _⟩ :: _) _ _); refine wpList_load_row rfl 58 _ rfl w.heap.size rfl _ _ _ _ HT0.out Tryz.underlying58 rfl (bZ hl.out) ?_)
 refine (tJ h hl c hc0 (by omega) _).mono ?_
 rintro e w1 ⟨rfl, hb1⟩
 have HB1 := aa (af dR.out hb1)
 have HT1 := aa (HT0.out.below hb1)
 have HI1 := aa (YA.out.kept hb1)
 have gT := aa (HV.out.below hb1)
 have HR1 := aa (dY.out.below hb1)
 have SN : Hid (Four w1 (w.heap.size + 1) 0 cI) := aa (uL ((hb1.block _ (by have := qj.out; omega)).trans SQ.out))
 clear hb1 HT0 YA HV dY SQ dR
 go_wp2_with fail
 refine (lC s hs true hr _).mono ?_
 rintro e w2 ⟨rfl, hb2⟩
 have HT2 := aa (HT1.out.below hb2)
 have HI2 := aa (HI1.out.kept hb2)
 have ko := aa (gT.out.below hb2)
 have HR2 := aa (HR1.out.below hb2)
 have SL := aa (SN.out.below hb2)
 have HB2 := aa (af HB1.out hb2)
 clear hb2 HT1 HI1 gT HR1 SN HB1
 obtain ⟨f0, f1, f2, f3⟩ := SL.out
 go_wp2_with ((with_reducible show wpList _ _ _ (⟨some 20, _, _, _, _, _⟩ :: _) _ _); refine wpList_load_row rfl 58 _ rfl w.heap.size rfl _ _ _ _ HT2.out Tryz.underlying58 rfl (bZ hl.out) ?_)
 clear f0 f1 f2 f3
 obtain ⟨W3, hW3⟩ : ∃ u, w2.alloc (.cells #[.int .i64 cI.kind, .int .i64 cI.n, .slice cI.B cI.nb cI.cb, .slice cI.L cI.nl cI.cl] 109) = u := ⟨_, rfl⟩
 have PM : Hid (Four W3 w2.heap.size 0 cI) := aa (by rw [← hW3]; exact uL (heap_alloc_new _ _))
 have hb3 : Below w2.heap.size w2 W3 := by rw [← hW3]; exact ai _ _
 rw [hW3]
 have HI3 := aa (HI2.out.kept hb3)
 have sw := aa (ko.out.below hb3)
 refine (FQ G8 (by decide) (by decide) h hl hb c s hs0 hs item cI w2.heap.size 1 W3 sw PM HI3 hfi hle).mono ?_
 rintro e w4 ⟨rfl, hb4⟩
 have KP := aa ((HT2.out.below hb3).below hb4)
 have HR4 := aa ((HR2.out.below hb3).below hb4)
 have gI := aa (af (af HB2.out hb3) hb4)
 obtain ⟨R, hR⟩ : ∃ R, tagged (bP G8) (enc (.lst [.byt h, .byt (bP s), item])) = R := ⟨_, rfl⟩
 have hRl : R.length = 32 := by rw [← hR]; exact gB _ _
 have HN : Kp (Bd h (bP s) item = R) := ⟨hR⟩
 have jl := aa hRl
 rw [hR, show jK R = .tuple #[.agg (arr .u8 R), .int .i64 0] from rfl]
 clear hb3 hb4 hW3 PM HI3 sw HT2 HI2 ko HR2 HB2 SL hR hRl
 go_upto_region 4 with ((with_reducible show wpList _ _ _ (⟨none, _, _, _, _, _⟩ :: _) _ _); refine wpList_store_row rfl 32 _ _ rfl w4.heap.size (arr .u8 R) rfl rfl _ _ (heap_alloc_new _ _) (aW jl.out) (fM (l := aZ 32) rfl jl.out) (dQ _) ?_)
 rw [World.setRow_alloc_new]
 try simp only [Act.put]
 have KT : Hid (cK .u8 32 (w4.alloc (.cells (arr .u8 R) 32)) w4.heap.size R) := aa (cK.new _ _)
 have Bu := aa (KP.out.below (ai w4 (.cells (arr .u8 R) 32)))
 have xH := aa (HR4.out.below (ai w4 (.cells (arr .u8 R) 32)))
 have mh := aa (af gI.out (ai w4 (.cells (arr .u8 R) 32)))
 obtain ⟨W5, Nq⟩ : ∃ u, w4.alloc (.cells (arr .u8 R) 32) = u := ⟨_, rfl⟩
 rw [Nq] at KT Bu xH mh ⊢
 clear Nq
 have hcnt := Bu.out.count hl.out
 have hcn : ¬ (c = 1000) := by omega
 have hwr : IntKind.i64.wrap (c + 1) = c + 1 := IntWalk.i64_in _ (by omega)
 go_wp2_with (first
  | ((with_reducible show wpList _ _ _ (⟨some 40, _, _, _, _, _⟩ :: _) _ _); refine wpList_load_row rfl 32 _ rfl w4.heap.size rfl _ _ _ _ KT.out Tryz.underlying32 rfl (aW jl.out) ?_)
  | ((with_reducible show wpList _ _ _ (⟨some 44, _, _, _, _, _⟩ :: _) _ _); refine dA rfl 58 _ rfl _ (O5 R jl.out (c + 1)) ?_)
  | ((with_reducible show wpList _ _ _ (⟨none, _, _, _, _, _⟩ :: _) _ _); refine wpList_store_row rfl 58 _ _ rfl (w.heap.size + 1 + 1) (aT R (c + 1)) rfl rfl _ _ xH.out (bZ jl.out) (fe rfl jl.out) (bg _ _) ?_))
 have HRR : Hid (eT (W5.setRow (w.heap.size + 1 + 1) (aT R (c + 1))) (w.heap.size + 1 + 1) R (c + 1)) := aa xH.out.setRow
 have fH : Below w.heap.size w (W5.setRow (w.heap.size + 1 + 1) (aT R (c + 1))) := aD mh.out (by omega)
 exact bodyPost_ret (v := J9 R (c + 1) 0) (bL (p := 6) (q := 7) (ty := 58) rfl _ _ ⟨w.heap.size + 1 + 1, 0, none⟩ _ _ rfl rfl (run_loadVar_row _ _ _ _ _ _ _ HRR.out Tryz.underlying58 rfl (bZ jl.out))) rfl ⟨by rw [HN.out], fH⟩
end Go.Proofs.YtbljkkpnpcgjfaaGreatDoor