/- Contracts and lemmas: TlB, TlI, TlH, TlL, TlJ, TlK, TlM, TlN, TlO, TlP, TlQ, Row. -/
import Derived.Laws.AppendOwnNone
import Derived.Deep.MidRow
import Derived.Deep.RegionLaw
import Derived.Test.YtchcllcbknfikaaGreatDoorTa7
set_option linter.unusedVariables false
set_option linter.unusedSimpArgs false
set_option maxRecDepth 100000
set_option maxHeartbeats 25600000
namespace Go.Proofs.YtchcllcbknfikaaGreatDoor
open Go.RowKit si
theorem iN (A : Option Addr) (na ca : Nat) (C : Int) (Z : Option Addr) (nz cz : Nat) (r : Bool) (hr : Hid (uO na nz = r)) (w : World) :
  Calls Tryz.prog 129 #[iO A na ca C Z nz cz] w (Rt w (.bool r)) := by
 have HX := af w (fe A na ca C Z nz cz)
 have hr1 := hr.out
 unfold uO at hr1
 by_cases h0 : na ≤ 20
 ·
  have d0 : decide ((na : Int) ≤ 20) = true := by simp; omega
  by_cases h1 : nz ≤ 20
  ·
   have d1 : decide ((nz : Int) ≤ 20) = true := by simp; omega
   obtain rfl : r = true := by rw [← hr1]; simp; omega
   clear hr1 hr
   go_in
   go_wp2
   go_ret
   exact ⟨rfl, HX⟩
  ·
   have d1 : decide ((nz : Int) ≤ 20) = false := by simp; omega
   obtain rfl : r = false := by rw [← hr1]; simp; omega
   clear hr1 hr
   go_in
   go_wp2
   go_ret
   exact ⟨rfl, HX⟩
 ·
  have d0 : decide ((na : Int) ≤ 20) = false := by simp; omega
  obtain rfl : r = false := by rw [← hr1]; simp; omega
  clear hr1 hr
  go_in
  go_wp2
  go_ret
  exact ⟨rfl, HX⟩
theorem sJ (L : Option Addr) (ps : List aV) (n c : Nat) (x : Int) (r : Bool) (hr : Hid (qX ps x n = r)) (hn : Hid (n ≤ ps.length)) (hbig : n < 1000000) (w : World) (hs : Hid (Pa w L ps)) :
  Calls Tryz.prog 78 #[.slice L n c, .int .i64 x] w (Rt w (.bool (!r))) := by
 go_in
 go_wp2
 go_loopw [5] (fun i wr => ∃ k : Nat, k ≤ n ∧ i = .int .i64 k ∧ Hid (qX ps x k = true) ∧ Hid (Below w.heap.size w wr)) (fun i _ => n - (intOf i).toNat)
 case atStart => exact ⟨0, by omega, rfl, aa rfl, aa (Below.refl _ _)⟩
 case round =>
  obtain ⟨k, hk, rfl, HR, aF⟩ := hrel
  by_cases hlt : k < n
  ·
   have hkl : k < ps.length := by have := hn.out; omega
   obtain ⟨b, o, hA, i0, i1, i2, i3, i4, _⟩ := (hs.out.below aF.out) k hkl
   subst hA
   cases hpx : ((ps.getD k aH).ix == x) with
   | false =>
    have HN : Hid (qX ps x (k + 1) = true) := aa (by rw [qX, HR.out, bne, hpx]; rfl)
    obtain ⟨p, hp⟩ : ∃ p, ps.getD k aH = p := ⟨_, rfl⟩
    rw [hp] at i0 hpx
    clear hp hkl HR i1 i2 i3 i4
    go_wp2
    go_roundw
    case rel => exact ⟨k + 1, by omega, by go_num, HN, aF⟩
    case measure => simp [intOf]; omega
   | true =>
    obtain rfl : r = false := by
     cases hrr : r with
     | false => rfl
     | true => exact absurd (by simpa using hpx) (mJ (hr.out.trans hrr) k hlt)
    obtain ⟨p, hp⟩ : ∃ p, ps.getD k aH = p := ⟨_, rfl⟩
    rw [hp] at i0 hpx
    clear hp hkl HR i1 i2 i3 i4
    go_wp2
    go_ret
    exact ⟨rfl, aF.out⟩
  ·
   obtain rfl : k = n := by omega
   obtain rfl : r = true := hr.out.symm.trans HR.out
   clear HR
   go_wp2
   go_ret
   exact ⟨rfl, aF.out⟩
theorem Tn (o : az) (h : o.num < 0) (w : World) :
  Calls Tryz.prog 139 #[x_ o] w (Rt w (.bool false)) := by
 have IW : decide (o.num < 0) = true := by simp; omega
 obtain ⟨w0, HW, aj, kC⟩ := st1 (lY o) Ah w
 have ah := bP w0
 go_in
 go_upto_region 1 with (fail)
 rw [HW.out]
 have zc := kC.out _ ah
 go_wp2
 go_ret
 exact ⟨rfl, gy aj ah⟩
theorem Tm (o : az) (h1 : 0 ≤ o.num) (h : 100 ≤ o.num) (w : World) :
  Calls Tryz.prog 139 #[x_ o] w (Rt w (.bool false)) := by
 have IW : decide (o.num < 0) = false := by simp; omega
 have Fq : decide ((100 : Int) ≤ o.num) = true := by simp; omega
 obtain ⟨w0, HW, aj, kC⟩ := st1 (lY o) Ah w
 have ah := bP w0
 go_in
 go_upto_region 1 with (fail)
 rw [HW.out]
 have zc := kC.out _ ah
 go_wp2
 go_ret
 exact ⟨rfl, gy aj ah⟩
theorem Pn (o : az) (h1 : 0 ≤ o.num) (h2 : o.num < 100) (h : o.rs.size < 1) (w : World) :
  Calls Tryz.prog 139 #[x_ o] w (Rt w (.bool false)) := by
 have IW : decide (o.num < 0) = false := by simp; omega
 have Fq : decide ((100 : Int) ≤ o.num) = false := by simp; omega
 have XO : decide ((o.rs.size : Int) < 1) = true := by simp; omega
 obtain ⟨w0, HW, aj, kC⟩ := st1 (lY o) Ah w
 have ah := bP w0
 go_in
 go_upto_region 1 with (fail)
 rw [HW.out]
 have zc := kC.out _ ah
 go_wp2
 go_ret
 exact ⟨rfl, gy aj ah⟩
theorem Pm (o : az) (h1 : 0 ≤ o.num) (h2 : o.num < 100) (h5 : 1 ≤ o.rs.size) (h : 200 < o.rs.size) (w : World) :
  Calls Tryz.prog 139 #[x_ o] w (Rt w (.bool false)) := by
 have IW : decide (o.num < 0) = false := by simp; omega
 have Fq : decide ((100 : Int) ≤ o.num) = false := by simp; omega
 have XO : decide ((o.rs.size : Int) < 1) = false := by simp; omega
 have ZF : decide ((200 : Int) < (o.rs.size : Int)) = true := by simp; omega
 obtain ⟨w0, HW, aj, kC⟩ := st1 (lY o) Ah w
 have ah := bP w0
 go_in
 go_upto_region 1 with (fail)
 rw [HW.out]
 have zc := kC.out _ ah
 go_wp2
 go_ret
 exact ⟨rfl, gy aj ah⟩
theorem Tk (o : az) (h1 : 0 ≤ o.num) (h2 : o.num < 100) (h5 : 1 ≤ o.rs.size) (h6 : o.rs.size ≤ 200) (hsh : Hid (uO o.na o.nz = false)) (w : World) :
  Calls Tryz.prog 139 #[x_ o] w (Rt w (.bool false)) := by
 have IW : decide (o.num < 0) = false := by simp; omega
 have Fq : decide ((100 : Int) ≤ o.num) = false := by simp; omega
 have XO : decide ((o.rs.size : Int) < 1) = false := by simp; omega
 have ZF : decide ((200 : Int) < (o.rs.size : Int)) = false := by simp; omega
 obtain ⟨w0, HW, aj, kC⟩ := st1 (lY o) Ah w
 have ah := bP w0
 go_in
 go_upto_region 1 with (fail)
 rw [HW.out]
 have zc := kC.out _ ah
 go_wp2_with fail
 clear zc
 refine eH kC ah (iN o.A o.na o.ca o.C o.Z o.nz o.cz false hsh _) fun w1 ax zc => ?_
 go_wp2
 go_ret
 exact ⟨rfl, gy aj ax⟩
theorem Tj (o : az) (h1 : 0 ≤ o.num) (h2 : o.num < 100) (h5 : 1 ≤ o.rs.size) (h6 : o.rs.size ≤ 200) (hsh : Hid (uO o.na o.nz = true)) (h3 : ¬ o.np ≤ 8) (w : World) :
  Calls Tryz.prog 139 #[x_ o] w (Rt w (.bool false)) := by
 have IW : decide (o.num < 0) = false := by simp; omega
 have Fq : decide ((100 : Int) ≤ o.num) = false := by simp; omega
 have XO : decide ((o.rs.size : Int) < 1) = false := by simp; omega
 have ZF : decide ((200 : Int) < (o.rs.size : Int)) = false := by simp; omega
 have XP : decide ((8 : Int) < (o.np : Int)) = true := by simp; omega
 obtain ⟨w0, HW, aj, kC⟩ := st1 (lY o) Ah w
 have ah := bP w0
 go_in
 go_upto_region 1 with (fail)
 rw [HW.out]
 have zc := kC.out _ ah
 go_wp2_with fail
 clear zc
 refine eH kC ah (iN o.A o.na o.ca o.C o.Z o.nz o.cz true hsh _) fun w1 ax zc => ?_
 go_wp2
 go_ret
 exact ⟨rfl, gy aj ax⟩
theorem Ti (o : az) (h1 : 0 ≤ o.num) (h2 : o.num < 100) (h5 : 1 ≤ o.rs.size) (h6 : o.rs.size ≤ 200) (hsh : Hid (uO o.na o.nz = true)) (h3 : o.np ≤ 8) (h4 : ¬ 0 ≤ o.key) (w : World) :
  Calls Tryz.prog 139 #[x_ o] w (Rt w (.bool false)) := by
 have IW : decide (o.num < 0) = false := by simp; omega
 have Fq : decide ((100 : Int) ≤ o.num) = false := by simp; omega
 have XO : decide ((o.rs.size : Int) < 1) = false := by simp; omega
 have ZF : decide ((200 : Int) < (o.rs.size : Int)) = false := by simp; omega
 have XP : decide ((8 : Int) < (o.np : Int)) = false := by simp; omega
 have dk0 : decide (o.key < 0) = true := by simp; omega
 obtain ⟨w0, HW, aj, kC⟩ := st1 (lY o) Ah w
 have ah := bP w0
 go_in
 go_upto_region 1 with (fail)
 rw [HW.out]
 have zc := kC.out _ ah
 go_wp2_with fail
 clear zc
 refine eH kC ah (iN o.A o.na o.ca o.C o.Z o.nz o.cz true hsh _) fun w1 ax zc => ?_
 go_wp2
 go_ret
 exact ⟨rfl, gy aj ax⟩
theorem Tg (o : az) (h1 : 0 ≤ o.num) (h2 : o.num < 100) (h5 : 1 ≤ o.rs.size) (h6 : o.rs.size ≤ 200) (hsh : Hid (uO o.na o.nz = true)) (h3 : o.np ≤ 8) (h4 : 0 ≤ o.key) (w : World) (ho : Hid (dW w o)) :
  Calls Tryz.prog 139 #[x_ o] w (Rt w (.bool (jJ o.ps o.np))) := by
 have IW : decide (o.num < 0) = false := by simp; omega
 have Fq : decide ((100 : Int) ≤ o.num) = false := by simp; omega
 have XO : decide ((o.rs.size : Int) < 1) = false := by simp; omega
 have ZF : decide ((200 : Int) < (o.rs.size : Int)) = false := by simp; omega
 have XP : decide ((8 : Int) < (o.np : Int)) = false := by simp; omega
 have dk0 : decide (o.key < 0) = false := by simp; omega
 obtain ⟨w0, HW, aj, kC⟩ := st1 (lY o) Ah w
 have kO := fq (fun u => dW u o) aj ho (·.below)
 have ah := bP w0
 clear ho
 go_in
 go_upto_region 1 with (fail)
 rw [HW.out]
 have zc := kC.out _ ah
 go_wp2_with fail
 clear zc
 refine eH kC ah (iN o.A o.na o.ca o.C o.Z o.nz o.cz true hsh _) fun w1 ax zc => ?_
 go_wp2
 clear zc
 go_loopw [3] (fun i wr => ∃ k : Nat, k ≤ o.np ∧ i = .int .i64 k ∧ Hid (jJ o.ps k = true) ∧ Hid (Below w0.heap.size w0 wr)) (fun i _ => o.np - (intOf i).toNat)
 case atStart => exact ⟨0, by omega, rfl, aa rfl, ax⟩
 case round =>
  obtain ⟨k, hk, rfl, HR, aF⟩ := hrel
  by_cases hlt : k < o.np
  ·
   obtain ⟨ok1, JM, ⟨JL, Rl⟩, Rn, Rm, JK⟩ := (kO.out _ aF).out
   have hkl : k < o.ps.length := by rw [JL]; exact hlt
   obtain ⟨b, f, hA, j0, j1, j2, j3, j4, j5⟩ := JK k hkl
   clear j5
   have Hr := aa JK
   have HKP : Hid (k ≤ o.ps.length) := aa (by omega)
   have hkc : k ≤ o.cp := by omega
   clear ok1 JM JL Rn Rm JK hkl
   obtain ⟨p, hp⟩ : ∃ p, o.ps.getD k aH = p := ⟨_, rfl⟩
   have mY := aa hp
   rw [hp] at j0 j1 j2 j3 j4
   obtain ⟨LA, Uy⟩ : ∃ x, o.L = x := ⟨_, rfl⟩
   have Ak := aa Uy
   rw [Uy] at hA Hr
   subst hA
   clear hp Uy
   by_cases hx0 : p.ix < 1
   ·
    have VP : decide (p.ix < 1) = true := by simp; omega
    have HF : Hid (jJ o.ps o.np = false) := aa (lN (k := k) (by rw [sZ, mY.out]; simp; omega) hlt)
    clear HR
    have d_ := bP wr
    have kP := qO (w := wr) (fun u => Pa u (some ⟨b, f, none⟩) o.ps) Hr.out (·.below)
    obtain ⟨wm, wh, xH, xG, Ap, Dj, Di, yS, Fz⟩ := kC.out _ aF
    rw [Ak.out] at yS
    have kC := aa (show ∀ u : World, Hid (Below w0.heap.size w0 u) → u.cell? ⟨w.heap.size, 0, none⟩ = some (.int .i64 o.num) ∧ u.cell? ⟨w.heap.size, 1, none⟩ = some (.string o.rs) ∧ u.cell? ⟨w.heap.size, 2, none⟩ = some (.int .i64 o.E1) ∧ u.cell? ⟨w.heap.size, 3, none⟩ = some (.int .i64 o.E2) ∧ u.cell? ⟨w.heap.size, 4, none⟩ = some (.slice o.A o.na o.ca) ∧ u.cell? ⟨w.heap.size, 5, none⟩ = some (.int .i64 o.C) ∧ u.cell? ⟨w.heap.size, 6, none⟩ = some (.slice o.Z o.nz o.cz) ∧ u.cell? ⟨w.heap.size, 7, none⟩ = some (.slice (some ⟨b, f, none⟩) o.np o.cp) ∧ u.cell? ⟨w.heap.size, 8, none⟩ = some (.int .i64 o.key) from fun u h => by
     have hk := kC.out u h
     rw [Ak.out] at hk
     exact hk)
    obtain ⟨w2, hw, oU, C8, -, kS⟩ := qZ (oh p) Ai wr
    have aK := jY aF oU
    have dm := jY d_ oU
    have bB := bP w2
    clear oU
    have tJ := kC.out _ aK
    have oJ := kS.out _ bB
    go_upto_region 7 with (fail)
    clear wm wh xH xG Ap Dj Di yS Fz tJ oJ hw
    have zc := kC.out _ aK
    have ng := kS.out _ bB
    clear j0 j1 j2 j3 j4
    clear zc ng
    have hO := aa (fun (u : World) (h : Hid (Below w0.heap.size w0 u ∧ Below wr.heap.size wr u ∧ Below w2.heap.size w2 u)) => And.intro (kC.out u (aa h.out.1)) (kS.out u (aa h.out.2.2)))
    refine wU (fun u => Below w0.heap.size w0 u ∧ Below wr.heap.size wr u ∧ Below w2.heap.size w2 u) [] (bb3 (aa ⟨aK.out, dm.out, bB.out⟩) ((Below.refl _ _).drew)) (fun hHeld => ?_)
    refine aU 0 1 2 3 ?_
    refine jD 4 ?_
    refine jD 5 ?_
    refine jD 6 ?_
    refine aL 7 ?_
    refine aL 8 ?_
    refine ek 9 10 11 12 ?_
    refine jD 13 ?_
    refine jD 14 ?_
    refine jD 15 ?_
    refine aL 16 ?_
    refine aL 17 ?_
    refine ek 18 19 20 21 ?_
    refine aL 22 ?_
    refine gH ?_
    clear hO
    have jP := (aa hHeld.out.1)
    have C_ := (aa hHeld.out.2.1)
    have qG := (aa hHeld.out.2.2)
    clear hHeld
    have zc := kC.out _ jP
    have ng := kS.out _ qG
    have bV := ag aj.out jP.out
    go_wp2
    go_ret
    exact ⟨(by rw [HF.out]; try rfl), bV⟩
   ·
    by_cases hx1 : 8 < p.ix
    ·
     have VP : decide (p.ix < 1) = false := by simp; omega
     have XM : decide ((8 : Int) < p.ix) = true := by simp; omega
     have HF : Hid (jJ o.ps o.np = false) := aa (lN (k := k) (by rw [sZ, mY.out]; simp; omega) hlt)
     clear HR
     have d_ := bP wr
     have kP := qO (w := wr) (fun u => Pa u (some ⟨b, f, none⟩) o.ps) Hr.out (·.below)
     obtain ⟨wm, wh, xH, xG, Ap, Dj, Di, yS, Fz⟩ := kC.out _ aF
     rw [Ak.out] at yS
     have kC := aa (show ∀ u : World, Hid (Below w0.heap.size w0 u) → u.cell? ⟨w.heap.size, 0, none⟩ = some (.int .i64 o.num) ∧ u.cell? ⟨w.heap.size, 1, none⟩ = some (.string o.rs) ∧ u.cell? ⟨w.heap.size, 2, none⟩ = some (.int .i64 o.E1) ∧ u.cell? ⟨w.heap.size, 3, none⟩ = some (.int .i64 o.E2) ∧ u.cell? ⟨w.heap.size, 4, none⟩ = some (.slice o.A o.na o.ca) ∧ u.cell? ⟨w.heap.size, 5, none⟩ = some (.int .i64 o.C) ∧ u.cell? ⟨w.heap.size, 6, none⟩ = some (.slice o.Z o.nz o.cz) ∧ u.cell? ⟨w.heap.size, 7, none⟩ = some (.slice (some ⟨b, f, none⟩) o.np o.cp) ∧ u.cell? ⟨w.heap.size, 8, none⟩ = some (.int .i64 o.key) from fun u h => by
      have hk := kC.out u h
      rw [Ak.out] at hk
      exact hk)
     obtain ⟨w2, hw, oU, C8, -, kS⟩ := qZ (oh p) Ai wr
     have aK := jY aF oU
     have dm := jY d_ oU
     have bB := bP w2
     clear oU
     have tJ := kC.out _ aK
     have oJ := kS.out _ bB
     go_upto_region 7 with (fail)
     clear wm wh xH xG Ap Dj Di yS Fz tJ oJ hw
     have zc := kC.out _ aK
     have ng := kS.out _ bB
     clear j0 j1 j2 j3 j4
     clear zc ng
     have hO := aa (fun (u : World) (h : Hid (Below w0.heap.size w0 u ∧ Below wr.heap.size wr u ∧ Below w2.heap.size w2 u)) => And.intro (kC.out u (aa h.out.1)) (kS.out u (aa h.out.2.2)))
     refine wU (fun u => Below w0.heap.size w0 u ∧ Below wr.heap.size wr u ∧ Below w2.heap.size w2 u) [] (bb3 (aa ⟨aK.out, dm.out, bB.out⟩) ((Below.refl _ _).drew)) (fun hHeld => ?_)
     refine aU 0 1 2 3 ?_
     refine aU 4 5 6 7 ?_
     refine aL 8 ?_
     refine ek 9 10 11 12 ?_
     refine jD 13 ?_
     refine jD 14 ?_
     refine jD 15 ?_
     refine aL 16 ?_
     refine aL 17 ?_
     refine ek 18 19 20 21 ?_
     refine aL 22 ?_
     refine gH ?_
     clear hO
     have jP := (aa hHeld.out.1)
     have C_ := (aa hHeld.out.2.1)
     have qG := (aa hHeld.out.2.2)
     clear hHeld
     have zc := kC.out _ jP
     have ng := kS.out _ qG
     have bV := ag aj.out jP.out
     go_wp2
     go_ret
     exact ⟨(by rw [HF.out]; try rfl), bV⟩
    ·
     cases hfr : qX o.ps p.ix k with
     | true =>
      cases hss : uO p.na p.nz with
      | true =>
       have VP : decide (p.ix < 1) = false := by simp; omega
       have XM : decide ((8 : Int) < p.ix) = false := by simp; omega
       have HS : Hid (jJ o.ps (k + 1) = true) := aa (by rw [jJ, HR.out, sZ, mY.out]; simp [hfr, hss]; omega)
       have uk := aa hfr
       have Du := aa hss
       clear hfr hss HR
       have d_ := bP wr
       have kP := qO (w := wr) (fun u => Pa u (some ⟨b, f, none⟩) o.ps) Hr.out (·.below)
       obtain ⟨wm, wh, xH, xG, Ap, Dj, Di, yS, Fz⟩ := kC.out _ aF
       rw [Ak.out] at yS
       have kC := aa (show ∀ u : World, Hid (Below w0.heap.size w0 u) → u.cell? ⟨w.heap.size, 0, none⟩ = some (.int .i64 o.num) ∧ u.cell? ⟨w.heap.size, 1, none⟩ = some (.string o.rs) ∧ u.cell? ⟨w.heap.size, 2, none⟩ = some (.int .i64 o.E1) ∧ u.cell? ⟨w.heap.size, 3, none⟩ = some (.int .i64 o.E2) ∧ u.cell? ⟨w.heap.size, 4, none⟩ = some (.slice o.A o.na o.ca) ∧ u.cell? ⟨w.heap.size, 5, none⟩ = some (.int .i64 o.C) ∧ u.cell? ⟨w.heap.size, 6, none⟩ = some (.slice o.Z o.nz o.cz) ∧ u.cell? ⟨w.heap.size, 7, none⟩ = some (.slice (some ⟨b, f, none⟩) o.np o.cp) ∧ u.cell? ⟨w.heap.size, 8, none⟩ = some (.int .i64 o.key) from fun u h => by
        have hk := kC.out u h
        rw [Ak.out] at hk
        exact hk)
       obtain ⟨w2, hw, oU, C8, -, kS⟩ := qZ (oh p) Ai wr
       have aK := jY aF oU
       have dm := jY d_ oU
       have bB := bP w2
       clear oU
       have tJ := kC.out _ aK
       have oJ := kS.out _ bB
       go_upto_region 7 with (fail)
       clear wm wh xH xG Ap Dj Di yS Fz tJ oJ hw
       have zc := kC.out _ aK
       have ng := kS.out _ bB
       clear j0 j1 j2 j3 j4
       clear zc ng
       have hO := aa (fun (u : World) (h : Hid (Below w0.heap.size w0 u ∧ Below wr.heap.size wr u ∧ Below w2.heap.size w2 u)) => And.intro (kC.out u (aa h.out.1)) (kS.out u (aa h.out.2.2)))
       refine wU (fun u => Below w0.heap.size w0 u ∧ Below wr.heap.size wr u ∧ Below w2.heap.size w2 u) [] (bb3 (aa ⟨aK.out, dm.out, bB.out⟩) ((Below.refl _ _).drew)) (fun hHeld => ?_)
       refine aU 0 1 2 3 ?_
       refine aU 4 5 6 7 ?_
       refine aU 8 9 10 11 ?_
       refine aL 12 ?_
       refine aL 13 ?_
       refine aL 14 ?_
       refine bY 15 fun K hK => ?_
       go_simp
       refine (sJ (some ⟨b, f, none⟩) o.ps k o.cp p.ix true uk HKP (by omega) _ (kP.out _ (aa hHeld.out.2.1))).mono ?_
       rintro e wA ⟨rfl, bS⟩
       refine hK.out _ _ (bb3 hHeld bS) (fun hHeld => ?_)
       clear hK K
       refine aU 16 17 18 19 ?_
       refine bY 20 fun K hK => ?_
       go_simp
       refine (iN p.A p.na p.ca p.C p.Z p.nz p.cz true Du _).mono ?_
       rintro e wA ⟨rfl, bS⟩
       refine hK.out _ _ (bb3 hHeld bS) (fun hHeld => ?_)
       clear hK K
       refine aL 21 ?_
       refine aL 22 ?_
       refine gH ?_
       clear hO
       have jP := (aa hHeld.out.1)
       have C_ := (aa hHeld.out.2.1)
       have qG := (aa hHeld.out.2.2)
       clear hHeld
       have zc := kC.out _ jP
       have ng := kS.out _ qG
       go_wp2
       go_roundw
       case rel => exact ⟨k + 1, by omega, by go_num, HS, jP⟩
       case measure => simp [intOf]; omega
      | false =>
       have VP : decide (p.ix < 1) = false := by simp; omega
       have XM : decide ((8 : Int) < p.ix) = false := by simp; omega
       have HF : Hid (jJ o.ps o.np = false) := aa (lN (k := k) (by rw [sZ, mY.out]; simp [hss]) hlt)
       have uk := aa hfr
       have Du := aa hss
       clear hfr hss HR
       have d_ := bP wr
       have kP := qO (w := wr) (fun u => Pa u (some ⟨b, f, none⟩) o.ps) Hr.out (·.below)
       obtain ⟨wm, wh, xH, xG, Ap, Dj, Di, yS, Fz⟩ := kC.out _ aF
       rw [Ak.out] at yS
       have kC := aa (show ∀ u : World, Hid (Below w0.heap.size w0 u) → u.cell? ⟨w.heap.size, 0, none⟩ = some (.int .i64 o.num) ∧ u.cell? ⟨w.heap.size, 1, none⟩ = some (.string o.rs) ∧ u.cell? ⟨w.heap.size, 2, none⟩ = some (.int .i64 o.E1) ∧ u.cell? ⟨w.heap.size, 3, none⟩ = some (.int .i64 o.E2) ∧ u.cell? ⟨w.heap.size, 4, none⟩ = some (.slice o.A o.na o.ca) ∧ u.cell? ⟨w.heap.size, 5, none⟩ = some (.int .i64 o.C) ∧ u.cell? ⟨w.heap.size, 6, none⟩ = some (.slice o.Z o.nz o.cz) ∧ u.cell? ⟨w.heap.size, 7, none⟩ = some (.slice (some ⟨b, f, none⟩) o.np o.cp) ∧ u.cell? ⟨w.heap.size, 8, none⟩ = some (.int .i64 o.key) from fun u h => by
        have hk := kC.out u h
        rw [Ak.out] at hk
        exact hk)
       obtain ⟨w2, hw, oU, C8, -, kS⟩ := qZ (oh p) Ai wr
       have aK := jY aF oU
       have dm := jY d_ oU
       have bB := bP w2
       clear oU
       have tJ := kC.out _ aK
       have oJ := kS.out _ bB
       go_upto_region 7 with (fail)
       clear wm wh xH xG Ap Dj Di yS Fz tJ oJ hw
       have zc := kC.out _ aK
       have ng := kS.out _ bB
       clear j0 j1 j2 j3 j4
       clear zc ng
       have hO := aa (fun (u : World) (h : Hid (Below w0.heap.size w0 u ∧ Below wr.heap.size wr u ∧ Below w2.heap.size w2 u)) => And.intro (kC.out u (aa h.out.1)) (kS.out u (aa h.out.2.2)))
       refine wU (fun u => Below w0.heap.size w0 u ∧ Below wr.heap.size wr u ∧ Below w2.heap.size w2 u) [] (bb3 (aa ⟨aK.out, dm.out, bB.out⟩) ((Below.refl _ _).drew)) (fun hHeld => ?_)
       refine aU 0 1 2 3 ?_
       refine aU 4 5 6 7 ?_
       refine aU 8 9 10 11 ?_
       refine aL 12 ?_
       refine aL 13 ?_
       refine aL 14 ?_
       refine bY 15 fun K hK => ?_
       go_simp
       refine (sJ (some ⟨b, f, none⟩) o.ps k o.cp p.ix true uk HKP (by omega) _ (kP.out _ (aa hHeld.out.2.1))).mono ?_
       rintro e wA ⟨rfl, bS⟩
       refine hK.out _ _ (bb3 hHeld bS) (fun hHeld => ?_)
       clear hK K
       refine aU 16 17 18 19 ?_
       refine bY 20 fun K hK => ?_
       go_simp
       refine (iN p.A p.na p.ca p.C p.Z p.nz p.cz false Du _).mono ?_
       rintro e wA ⟨rfl, bS⟩
       refine hK.out _ _ (bb3 hHeld bS) (fun hHeld => ?_)
       clear hK K
       refine aL 21 ?_
       refine aL 22 ?_
       refine gH ?_
       clear hO
       have jP := (aa hHeld.out.1)
       have C_ := (aa hHeld.out.2.1)
       have qG := (aa hHeld.out.2.2)
       clear hHeld
       have zc := kC.out _ jP
       have ng := kS.out _ qG
       have bV := ag aj.out jP.out
       go_wp2
       go_ret
       exact ⟨(by rw [HF.out]; try rfl), bV⟩
     | false =>
      have VP : decide (p.ix < 1) = false := by simp; omega
      have XM : decide ((8 : Int) < p.ix) = false := by simp; omega
      have HF : Hid (jJ o.ps o.np = false) := aa (lN (k := k) (by rw [sZ, mY.out]; simp [hfr]) hlt)
      have uk := aa hfr
      clear hfr HR
      have d_ := bP wr
      have kP := qO (w := wr) (fun u => Pa u (some ⟨b, f, none⟩) o.ps) Hr.out (·.below)
      obtain ⟨wm, wh, xH, xG, Ap, Dj, Di, yS, Fz⟩ := kC.out _ aF
      rw [Ak.out] at yS
      have kC := aa (show ∀ u : World, Hid (Below w0.heap.size w0 u) → u.cell? ⟨w.heap.size, 0, none⟩ = some (.int .i64 o.num) ∧ u.cell? ⟨w.heap.size, 1, none⟩ = some (.string o.rs) ∧ u.cell? ⟨w.heap.size, 2, none⟩ = some (.int .i64 o.E1) ∧ u.cell? ⟨w.heap.size, 3, none⟩ = some (.int .i64 o.E2) ∧ u.cell? ⟨w.heap.size, 4, none⟩ = some (.slice o.A o.na o.ca) ∧ u.cell? ⟨w.heap.size, 5, none⟩ = some (.int .i64 o.C) ∧ u.cell? ⟨w.heap.size, 6, none⟩ = some (.slice o.Z o.nz o.cz) ∧ u.cell? ⟨w.heap.size, 7, none⟩ = some (.slice (some ⟨b, f, none⟩) o.np o.cp) ∧ u.cell? ⟨w.heap.size, 8, none⟩ = some (.int .i64 o.key) from fun u h => by
       have hk := kC.out u h
       rw [Ak.out] at hk
       exact hk)
      obtain ⟨w2, hw, oU, C8, -, kS⟩ := qZ (oh p) Ai wr
      have aK := jY aF oU
      have dm := jY d_ oU
      have bB := bP w2
      clear oU
      have tJ := kC.out _ aK
      have oJ := kS.out _ bB
      go_upto_region 7 with (fail)
      clear wm wh xH xG Ap Dj Di yS Fz tJ oJ hw
      have zc := kC.out _ aK
      have ng := kS.out _ bB
      clear j0 j1 j2 j3 j4
      clear zc ng
      have hO := aa (fun (u : World) (h : Hid (Below w0.heap.size w0 u ∧ Below wr.heap.size wr u ∧ Below w2.heap.size w2 u)) => And.intro (kC.out u (aa h.out.1)) (kS.out u (aa h.out.2.2)))
      refine wU (fun u => Below w0.heap.size w0 u ∧ Below wr.heap.size wr u ∧ Below w2.heap.size w2 u) [] (bb3 (aa ⟨aK.out, dm.out, bB.out⟩) ((Below.refl _ _).drew)) (fun hHeld => ?_)
      refine aU 0 1 2 3 ?_
      refine aU 4 5 6 7 ?_
      refine aU 8 9 10 11 ?_
      refine aL 12 ?_
      refine aL 13 ?_
      refine aL 14 ?_
      refine bY 15 fun K hK => ?_
      go_simp
      refine (sJ (some ⟨b, f, none⟩) o.ps k o.cp p.ix false uk HKP (by omega) _ (kP.out _ (aa hHeld.out.2.1))).mono ?_
      rintro e wA ⟨rfl, bS⟩
      refine hK.out _ _ (bb3 hHeld bS) (fun hHeld => ?_)
      clear hK K
      refine aL 16 ?_
      refine aL 17 ?_
      refine ek 18 19 20 21 ?_
      refine aL 22 ?_
      refine gH ?_
      clear hO
      have jP := (aa hHeld.out.1)
      have C_ := (aa hHeld.out.2.1)
      have qG := (aa hHeld.out.2.2)
      clear hHeld
      have zc := kC.out _ jP
      have ng := kS.out _ qG
      have bV := ag aj.out jP.out
      go_wp2
      go_ret
      exact ⟨(by rw [HF.out]; try rfl), bV⟩
  ·
   have hke : k = o.np := by omega
   have HF : Hid (jJ o.ps o.np = true) := aa (by rw [← hke]; exact HR.out)
   have zc := kC.out _ aF
   have bV := ag aj.out aF.out
   rw [hke]
   go_wp2
   go_ret
   exact ⟨(by rw [HF.out]; try rfl), bV⟩
theorem FV (o : az) (r : Bool) (hr : Hid (wV o = r)) (w : World) (ho : Hid (dW w o)) :
  Calls Tryz.prog 139 #[x_ o] w (Rt w (.bool r)) := by
 rw [← hr.out]
 unfold wV
 by_cases h1 : 0 ≤ o.num
 ·
  rw [decide_eq_true h1, Bool.true_and]
  by_cases h2 : o.num < 100
  ·
   rw [decide_eq_true h2, Bool.true_and]
   unfold Jr
   by_cases h5 : 1 ≤ o.rs.size
   ·
    rw [decide_eq_true h5, Bool.true_and]
    by_cases h6 : o.rs.size ≤ 200
    ·
     rw [decide_eq_true h6, Bool.true_and]
     cases hsh : uO o.na o.nz with
     | false => exact Tk o h1 h2 h5 h6 (aa hsh) w
     | true =>
      by_cases h3 : o.np ≤ 8
      ·
       rw [decide_eq_true h3]
       by_cases h4 : 0 ≤ o.key
       ·
        rw [decide_eq_true h4]
        exact Tg o h1 h2 h5 h6 (aa hsh) h3 h4 w ho
       ·
        rw [decide_eq_false h4]
        exact Ti o h1 h2 h5 h6 (aa hsh) h3 h4 w
      ·
       rw [decide_eq_false h3]
       exact Tj o h1 h2 h5 h6 (aa hsh) h3 w
    ·
     rw [decide_eq_false h6]
     exact Pm o h1 h2 h5 (by omega) w
   ·
    rw [decide_eq_false h5]
    exact Pn o h1 h2 (by omega) w
  ·
   rw [decide_eq_false h2]
   exact Tm o h1 (by omega) w
 ·
  rw [decide_eq_false h1]
  exact Tn o (by omega) w
theorem Js (p : aV) (hna : Hid (p.al.length = p.na)) (hnz : Hid (p.zs.length = p.nz)) (hb1 : p.na ≤ 1000) (hb2 : p.nz ≤ 1000) (w : World) (hA : Hid (Sl w p.A p.al)) (hZ : Hid (Sl w p.Z p.zs)) :
  Calls Tryz.prog 132 #[Ae p] w (nO (Af p) w) := by
 obtain ⟨w0, HW, aj, kC⟩ := st2 (oh p) AB (.cells #[.int .i64 0, .int .i64 0, .slice none 0 0, .slice none 0 0] 117) sO w
 have kA := mkS aj hA
 have kZ := mkS aj hZ
 have nT := Bg (w0 := w0) (o := .cells #[.int .i64 0, .int .i64 0, .slice none 0 0, .slice none 0 0] 117) (w.heap.size + 1) (by rw [← HW.out]; exact heap_alloc2_new _ _ _)
 have ah := bP w0
 clear hA hZ
 go_in
 go_wp2_with fail
 rw [HW.out]
 have zc := kC.out _ ah
 have jO : Hid (w0.heap.size = w.heap.size + 2) := aa (by rw [← HW.out]; simp)
 go_upto_region 1 with (fail)
 clear zc
 have hO := kC
 have nQ := bF (aa ah.out) (Below.refl _ _).drew
 refine wU (fun u => Below w0.heap.size w0 u) [20] nQ (fun hHeld => ?_)
 obtain ⟨wD, nK⟩ : ∃ u, w0.drew = u := ⟨_, rfl⟩
 rw [nK] at nQ hHeld ⊢
 have zX : Hid (w0.heap.size ≤ wD.heap.size) := aa (by rw [← nK]; exact Nat.le_refl _)
 clear nK
 refine aU 0 1 2 3 ?_
 refine aU 6 7 8 10 ?_
 refine aU 11 12 14 15 ?_
 refine aL 16 ?_
 have FB := nQ
 obtain ⟨u1, hw, HQ, -, -, -⟩ := qZ (.cells #[.int .i64 (p.ix), .int .i64 (p.v)] 3) sO wD
 have nP := aa hw
 clear hw
 refine bY 4 fun K hK => ?_
 go_simp
 rw [nP.out]
 have aS := bF FB HQ.out
 refine hK.out _ _ aS (fun hHeld => ?_)
 clear hK K hHeld
 have FE : Hid (Dt u1 (wD.heap.size) (p.ix) (p.v)) := by rw [← nP.out]; exact (aa (Dt.new wD (p.ix) (p.v)))
 obtain ⟨gE, hg⟩ : ∃ x, wD.heap.size = x := ⟨_, rfl⟩
 rw [hg] at FE ⊢
 clear hg
 have FB := aS
 clear aS nP HQ
 try simp only [qq, Ic.val, Ic.cs, aM, aI]
 refine bY 5 fun K hK => ?_
 go_simp
 refine (mU (some ⟨gE, 0, none⟩) [p.ix, p.v] 2 2 (aa rfl) (by omega) _ (aa FE.out.sl)).mono ?_
 rintro e u2 ⟨cE, rfl, hit, hq⟩
 have aS := bF FB hq
 refine hK.out _ _ aS (fun hHeld => ?_)
 clear hK K hHeld
 have FE := aa (FE.out.below hq)
 have HE := (aa (hit.mono (by have := FB.out.size; omega)))
 have FB := aS
 clear aS
 try simp only [qq, Ic.val, Ic.cs, aM, aI]
 refine bY 9 fun K hK => ?_
 go_simp
 refine (mU p.A p.al p.na p.ca hna (by omega) _ (kA.out _ (aa FB.out))).mono ?_
 rintro e u3 ⟨cA, rfl, hit, hq⟩
 have aS := bF FB hq
 refine hK.out _ _ aS (fun hHeld => ?_)
 clear hK K hHeld
 have FE := aa (FE.out.below hq)
 have HE := aa (HE.out.kept hq)
 have HA := (aa (hit.mono (by have := FB.out.size; omega)))
 have FB := aS
 clear aS
 try simp only [qq, Ic.val, Ic.cs, aM, aI]
 refine bY 13 fun K hK => ?_
 go_simp
 refine (og p.C _).mono ?_
 rintro e u4 ⟨rfl, hq⟩
 have aS := bF FB hq
 refine hK.out _ _ aS (fun hHeld => ?_)
 clear hK K hHeld
 have FE := aa (FE.out.below hq)
 have HE := aa (HE.out.kept hq)
 have HA := aa (HA.out.kept hq)
 have FB := aS
 clear aS
 try simp only [qq, Ic.val, Ic.cs, aM, aI]
 refine bY 17 fun K hK => ?_
 go_simp
 refine (mU p.Z p.zs p.nz p.cz hnz (by omega) _ (kZ.out _ (aa FB.out))).mono ?_
 rintro e u5 ⟨cZ, rfl, hit, hq⟩
 have aS := bF FB hq
 refine hK.out _ _ aS (fun hHeld => ?_)
 clear hK K hHeld
 have FE := aa (FE.out.below hq)
 have HE := aa (HE.out.kept hq)
 have HA := aa (HA.out.kept hq)
 have HZ := (aa (hit.mono (by have := FB.out.size; omega)))
 have FB := aS
 clear aS
 try simp only [qq, Ic.val, Ic.cs, aM, aI]
 obtain ⟨u6, hw, HQ, -, -, -⟩ := qZ (.cells #[.int .i64 cE.kind, .int .i64 cE.n, .slice cE.B cE.nb cE.cb, .slice cE.L cE.nl cE.cl, .int .i64 cA.kind, .int .i64 cA.n, .slice cA.B cA.nb cA.cb, .slice cA.L cA.nl cA.cl, .int .i64 1, .int .i64 p.C, .slice none 0 0, .slice none 0 0, .int .i64 cZ.kind, .int .i64 cZ.n, .slice cZ.B cZ.nb cZ.cb, .slice cZ.L cZ.nl cZ.cl] 117) sO u5
 have nP := aa hw
 clear hw
 refine bY 18 fun K hK => ?_
 go_simp
 rw [nP.out]
 have aS := bF FB HQ.out
 refine hK.out _ _ aS (fun hHeld => ?_)
 clear hK K hHeld
 have FE := aa (FE.out.below HQ.out)
 have HE := aa (HE.out.kept HQ.out)
 have HA := aa (HA.out.kept HQ.out)
 have HZ := aa (HZ.out.kept HQ.out)
 have FL : Hid (u6.heap[(u5.heap.size)]? = some (.cells #[.int .i64 cE.kind, .int .i64 cE.n, .slice cE.B cE.nb cE.cb, .slice cE.L cE.nl cE.cl, .int .i64 cA.kind, .int .i64 cA.n, .slice cA.B cA.nb cA.cb, .slice cA.L cA.nl cA.cl, .int .i64 1, .int .i64 p.C, .slice none 0 0, .slice none 0 0, .int .i64 cZ.kind, .int .i64 cZ.n, .slice cZ.B cZ.nb cZ.cb, .slice cZ.L cZ.nl cZ.cl] 117)) := by rw [← nP.out]; exact (aa (heap_alloc_new u5 _))
 have lZ : Hid (w0.heap.size ≤ (u5.heap.size)) := (aa (by have := FB.out.size; omega))
 obtain ⟨gL, hg⟩ : ∃ x, u5.heap.size = x := ⟨_, rfl⟩
 rw [hg] at FL lZ ⊢
 clear hg
 have FB := aS
 clear aS nP HQ
 try simp only [qq, Ic.val, Ic.cs, aM, aI]
 refine bY 19 fun K hK => ?_
 go_simp
 refine (rC (some ⟨gL, 0, none⟩) 4 4 _).mono ?_
 rintro e u ⟨rfl, hq⟩
 have aS := bF FB hq
 refine hK.out _ _ aS (fun hHeld => ?_)
 clear hK K hHeld
 have FE := aa (FE.out.below hq)
 have HE := aa (HE.out.kept hq)
 have HA := aa (HA.out.kept hq)
 have HZ := aa (HZ.out.kept hq)
 have FL := aa (bG FL.out hq)
 have lZ := lZ
 have FB := aS
 clear aS
 try simp only [qq, Ic.val, Ic.cs, aM, aI]
 have hHeld := FB
 have hT := trivial
 have ha0 := trivial
 have um := FB
 have pU := nT.out _ (aa FB.out)
 refine mR 20 fun K hK => ?_
 rw [show (if Region.wanted _ _ = true then _ else _ : Prop) = _ from if_pos rfl]
 refine wp_store_row 117 _ _ rfl (w.heap.size + 1) (Ic.cs (Ic.mk 3 0 none 0 0 (some ⟨gL, 0, none⟩) 4 4)) rfl rfl 117 _ pU.out (cK _) rfl (jy _) ?_
 refine hK.out _ _ ?_
 clear hK K
 try simp only [qq]
 refine gH ?_
 have hit : qE w0.heap.size u (Af p) (Ic.mk 3 0 none 0 0 (some ⟨gL, 0, none⟩) 4 4) := sI (fun k9 => match k9 with | 0 => cE | 1 => cA | 2 => aM p.C | _ => cZ) FL.out lZ.out rfl (fun k9 hk => by
   rcases (show k9 = 0 ∨ k9 = 1 ∨ k9 = 2 ∨ k9 = 3 by omega) with rfl | rfl | rfl | rfl <;> exact ⟨rfl, rfl, rfl, rfl⟩) (fun k9 hk => by
   rcases (show k9 = 0 ∨ k9 = 1 ∨ k9 = 2 ∨ k9 = 3 by omega) with rfl | rfl | rfl | rfl
   · exact HE.out
   · exact HA.out
   · exact oz _ _ _
   · exact HZ.out)
 have hit2 := (hit.setRow (g := w.heap.size + 1) (by have := jO.out; omega) (Ic.cs (Ic.mk 3 0 none 0 0 (some ⟨gL, 0, none⟩) 4 4))).mono (lo' := w.heap.size) (by have := jO.out; omega)
 have bV := ai (ag aj.out FB.out) (cs := Ic.cs (Ic.mk 3 0 none 0 0 (some ⟨gL, 0, none⟩) 4 4)) (Nat.le_add_right w.heap.size 1)
 have hrw := setRow_heap _ _ _ (Ic.cs (Ic.mk 3 0 none 0 0 (some ⟨gL, 0, none⟩) 4 4)) _ _ pU.out
 go_wp2
 exact bodyPost_ret (v := (Ic.mk 3 0 none 0 0 (some ⟨gL, 0, none⟩) 4 4).val) (aD (p := 2) (ty := 117) rfl _ _ ⟨w.heap.size + 1, 0, none⟩ _ rfl (run_loadVar_row _ _ _ _ _ _ _ hrw Tryz.underlying117 rfl (cK _))) rfl ⟨_, rfl, hit2, bV⟩
theorem wT (o : az) (hs : fH o) (w : World) (ho : Hid (dW w o)) :
  Calls Tryz.prog 82 #[x_ o] w (nO (xk o) w) := by
 obtain ⟨w0, HW, aj, kC⟩ := st2 (lY o) ZH (.cells #[.int .i64 0, .int .i64 0, .slice none 0 0, .slice none 0 0] 117) sO w
 have kO := fq (fun u => dW u o) aj ho (·.below)
 have nT := Bg (w0 := w0) (o := .cells #[.int .i64 0, .int .i64 0, .slice none 0 0, .slice none 0 0] 117) (w.heap.size + 1) (by rw [← HW.out]; exact heap_alloc2_new _ _ _)
 have ah := bP w0
 clear ho
 go_in
 go_wp2_with fail
 rw [HW.out]
 have zc := kC.out _ ah
 have jO : Hid (w0.heap.size = w.heap.size + 2) := aa (by rw [← HW.out]; simp)
 go_wp2
 clear zc
 obtain ⟨i0, hi, hz0, hz1, hz2⟩ := info_parts jl
 obtain ⟨⟨WH, Rl⟩, ok8⟩ : (o.ps.length = o.np ∧ o.np ≤ o.cp) ∧ o.ps.length ≤ 8 := ⟨((kO.out _ ah).out).2.2.1, hs.n⟩
 go_loopw [3, 4] (fun v i u => ∃ (k : Nat) (cs : List Ic), k ≤ o.np ∧ i = .int .i64 k ∧ Hid (cs.length = k) ∧ Hid (dO u w0.heap.size v cs) ∧ Hid (∀ j, j < k → Fs v.ownBlock w0.heap.size u (Af (o.ps.getD j aH)) (cs.getD j default)) ∧ Hid (Below w0.heap.size w0 u)) (fun _ i _ => o.np - (intOf i).toNat)
 case atStart => exact ⟨0, [], by omega, rfl, aa rfl, aa (rM _ _), aa (fun j h => absurd h (by omega)), ah⟩
 case round =>
  obtain ⟨k, cs, hk, rfl, qH, HO, HG, aF⟩ := hrel
  obtain ⟨v, rfl⟩ : ∃ v9, v9 = u3 := ⟨_, rfl⟩
  by_cases hlt : k < o.np
  ·
   have hkl : k < o.ps.length := by rw [WH]; exact hlt
   obtain ⟨b, f, hA, j0, j1, j2, j3, j4, j5⟩ := (kO.out _ aF).out.2.2.2.2.2 k hkl
   have Ak := aa hA
   have hps := hs.p _ (zI hkl)
   obtain ⟨p, hp⟩ : ∃ p, o.ps.getD k aH = p := ⟨_, rfl⟩
   have mY := aa hp
   rw [hp] at j0 j1 j2 j3 j4 j5 hps
   obtain ⟨x1, x2, x3, x4⟩ := j5
   have HNA := aa x1
   have HNZ := aa x2
   have RX := aa x3
   have lu := aa x4
   obtain ⟨ML, MK⟩ := hps
   have XW : p.na ≤ 20 := by rw [← x1]; exact ML
   have XV : p.nz ≤ 20 := by rw [← x2]; exact MK
   clear hp hA hkl x1 x2 x3 x4 ML MK
   obtain ⟨LA, Uy⟩ : ∃ x, o.L = x := ⟨_, rfl⟩
   rw [Uy] at Ak
   have HLB := aa Uy
   have aa2 := Ak.out
   subst aa2
   clear Uy
   obtain ⟨wm, wh, xH, xG, Ap, Dj, Di, yS, Fz, -⟩ := kC.out _ aF
   rw [HLB.out] at yS
   have iE := bP wr
   go_wp2_with fail
   refine (Js p HNA HNZ (by omega) (by omega) _ (aa RX.out) (aa lu.out)).mono ?_
   rintro e w1 ⟨cP, rfl, hit, hb0⟩
   have HIT := aa hit
   clear hit
   rw [show cP.val = .agg #[.int .i64 cP.kind, .int .i64 cP.n, .slice cP.B cP.nb cP.cb, .slice cP.L cP.nl cP.cl] from rfl]
   have ax := bF aF hb0
   have d_ := bF iE hb0
   clear wm wh xH xG Ap Dj Di yS Fz hb0
   clear j0 j1 j2 j3 j4
   have hown : w1.ownsRow w0.heap.size 117 4 v k (cs.flatMap aT) := by
    have h := HO.out.keep d_.out
    unfold dO at h
    rwa [qH.out] at h
   have hbz := ax.out.size
   have b1 : k + 1 ≤ maxLen := by unfold maxLen; omega
   have b2 : (k + 1) * 64 ≤ 140737488355328 := by omega
   have b3 : w0.heap.size ≤ (w1.alloc (.cells #[.int .i64 cP.kind, .int .i64 cP.n, .slice cP.B cP.nb cP.cb, .slice cP.L cP.nl cP.cl] 117)).heap.size := by simp; omega
   go_wp2_with (at_builtin; refine wpList_append_lies rfl _ _ 115 rfl w0.heap.size 117 i0 (.agg #[.int .i64 0, .int .i64 0, .slice none 0 0, .slice none 0 0]) 4 64 Tryz.underlying115 hi hz0 hz1 hz2 rfl (by decide) v _ _ rfl (hown.alloc _) ⟨w1.heap.size, 0, none⟩ 1 1 [.int .i64 cP.kind, .int .i64 cP.n, .slice cP.B cP.nb cP.cb, .slice cP.L cP.nl cP.cl] rfl rfl (World.news_of_block (cs := #[.int .i64 cP.kind, .int .i64 cP.n, .slice cP.B cP.nb cP.cb, .slice cP.L cP.nl cP.cl]) (t := 117) (fr := (0, 0)) (heap_alloc_new w1 _)) (by simp [Value.oneCell']) (by decide) b1 b2 b3 _ rfl ?_; intro gg cap wz hown1 hgrow hgg hlt2)
   have hgz : (w1.alloc (.cells #[.int .i64 cP.kind, .int .i64 cP.n, .slice cP.B cP.nb cP.cb, .slice cP.L cP.nl cP.cl] 117)).heap.size ≤ wz.heap.size := hgrow.size
   have aeL := d_.out.size
   have hsq : (w1.alloc (.cells #[.int .i64 cP.kind, .int .i64 cP.n, .slice cP.B cP.nb cP.cb, .slice cP.L cP.nl cP.cl] 117)).heap.size = w1.heap.size + 1 := by simp
   have yO : Hid (dO wz w0.heap.size (.slice (some ⟨gg, 0, none⟩) (k + 1) cap) (cs ++ [cP])) := aa (dO.app qH.out.symm (by simpa [aT] using hown1))
   have Cy : ∀ b, ((.slice (some ⟨gg, 0, none⟩) (k + 1) cap) : Value).ownBlock = some b → v.ownBlock = some b ∨ (w1.alloc (.cells #[.int .i64 cP.kind, .int .i64 cP.n, .slice cP.B cP.nb cP.cb, .slice cP.L cP.nl cP.cl] 117)).heap.size ≤ b := fun b e => by
    cases e
    rcases hgg with e | e
    · exact Or.inl e
    · exact Or.inr (show (w1.alloc (.cells #[.int .i64 cP.kind, .int .i64 cP.n, .slice cP.B cP.nb cP.cb, .slice cP.L cP.nl cP.cl] 117)).heap.size ≤ gg by omega)
   have vK : ∀ b, v.ownBlock = some b → b < wr.heap.size := fun b e => (World.ownsRow.lt HO.out b e).2
   have Q5 : Hid (∀ j, j < k + 1 → Fs ((.slice (some ⟨gg, 0, none⟩) (k + 1) cap) : Value).ownBlock w0.heap.size wz (Af (o.ps.getD j aH)) ((cs ++ [cP]).getD j default)) := aa (fun j hj => by
    by_cases e : j = k
    ·
     subst e
     rw [mY.out, show (cs ++ [cP]).getD j default = cP by rw [List.getD_eq_getElem?_getD, List.getElem?_append_right (by rw [qH.out]; exact Nat.le_refl _), qH.out, Nat.sub_self]; rfl]
     exact (((HIT.out.kept (af _ (.cells #[.int .i64 cP.kind, .int .i64 cP.n, .slice cP.B cP.nb cP.cb, .slice cP.L cP.nl cP.cl] 117))).g (lo := w0.heap.size) (by have := aF.out.size; omega) (fun b e => vK b e)).grown hgrow hgz Cy)
    ·
     rw [show (cs ++ [cP]).getD j default = cs.getD j default by rw [List.getD_eq_getElem?_getD, List.getElem?_append_left (by rw [qH.out]; omega), ← List.getD_eq_getElem?_getD]]
     exact (((HG.out j (by omega)).kept (ag d_.out (af _ (.cells #[.int .i64 cP.kind, .int .i64 cP.n, .slice cP.B cP.nb cP.cb, .slice cP.L cP.nl cP.cl] 117)))).grown hgrow hgz Cy))
   have kL : Hid (Below w0.heap.size w0 wz) := aa ((ax.out.alloc (by omega) (.cells #[.int .i64 cP.kind, .int .i64 cP.n, .slice cP.B cP.nb cP.cb, .slice cP.L cP.nl cP.cl] 117)).grown hgrow (by simp; omega) (fun j hj => by have := (World.ownsRow.lt HO.out j hj).1; omega))
   have VC : Hid ((cs ++ [cP]).length = k + 1) := aa (by rw [List.length_append, qH.out]; rfl)
   clear hown hown1 hgrow hgg hlt2 Cy vK b1 b2 b3
   go_roundw
   case rel => exact ⟨k + 1, _, by omega, by go_num, VC, yO, Q5, kL⟩
   case measure => simp [intOf]; omega
  ·
   have hke : k = o.np := by omega
   obtain ⟨L5, KF, hv5, MX⟩ := IG (l := o.ps.map Af) (lo := w0.heap.size) HO.out qH.out (by rw [List.length_map, WH, hke]) (Nat.le_refl _) (fun j hj => by
    rw [show (o.ps.map Af).getD j default = Af (o.ps.getD j aH) by rw [List.getD_eq_getElem?_getD, List.getElem?_map, List.getD_eq_getElem?_getD, List.getElem?_eq_getElem (show j < o.ps.length by omega)]; rfl]
    exact (HG.out j hj).s)
   subst hv5
   have Vt := aa MX
   have VV := aa hke
   clear MX HO HG hke
   have iE := bP wr
   have kA := aa (show ∀ u : World, Hid (Below wr.heap.size wr u) → Hid (Sl u o.A o.al) from fun u h => aa ((kO.out _ aF).out.2.2.2.1.below h.out))
   have kZ := aa (show ∀ u : World, Hid (Below wr.heap.size wr u) → Hid (Sl u o.Z o.zs) from fun u h => aa ((kO.out _ aF).out.2.2.2.2.1.below h.out))
   obtain ⟨q1, q2⟩ : Hid (o.al.length = o.na) ∧ Hid (o.zs.length = o.nz) := ⟨aa (kO.out _ aF).out.1, aa (kO.out _ aF).out.2.1⟩
   have XW : o.na ≤ 20 := by rw [← q1.out]; exact hs.a
   have XV : o.nz ≤ 20 := by rw [← q2.out]; exact hs.z
   have zc := kC.out _ aF
   go_upto_region 6 with (fail)
   clear zc
   have hO := aa (fun (u : World) (h : Hid (Below w0.heap.size w0 u ∧ Below wr.heap.size wr u)) => kC.out u (aa h.out.1))
   have nQ := bb2 (aa ⟨aF.out, iE.out⟩) (Below.refl _ _).drew
   refine wU (fun u => Below w0.heap.size w0 u ∧ Below wr.heap.size wr u) [16] nQ (fun hHeld => ?_)
   obtain ⟨wD, nK⟩ : ∃ u, wr.drew = u := ⟨_, rfl⟩
   rw [nK] at nQ hHeld ⊢
   have zX : Hid (wr.heap.size ≤ wD.heap.size) := aa (by rw [← nK]; exact Nat.le_refl _)
   clear nK
   refine aU 0 1 3 4 ?_
   refine aU 6 7 9 11 ?_
   refine aL 12 ?_
   have FB := nQ
   refine bY 2 fun K hK => ?_
   go_simp
   refine (og o.num _).mono ?_
   rintro e u1 ⟨rfl, hq⟩
   have aS := bb2 FB hq
   refine hK.out _ _ aS (fun hHeld => ?_)
   clear hK K hHeld
   have FB := aS
   clear aS
   try simp only [qq, Ic.val, Ic.cs, aM, aI]
   refine bY 5 fun K hK => ?_
   go_simp
   refine (DX o.rs hs.r0 (by have := hs.r1; omega) _).mono ?_
   rintro e u2 ⟨cR, rfl, hit, hq⟩
   have aS := bb2 FB hq
   refine hK.out _ _ aS (fun hHeld => ?_)
   clear hK K hHeld
   have HR := (aa (hit.mono (by have := FB.out.1.size; omega)))
   have FB := aS
   clear aS
   try simp only [qq, Ic.val, Ic.cs, aM, aI]
   refine bY 8 fun K hK => ?_
   go_simp
   refine (zi o.E1 o.E2 o.A o.na o.ca o.al o.C o.Z o.nz o.cz o.zs q1 q2 (by omega) (by omega) _ (kA.out _ (aa FB.out.2)) (kZ.out _ (aa FB.out.2))).mono ?_
   rintro e u3 ⟨cE, rfl, hit, hq⟩
   have aS := bb2 FB hq
   refine hK.out _ _ aS (fun hHeld => ?_)
   clear hK K hHeld
   have HR := aa (HR.out.kept hq)
   have HE := (aa (hit.mono (by have := FB.out.1.size; omega)))
   have FB := aS
   clear aS
   try simp only [qq, Ic.val, Ic.cs, aM, aI]
   refine bY 10 fun K hK => ?_
   go_simp
   refine (rC L5 k KF _).mono ?_
   rintro e u4 ⟨rfl, hq⟩
   have aS := bb2 FB hq
   refine hK.out _ _ aS (fun hHeld => ?_)
   clear hK K hHeld
   have HR := aa (HR.out.kept hq)
   have HE := aa (HE.out.kept hq)
   have FB := aS
   clear aS
   try simp only [qq, Ic.val, Ic.cs, aM, aI]
   refine bY 13 fun K hK => ?_
   go_simp
   refine (og o.key _).mono ?_
   rintro e u5 ⟨rfl, hq⟩
   have aS := bb2 FB hq
   refine hK.out _ _ aS (fun hHeld => ?_)
   clear hK K hHeld
   have HR := aa (HR.out.kept hq)
   have HE := aa (HE.out.kept hq)
   have FB := aS
   clear aS
   try simp only [qq, Ic.val, Ic.cs, aM, aI]
   obtain ⟨u6, hw, HQ, -, -, -⟩ := qZ (.cells #[.int .i64 1, .int .i64 o.num, .slice none 0 0, .slice none 0 0, .int .i64 cR.kind, .int .i64 cR.n, .slice cR.B cR.nb cR.cb, .slice cR.L cR.nl cR.cl, .int .i64 cE.kind, .int .i64 cE.n, .slice cE.B cE.nb cE.cb, .slice cE.L cE.nl cE.cl, .int .i64 3, .int .i64 0, .slice none 0 0, .slice L5 k KF, .int .i64 1, .int .i64 o.key, .slice none 0 0, .slice none 0 0] 117) sO u5
   have nP := aa hw
   clear hw
   refine bY 14 fun K hK => ?_
   go_simp
   rw [nP.out]
   have aS := bb2 FB HQ.out
   refine hK.out _ _ aS (fun hHeld => ?_)
   clear hK K hHeld
   have HR := aa (HR.out.kept HQ.out)
   have HE := aa (HE.out.kept HQ.out)
   have FL : Hid (u6.heap[(u5.heap.size)]? = some (.cells #[.int .i64 1, .int .i64 o.num, .slice none 0 0, .slice none 0 0, .int .i64 cR.kind, .int .i64 cR.n, .slice cR.B cR.nb cR.cb, .slice cR.L cR.nl cR.cl, .int .i64 cE.kind, .int .i64 cE.n, .slice cE.B cE.nb cE.cb, .slice cE.L cE.nl cE.cl, .int .i64 3, .int .i64 0, .slice none 0 0, .slice L5 k KF, .int .i64 1, .int .i64 o.key, .slice none 0 0, .slice none 0 0] 117)) := by rw [← nP.out]; exact (aa (heap_alloc_new u5 _))
   have lZ : Hid (w0.heap.size ≤ (u5.heap.size)) := (aa (by have := FB.out.1.size; omega))
   obtain ⟨gL, hg⟩ : ∃ x, u5.heap.size = x := ⟨_, rfl⟩
   rw [hg] at FL lZ ⊢
   clear hg
   have FB := aS
   clear aS nP HQ
   try simp only [qq, Ic.val, Ic.cs, aM, aI]
   refine bY 15 fun K hK => ?_
   go_simp
   refine (rC (some ⟨gL, 0, none⟩) 5 5 _).mono ?_
   rintro e u ⟨rfl, hq⟩
   have aS := bb2 FB hq
   refine hK.out _ _ aS (fun hHeld => ?_)
   clear hK K hHeld
   have HR := aa (HR.out.kept hq)
   have HE := aa (HE.out.kept hq)
   have FL := aa (bG FL.out hq)
   have lZ := lZ
   have FB := aS
   clear aS
   try simp only [qq, Ic.val, Ic.cs, aM, aI]
   have hHeld := FB
   have hT := trivial
   have ha0 := trivial
   have um := aa FB.out.1
   have R5 := aa FB.out.2
   have pU := nT.out _ (aa FB.out.1)
   refine mR 16 fun K hK => ?_
   rw [show (if Region.wanted _ _ = true then _ else _ : Prop) = _ from if_pos rfl]
   refine wp_store_row 117 _ _ rfl (w.heap.size + 1) (Ic.cs (Ic.mk 3 0 none 0 0 (some ⟨gL, 0, none⟩) 5 5)) rfl rfl 117 _ pU.out (cK _) rfl (jy _) ?_
   refine hK.out _ _ ?_
   clear hK K
   try simp only [qq]
   refine gH ?_
   have hit : qE w0.heap.size u (xk o) (Ic.mk 3 0 none 0 0 (some ⟨gL, 0, none⟩) 5 5) := sI (fun k9 => match k9 with | 0 => aM o.num | 1 => cR | 2 => cE | 3 => ⟨3, 0, none, 0, 0, L5, k, KF⟩ | _ => aM o.key) FL.out lZ.out rfl (fun k9 hk => by
     rcases (show k9 = 0 ∨ k9 = 1 ∨ k9 = 2 ∨ k9 = 3 ∨ k9 = 4 by omega) with rfl | rfl | rfl | rfl | rfl <;> exact ⟨rfl, rfl, rfl, rfl⟩) (fun k9 hk => by
     rcases (show k9 = 0 ∨ k9 = 1 ∨ k9 = 2 ∨ k9 = 3 ∨ k9 = 4 by omega) with rfl | rfl | rfl | rfl | rfl
     · exact oz _ _ _
     · exact HR.out
     · exact HE.out
     · exact Vt.out.kept FB.out.2
     · exact oz _ _ _)
   have hit2 := (hit.setRow (g := w.heap.size + 1) (by have := jO.out; omega) (Ic.cs (Ic.mk 3 0 none 0 0 (some ⟨gL, 0, none⟩) 5 5))).mono (lo' := w.heap.size) (by have := jO.out; omega)
   have bV := ai (ag aj.out FB.out.1) (cs := Ic.cs (Ic.mk 3 0 none 0 0 (some ⟨gL, 0, none⟩) 5 5)) (Nat.le_add_right w.heap.size 1)
   have hrw := setRow_heap _ _ _ (Ic.cs (Ic.mk 3 0 none 0 0 (some ⟨gL, 0, none⟩) 5 5)) _ _ pU.out
   go_wp2
   exact bodyPost_ret (v := (Ic.mk 3 0 none 0 0 (some ⟨gL, 0, none⟩) 5 5).val) (aD (p := 2) (ty := 117) rfl _ _ ⟨w.heap.size + 1, 0, none⟩ _ rfl (run_loadVar_row _ _ _ _ _ _ _ hrw Tryz.underlying117 rfl (cK _))) rfl ⟨_, rfl, hit2, bV⟩
theorem Jw (h : List Int) (hl : Hid (h.length = 32)) (hb : Hid (aC h = true)) (o : az) (hi : Hid (dJ o)) (hs : fH o) (w : World) (hv : Hid (bz w)) (ho : Hid (dW w o)) :
  Calls Tryz.prog 90 #[.agg (arr .u8 h), x_ o] w (Rt w (.agg (arr .u8 (JO h o)))) := by
 obtain ⟨RR, hRR⟩ : ∃ R, tagged (aX uU) (enc (Bj h o)) = R := ⟨_, rfl⟩
 rw [show JO h o = tagged (aX uU) (enc (Bj h o)) from rfl, hRR]
 have HRR : Kp (tagged (aX uU) (enc (Bj h o)) = RR) := ⟨hRR⟩
 have fI : Hid (RR.length = 32) := aa (by rw [← hRR]; exact dF _ _)
 have jQ : Hid (fits 8 (Bj h o)) := aa (Nh hl.out hb.out hi.out hs)
 have HLEN : Hid ((enc (Bj h o)).length ≤ 16384) := aa (RJ hl.out hs)
 clear hRR
 obtain ⟨E, hE⟩ : ∃ E, enc (Bj h o) = E := ⟨_, rfl⟩
 have Kr : Hid (aC E = true) := aa (by rw [← hE]; exact kz jQ.out)
 have wH : Hid (0 < E.length ∧ E.length ≤ 16384) := aa (by rw [← hE]; exact ⟨oD _, HLEN.out⟩)
 have Hz : Kp (enc (Bj h o) = E) := ⟨hE⟩
 obtain ⟨nE, Qa⟩ : ∃ n, E.length = n := ⟨_, rfl⟩
 have Zb := aa Qa
 have he0 : 0 < nE := by rw [← Qa]; exact wH.out.1
 have he1 : nE ≤ 16384 := by rw [← Qa]; exact wH.out.2
 clear hE Qa
 obtain ⟨w0, HW, aj, kC⟩ := sW (.cells (arr .u8 h) 41) bp0 (lY o) ZH (.cells z32 41) sO w
 have kO := fq (fun u => dW u o) aj ho (·.below)
 have kD := o6 aj hv
 have WS := aa (show ∀ u : World, Hid (Below w0.heap.size w0 u) → Hid (bH .u8 41 u w.heap.size h) from fun u h9 => aa (bH.below (by rw [← HW.out]; exact ((bH.new w h).old _).old _) h9.out))
 have nT := aa (show ∀ u : World, Hid (Below w0.heap.size w0 u) → Hid (bH .u8 41 u (w.heap.size + 2) (dz 32)) from fun u h9 => aa (bH.below (by rw [← HW.out, jd]; exact iq _ _ _ _) h9.out))
 have ah := bP w0
 clear ho hv
 go_in
 go_upto_region 1 with (fail)
 rw [HW.out]
 have zc := kC.out _ ah
 have jO : Hid (w0.heap.size = w.heap.size + 3) := aa (by rw [← HW.out]; simp)
 have kHg := aa (show ∀ u : World, Hid (Below w0.heap.size w0 u) → bH .u8 41 u w.heap.size h from fun u h9 => (WS.out u h9).out)
 clear zc
 have hO := aa (fun (u : World) (h : Hid (Below w0.heap.size w0 u)) => And.intro (kC.out u h) (kHg.out u h))
 have nQ := bF (aa ah.out) (Below.refl _ _).drew
 refine wU (fun u => Below w0.heap.size w0 u) [8] nQ (fun hHeld => ?_)
 obtain ⟨wD, nK⟩ : ∃ u, w0.drew = u := ⟨_, rfl⟩
 rw [nK] at nQ hHeld ⊢
 have zX : Hid (w0.heap.size ≤ wD.heap.size) := aa (by rw [← nK]; exact Nat.le_refl _)
 clear nK
 refine Ad 0 (.agg (arr .u8 h)) rfl (fZ 41 _ rfl w.heap.size rfl _ _ _ _ (fun _ hq => kHg.out _ hq) Tryz.underlying41 rfl (ay hl.out)) ?_
 refine aL 2 ?_
 have FB := nQ
 refine bY 1 fun K hK => ?_
 go_simp
 refine (vk h hl _).mono ?_
 rintro e u1 ⟨fD, rfl, hit, hq⟩
 have aS := bF FB hq
 refine hK.out _ _ aS (fun hHeld => ?_)
 clear hK K hHeld
 have HB := (aa (hit.mono (by have := FB.out.size; omega)))
 have FB := aS
 clear aS
 try simp only [qq, Ic.val, Ic.cs, aM, aI]
 refine bY 3 fun K hK => ?_
 go_simp
 refine (wT o hs _ (kO.out _ (aa FB.out))).mono ?_
 rintro e u2 ⟨cO, rfl, hit, hq⟩
 have aS := bF FB hq
 refine hK.out _ _ aS (fun hHeld => ?_)
 clear hK K hHeld
 have HB := aa (HB.out.kept hq)
 have HO := (aa (hit.mono (by have := FB.out.size; omega)))
 have FB := aS
 clear aS
 try simp only [qq, Ic.val, Ic.cs, aM, aI]
 obtain ⟨u3, hw, HQ, -, -, -⟩ := qZ (.cells #[.int .i64 fD.kind, .int .i64 fD.n, .slice fD.B fD.nb fD.cb, .slice fD.L fD.nl fD.cl, .int .i64 cO.kind, .int .i64 cO.n, .slice cO.B cO.nb cO.cb, .slice cO.L cO.nl cO.cl] 117) sO u2
 have nP := aa hw
 clear hw
 refine bY 4 fun K hK => ?_
 go_simp
 rw [nP.out]
 have aS := bF FB HQ.out
 refine hK.out _ _ aS (fun hHeld => ?_)
 clear hK K hHeld
 have HB := aa (HB.out.kept HQ.out)
 have HO := aa (HO.out.kept HQ.out)
 have FL : Hid (u3.heap[(u2.heap.size)]? = some (.cells #[.int .i64 fD.kind, .int .i64 fD.n, .slice fD.B fD.nb fD.cb, .slice fD.L fD.nl fD.cl, .int .i64 cO.kind, .int .i64 cO.n, .slice cO.B cO.nb cO.cb, .slice cO.L cO.nl cO.cl] 117)) := by rw [← nP.out]; exact (aa (heap_alloc_new u2 _))
 have lZ : Hid (w0.heap.size ≤ (u2.heap.size)) := (aa (by have := FB.out.size; omega))
 obtain ⟨gL, hg⟩ : ∃ x, u2.heap.size = x := ⟨_, rfl⟩
 rw [hg] at FL lZ ⊢
 clear hg
 have FB := aS
 clear aS nP HQ
 try simp only [qq, Ic.val, Ic.cs, aM, aI]
 refine bY 5 fun K hK => ?_
 go_simp
 refine (rC (some ⟨gL, 0, none⟩) 2 2 _).mono ?_
 rintro e u4 ⟨rfl, hq⟩
 have aS := bF FB hq
 refine hK.out _ _ aS (fun hHeld => ?_)
 clear hK K hHeld
 have HB := aa (HB.out.kept hq)
 have HO := aa (HO.out.kept hq)
 have FL := aa (bG FL.out hq)
 have lZ := lZ
 have FB := aS
 clear aS
 try simp only [qq, Ic.val, Ic.cs, aM, aI]
 refine bY 6 fun K hK => ?_
 go_simp
 have hit : nV u4 (Bj h o) (Ic.mk 3 0 none 0 0 (some ⟨gL, 0, none⟩) 2 2) := vH (fun k => match k with | 0 => fD | _ => cO) FL.out rfl (fun k hk => by
   rcases (show k = 0 ∨ k = 1 by omega) with rfl | rfl <;> exact ⟨rfl, rfl, rfl, rfl⟩) (fun k hk => by
   rcases (show k = 0 ∨ k = 1 by omega) with rfl | rfl
   · exact HB.out.it
   · exact HO.out.it)
 refine (u_ 8 (Bj h o) (Ic.mk 3 0 none 0 0 (some ⟨gL, 0, none⟩) 2 2) _ jQ.out hit HLEN.out).mono ?_
 rintro e u5 ⟨v4, rfl, Av, hq⟩
 rw [Hz.1] at Av
 obtain ⟨gE, cE, e4, hg4, -, -, rT⟩ := Av.cells wH.out.1
 rw [Zb.out] at e4
 subst e4
 clear hit Av
 have aS := bF FB hq
 refine hK.out _ _ aS (fun hHeld => ?_)
 clear hK K hHeld
 have HB := aa (HB.out.kept hq)
 have HO := aa (HO.out.kept hq)
 have FL := aa (bG FL.out hq)
 have lZ := lZ
 have FE := (aa rT)
 have FB := aS
 clear aS
 try simp only [qq, Ic.val, Ic.cs, aM, aI]
 refine bY 7 fun K hK => ?_
 go_simp
 refine (lJ uU (by decide) (by decide) gE 0 cE E nE Zb he0 (by omega) Kr _ FE).mono ?_
 rintro e u ⟨rfl, hq⟩
 rw [← Hz.1, HRR.1]
 have aS := bF FB hq
 refine hK.out _ _ aS (fun hHeld => ?_)
 clear hK K hHeld
 have HB := aa (HB.out.kept hq)
 have HO := aa (HO.out.kept hq)
 have FL := aa (bG FL.out hq)
 have lZ := lZ
 have FE := aa (FE.out.below hq)
 have FB := aS
 clear aS
 try simp only [qq, Ic.val, Ic.cs, aM, aI]
 have hHeld := FB
 have hT := trivial
 have ha0 := trivial
 have um := FB
 have pU := nT.out _ (aa FB.out)
 refine mR 8 fun K hK => ?_
 rw [show (if Region.wanted _ _ = true then _ else _ : Prop) = _ from if_pos rfl]
 refine wp_store_row 41 _ _ rfl (w.heap.size + 2) (arr .u8 RR) rfl rfl 41 _ pU.out (ay fI.out) (eB (l := dz 32) rfl fI.out) (dh _) ?_
 refine hK.out _ _ ?_
 clear hK K
 try simp only [qq]
 refine gH ?_
 have bV := ai (ag aj.out FB.out) (cs := arr .u8 RR) (Nat.le_add_right w.heap.size 2)
 have hrw := pU.out.setRow (l' := RR)
 go_wp2
 exact bodyPost_ret (v := .agg (arr .u8 RR)) (aD (p := 4) (ty := 41) rfl _ _ ⟨w.heap.size + 2, 0, none⟩ _ rfl (run_loadVar_row _ _ _ _ _ _ _ hrw Tryz.underlying41 rfl (ay fI.out))) rfl ⟨rfl, bV⟩
theorem Pj (O : Option Addr) (n c : Nat) (K : Option Addr) (m d : Nat) (h : ¬ n ≤ 100) (hb1 : n ≤ 1000000) (w : World) :
  Calls Tryz.prog 85 #[gI O n c K m d] w (Rt w (.bool false)) := by
 have dn : decide ((100 : Int) < (n : Int)) = true := by simp; omega
 obtain ⟨w0, HW, aj, kC⟩ := st1 (jh O n c K m d) qA w
 have ah := bP w0
 go_in
 go_upto_region 1 with (fail)
 rw [HW.out]
 have zc := kC.out _ ah
 go_wp2
 go_ret
 exact ⟨rfl, gy aj ah⟩
theorem Ph (O : Option Addr) (os : List az) (n c : Nat) (K : Option Addr) (hs : List (List Int)) (m d : Nat) (hn : Hid (os.length = n)) (hm : Hid (hs.length = m)) (hI : ∀ k, k < n → dJ (bL os k)) (hb1 : n ≤ 1000000) (hb2 : m ≤ 1000000) (UC : n ≤ 100) (r : Bool) (hr : Kp (fP os hs = r)) (w : World) (hv : Hid (bz w)) (hO : Hid (Os w O os)) (hK : Hid (Hs w K hs)) :
  Calls Tryz.prog 85 #[gI O n c K m d] w (Rt w (.bool r)) := by
 have dn : decide ((100 : Int) < (n : Int)) = false := by simp; omega
 obtain ⟨w0, HW, aj, kC⟩ := st1 (jh O n c K m d) qA w
 have kD := o6 aj hv
 have Dm := fq (fun u => Os u O os) aj hO (·.below)
 have IE := fq (fun u => Hs u K hs) aj hK (·.below)
 have ah := bP w0
 clear hv hO hK
 go_in
 go_upto_region 1 with (fail)
 rw [HW.out]
 have zc := kC.out _ ah
 have V3 := ah
 have hq0 := af w0 (.cells z32 41)
 have ax := bF ah hq0
 clear hq0
 have tJ := kC.out _ ax
 go_wp2
 clear zc tJ
 obtain ⟨W, hW⟩ : ∃ x, w0.alloc (.cells z32 41) = x := ⟨_, rfl⟩
 rw [hW] at ax
 have bT := ax
 obtain ⟨B, hB⟩ : ∃ x, w0.heap.size = x := ⟨_, rfl⟩
 have xW : Hid (W.heap.size = B + 1 ∧ w0.heap.size ≤ B) := aa ⟨by rw [← hW, ← hB]; simp, by rw [← hB]; exact Nat.le_refl _⟩
 have HK0 : Hid (bH .u8 41 W B (dz 32)) := aa (by rw [← hW, ← hB, jd]; exact bH.new _ _)
 rw [hW, hB]
 have OC := aa hW
 have Hf := aa hB
 clear hW hB V3
 go_loopw [5, 6] (fun ce i u => ∃ (k : Nat) (h : List Int), k ≤ n ∧ i = .int .i64 k ∧ ce = .int .i64 (xP os k) ∧ Hid (yA os hs n k = true) ∧ Kp (hbL os k = h) ∧ Hid (bH .u8 41 u B h) ∧ Hid (Below B W u)) (fun _ i _ => n - (intOf i).toNat)
 case atStart => exact ⟨0, dz 32, by omega, rfl, rfl, aa rfl, ⟨rfl⟩, HK0, aa (Below.refl _ _)⟩
 case round =>
  obtain ⟨k, h, hk, rfl, rfl, HST, AP, Rc, aF⟩ := hrel
  have iK : Hid (Below w0.heap.size w0 wr) := aa (bT.out.trans (aF.out.mono xW.out.2))
  have HL : Hid (h.length = 32) := aa (by rw [← AP.1]; exact mI _ _)
  have HBY : Hid (aC h = true) := aa (by rw [← AP.1]; exact vM _ _)
  by_cases hlt : k < n
  ·
   have hkl : k < os.length := by rw [hn.out]; exact hlt
   obtain ⟨b, f, hA, h9, hok⟩ := (Dm.out _ iK).out k hkl
   subst hA
   have hoi := hI k hlt
   have hcl : xP os k = k := IX HST.out hlt
   rw [hcl]
   obtain ⟨o, ho⟩ : ∃ o, os.getD k dI = o := ⟨_, rfl⟩
   have mY : Hid (bL os k = o) := aa ho
   rw [ho] at h9 hok
   have MO : dJ o := by rw [← ho]; exact hoi
   have Km := aa MO
   have lW := aa hok
   obtain ⟨j0, j1, j2, j3, j4, j5, j6, j7, j8⟩ := h9
   have dw : IntKind.i64.wrap ((n : Int) - 1) = (n : Int) - 1 := IntWalk.i64_in _ (by omega)
   have XN : wrap64 ((n : Int) - 1) = (n : Int) - 1 := IntWalk.wrap64_in _ (by omega)
   have qH := aa hcl
   clear ho hoi MO hok hkl hcl
   have d_ := bP wr
   have WR := qO (w := wr) (fun u => dW u o) lW.out (·.below)
   have TS := qO (w := wr) (fun u => bH .u8 41 u B h) Rc.out (·.below)
   have zc := kC.out _ iK
   obtain ⟨w2, hw, oU, C8, -, kS⟩ := qZ (lY o) Ah wr
   have aK := jY iK oU
   have dm := jY d_ oU
   have bB := bP w2
   clear oU
   have tJ := kC.out _ aK
   have oJ := kS.out _ bB
   go_wp2_with fail
   clear zc tJ oJ hw
   have zc := kC.out _ aK
   have ng := kS.out _ bB
   clear j0 j1 j2 j3 j4 j5 j6 j7 j8
   obtain ⟨ob, mW⟩ : ∃ x, wV o = x := ⟨_, rfl⟩
   have Ht := aa mW
   clear mW
   go_wp2_with fail
   clear zc ng
   refine Nw aK dm bB (FV o ob Ht _ (WR.out _ dm)) fun w3 aN eT gG => ?_
   have zc := kC.out _ aN
   have ng := kS.out _ gG
   cases ob with
   | true =>
    have mW := Ht.out
    by_cases iw : o.num = (k : Int)
    ·
     have Fq : (o.num != (k : Int)) = false := by simpa using iw
     by_cases hkey : o.key = 0
     ·
      have dk1 : (o.key == 0) = true := by simpa using hkey
      by_cases hlast : k + 1 = n
      ·
       have dl1 : decide ((k : Int) < (n : Int) - 1) = false := by simp; omega
       have HS2 : Hid (yA os hs n (k + 1) = true) := aa (by rw [yA, HST.out, BM, mY.out]; simp [mW, hkey, iw, hlast])
       have Om : Kp (hbL os (k + 1) = h) := ⟨by rw [hbL, mY.out, if_pos hkey]; exact AP.1⟩
       have VA : Hid (xP os (k + 1) = k) := aa (by simp [xP, mY.out, hkey, qH.out])
       clear mW hkey iw hlast
       have Ze : Hid (Below B W w3) := aa (aF.out.trans (eT.out.mono (by have := aF.out.size; have := xW.out.1; omega)))
       have HKn : Hid (bH .u8 41 w3 B h) := (TS.out _ eT)
       go_wp2
       go_roundw
       case rel => exact ⟨k + 1, h, by omega, by go_num, by rw [VA.out], HS2, Om, HKn, Ze⟩
       case measure => simp [intOf]; omega
      ·
       have dl1 : decide ((k : Int) < (n : Int) - 1) = true := by simp; omega
       have Uk : k + 1 ≠ n := hlast
       obtain rfl : r = false := hr.1.symm.trans (kM hn.out hlt (by rw [BM, mY.out]; simp [mW, hkey, Uk]))
       clear mW hkey iw hlast Uk
       go_wp2
       go_ret
       exact ⟨rfl, gy aj aN⟩
     ·
      have dk1 : (o.key == 0) = false := by simpa using hkey
      obtain ⟨RR, hRR⟩ : ∃ x, JO h o = x := ⟨_, rfl⟩
      have HRR : Kp (JO h o = RR) := ⟨hRR⟩
      have fI : Hid (RR.length = 32) := aa (by rw [← hRR]; exact Co _ _)
      have Om : Kp (hbL os (k + 1) = RR) := ⟨by rw [hbL, mY.out, if_neg hkey, AP.1]; exact hRR⟩
      have Vr := aa hkey
      have Vk := aa iw
      clear mW hkey iw hRR
      have AQ := (TS.out _ eT)
      go_wp2_with ((with_reducible show wpList _ _ _ (⟨some 46, _, _, _, _, _⟩ :: _) _ _); refine wpList_load_row rfl 41 _ rfl B rfl _ _ _ _ AQ.out Tryz.underlying41 rfl (ay HL.out) ?_)
      refine (Jw h HL HBY o Km (jm Ht.out lW.out) _ (kD.out _ aN) (WR.out _ eT)).mono ?_
      rintro e w4 ⟨rfl, hb0⟩
      rw [HRR.1]
      have dQ := bF aN hb0
      have lC := bF eT hb0
      have mQ := bF gG hb0
      clear zc ng hb0
      have zc := kC.out _ dQ
      have ng := kS.out _ mQ
      have Ab := (TS.out _ lC)
      obtain ⟨wz, hwz⟩ : ∃ x, w4.setRow B (arr .u8 RR) = x := ⟨_, rfl⟩
      have uJ : Hid (Below B W wz) := aa (by rw [← hwz]; exact ai (aF.out.trans (lC.out.mono (by have := aF.out.size; have := xW.out.1; omega))) (Nat.le_refl _))
      have z_ : Hid (Below w0.heap.size w0 wz) := aa (bT.out.trans (uJ.out.mono xW.out.2))
      have H8 : Hid (bH .u8 41 wz B RR) := aa (by rw [← hwz]; exact Ab.out.setRow)
      go_upto_region 14 with ((with_reducible show wpList _ _ _ (⟨none, _, _, _, _, _⟩ :: _) _ _); refine wpList_store_row rfl 41 _ _ rfl B (arr .u8 RR) rfl rfl _ _ Ab.out (ay fI.out) (eB HL.out fI.out) (dh _) ?_)
      clear zc ng
      rw [hwz]
      clear hwz AQ Ab
      by_cases hkm : m ≤ k
      ·
       have mW := Ht.out
       have hkey := Vr.out
       have iw := Vk.out
       have XQ : decide ((m : Int) ≤ (k : Int)) = true := by simp; omega
       obtain rfl : r = false := hr.1.symm.trans (kM hn.out hlt (by rw [BM, mY.out]; simp [mW, hkey, iw, hm.out]; omega))
       clear mW hkey iw
       have jR := bP wz
       have hO := aa (fun (u : World) (h : Hid (Below w0.heap.size w0 u ∧ Below wz.heap.size wz u)) => kC.out u (aa h.out.1))
       refine wU (fun u => Below w0.heap.size w0 u ∧ Below wz.heap.size wz u) [] (bb2 (aa ⟨z_.out, jR.out⟩) ((Below.refl _ _).drew)) (fun hHeld => ?_)
       refine aU 0 1 2 3 ?_
       refine aL 4 ?_
       refine aL 5 ?_
       refine ek 6 7 8 9 ?_
       refine jD 10 ?_
       refine jD 11 ?_
       refine jD 12 ?_
       refine aL 13 ?_
       refine gH ?_
       clear hO
       have jB := (aa hHeld.out.1)
       have kJ := (aa hHeld.out.2)
       clear hHeld
       have zc := kC.out _ jB
       have Al : Hid (Below B W wz.drew) := aa (uJ.out.trans (kJ.out.mono (by have := uJ.out.size; have := xW.out.1; omega)))
       go_wp2
       go_ret
       exact ⟨rfl, gy aj jB⟩
      ·
       cases hrq : (hsL hs k == JO h o) with
       | true =>
        have mW := Ht.out
        have hkey := Vr.out
        have iw := Vk.out
        have XQ : decide ((m : Int) ≤ (k : Int)) = false := by simp; omega
        have Ul : k < m := by omega
        obtain ⟨b2, f2, hA2, hl2, hrg2⟩ := (IE.out _ z_).out k (by rw [hm.out]; omega)
        subst hA2
        obtain ⟨Cx, hhk⟩ : ∃ x, hsL hs k = x := ⟨_, rfl⟩
        rw [hhk] at hl2 hrg2
        have HL2 := aa hl2
        have Vu := aa hrg2
        have Vv := aa hhk
        rw [hhk, HRR.1] at hrq
        have hbq : (!(Cx == RR)) = false := by rw [hrq]; rfl
        clear hl2 hrg2 hhk
        have HS2 : Hid (yA os hs n (k + 1) = true) := aa (by rw [yA, HST.out, BM, mY.out, Om.1, Vv.out]; simp [mW, hm.out, hrq, hkey, iw]; omega)
        have VA : Hid (xP os (k + 1) = k + 1) := aa (by simp [xP, mY.out, hkey, qH.out])
        clear mW hkey iw hrq
        have jR := bP wz
        have hO := aa (fun (u : World) (h : Hid (Below w0.heap.size w0 u ∧ Below wz.heap.size wz u)) => kC.out u (aa h.out.1))
        refine wU (fun u => Below w0.heap.size w0 u ∧ Below wz.heap.size wz u) [] (bb2 (aa ⟨z_.out, jR.out⟩) ((Below.refl _ _).drew)) (fun hHeld => ?_)
        refine aU 0 1 2 3 ?_
        refine aU 4 5 6 7 ?_
        refine aL 8 ?_
        refine aL 9 ?_
        refine Ad 10 (.agg (arr .u8 Cx)) rfl (j_ 41 _ rfl b2 (f2 + k * 32) rfl (Cx.map (Value.int .u8)) _ (fun _ hq => eD Vu.out hq.out.2) Tryz.underlying41 rfl (lS HL2.out)) ?_
        refine Ad 11 (.agg (arr .u8 RR)) rfl (fZ 41 _ rfl B rfl _ _ _ _ (fun _ hq => H8.out.below hq.out.2) Tryz.underlying41 rfl (ay fI.out)) ?_
        refine Ad 12 (.bool false) rfl (h_ _ _ _ rfl Cx RR HL2.out fI.out rfl rfl _ hbq) ?_
        refine aL 13 ?_
        refine gH ?_
        clear hO
        have jB := (aa hHeld.out.1)
        have kJ := (aa hHeld.out.2)
        clear hHeld
        have zc := kC.out _ jB
        have Al : Hid (Below B W wz.drew) := aa (uJ.out.trans (kJ.out.mono (by have := uJ.out.size; have := xW.out.1; omega)))
        have Vs : Hid (bH .u8 41 wz.drew B RR) := aa (H8.out.below kJ.out)
        go_wp2
        go_roundw
        case rel => exact ⟨k + 1, RR, by omega, by go_num, by rw [VA.out]; go_num, HS2, Om, Vs, Al⟩
        case measure => simp [intOf]; omega
       | false =>
        have mW := Ht.out
        have hkey := Vr.out
        have iw := Vk.out
        have XQ : decide ((m : Int) ≤ (k : Int)) = false := by simp; omega
        have Ul : k < m := by omega
        obtain ⟨b2, f2, hA2, hl2, hrg2⟩ := (IE.out _ z_).out k (by rw [hm.out]; omega)
        subst hA2
        obtain ⟨Cx, hhk⟩ : ∃ x, hsL hs k = x := ⟨_, rfl⟩
        rw [hhk] at hl2 hrg2
        have HL2 := aa hl2
        have Vu := aa hrg2
        have Vv := aa hhk
        rw [hhk, HRR.1] at hrq
        have hbq : (!(Cx == RR)) = true := by rw [hrq]; rfl
        clear hl2 hrg2 hhk
        obtain rfl : r = false := hr.1.symm.trans (kM hn.out hlt (by rw [BM, mY.out]; simp [mW, hkey, iw, hm.out, Vv.out, Om.1, hrq]))
        clear mW hkey iw hrq
        have jR := bP wz
        have hO := aa (fun (u : World) (h : Hid (Below w0.heap.size w0 u ∧ Below wz.heap.size wz u)) => kC.out u (aa h.out.1))
        refine wU (fun u => Below w0.heap.size w0 u ∧ Below wz.heap.size wz u) [] (bb2 (aa ⟨z_.out, jR.out⟩) ((Below.refl _ _).drew)) (fun hHeld => ?_)
        refine aU 0 1 2 3 ?_
        refine aU 4 5 6 7 ?_
        refine aL 8 ?_
        refine aL 9 ?_
        refine Ad 10 (.agg (arr .u8 Cx)) rfl (j_ 41 _ rfl b2 (f2 + k * 32) rfl (Cx.map (Value.int .u8)) _ (fun _ hq => eD Vu.out hq.out.2) Tryz.underlying41 rfl (lS HL2.out)) ?_
        refine Ad 11 (.agg (arr .u8 RR)) rfl (fZ 41 _ rfl B rfl _ _ _ _ (fun _ hq => H8.out.below hq.out.2) Tryz.underlying41 rfl (ay fI.out)) ?_
        refine Ad 12 (.bool true) rfl (h_ _ _ _ rfl Cx RR HL2.out fI.out rfl rfl _ hbq) ?_
        refine aL 13 ?_
        refine gH ?_
        clear hO
        have jB := (aa hHeld.out.1)
        have kJ := (aa hHeld.out.2)
        clear hHeld
        have zc := kC.out _ jB
        have Al : Hid (Below B W wz.drew) := aa (uJ.out.trans (kJ.out.mono (by have := uJ.out.size; have := xW.out.1; omega)))
        go_wp2
        go_ret
        exact ⟨rfl, gy aj jB⟩
    ·
     have Fq : (o.num != (k : Int)) = true := by simpa using iw
     obtain rfl : r = false := hr.1.symm.trans (kM hn.out hlt (by rw [BM, mY.out]; simp [mW, iw]))
     clear mW iw
     go_wp2
     go_ret
     exact ⟨rfl, gy aj aN⟩
   | false =>
    have mW := Ht.out
    obtain rfl : r = false := hr.1.symm.trans (kM hn.out hlt (by rw [BM, mY.out]; simp [mW]))
    clear mW
    go_wp2
    go_ret
    exact ⟨rfl, gy aj aN⟩
  ·
   obtain rfl : k = n := by omega
   have hre : ((((xP os k : Nat) : Int)) == ((m : Nat) : Int)) = r := by
    rw [← hr.1, fP, hn.out, HST.out, hm.out, decide_eq_true UC]; simp only [Bool.true_and]
    rw [Bool.eq_iff_iff]; simp; omega
   have MJ : ((((m : Nat) : Int)) == ((xP os k : Nat) : Int)) = r := by rw [← hre, BEq.comm]
   obtain ⟨q, hq⟩ : ∃ q, xP os k = q := ⟨_, rfl⟩
   rw [hq] at hre MJ ⊢
   clear hq
   have zc := kC.out _ iK
   have bV := ag aj.out iK.out
   go_wp2
   go_ret
   exact ⟨by first | rfl | rw [hre] | rw [MJ], bV⟩
theorem pg (O : Option Addr) (os : List az) (n c : Nat) (K : Option Addr) (hs : List (List Int)) (m d : Nat) (hn : Hid (os.length = n)) (hm : Hid (hs.length = m)) (hI : ∀ k, k < n → dJ (bL os k)) (hb1 : n ≤ 1000000) (hb2 : m ≤ 1000000) (r : Bool) (hr : Kp (fP os hs = r)) (w : World) (hv : Hid (bz w)) (hO : Hid (Os w O os)) (hK : Hid (Hs w K hs)) :
  Calls Tryz.prog 85 #[gI O n c K m d] w (Rt w (.bool r)) := by
 by_cases h : n ≤ 100
 · exact Ph O os n c K hs m d hn hm hI hb1 hb2 h r hr w hv hO hK
 ·
  obtain rfl : r = false := hr.1.symm.trans (by rw [fP, hn.out, decide_eq_false h]; rfl)
  exact Pj O n c K m d h hb1 w
theorem Bh (A : Option Addr) (na ca : Nat) (C : Int) (Z : Option Addr) (nz cz : Nat) (w : World) :
  Calls Tryz.prog 23 #[iO A na ca C Z nz cz] w fun e' w' => ∃ b : Bool, e' = .returned (.bool b) ∧ Below w.heap.size w w' := by
 have HX := af w (fe A na ca C Z nz cz)
 by_cases h0 : na ≤ 30
 ·
  have d0 : decide ((na : Int) ≤ 30) = true := by simp; omega
  by_cases h1 : nz ≤ 30
  ·
   have d1 : decide ((nz : Int) ≤ 30) = true := by simp; omega
   go_in
   go_wp2
   go_ret
   exact ⟨_, rfl, HX⟩
  ·
   have d1 : decide ((nz : Int) ≤ 30) = false := by simp; omega
   go_in
   go_wp2
   go_ret
   exact ⟨_, rfl, HX⟩
 ·
  have d0 : decide ((na : Int) ≤ 30) = false := by simp; omega
  go_in
  go_wp2
  go_ret
  exact ⟨_, rfl, HX⟩
theorem XH (p : aV) (w : World) :
  Calls Tryz.prog 71 #[Ae p] w fun e' w' => ∃ b : Bool, e' = .returned (.bool b) ∧ Below w.heap.size w w' := by
 obtain ⟨w0, HW, aj, kC⟩ := st1 (oh p) Ai w
 have ah := bP w0
 go_in
 go_wp2_with fail
 rw [HW.out]
 have zc := kC.out _ ah
 go_wp2_with fail
 refine (Bh p.A p.na p.ca p.C p.Z p.nz p.cz _).mono ?_
 rintro e w1 ⟨b, rfl, hb0⟩
 have ax := bF ah hb0
 clear zc hb0
 have zc := kC.out _ ax
 have bV := ag aj.out ax.out
 cases b with
 | false => go_wp2; go_ret; exact ⟨_, rfl, bV⟩
 | true => go_wp2; go_ret; exact ⟨_, rfl, bV⟩
theorem P7 (A : Option Addr) (xs : List aV) (n c : Nat) (hn : Hid (xs.length = n)) (hbig : n < 1000000) (w : World) (hs : Hid (Pa w A xs)) :
  Calls Tryz.prog 124 #[.slice A n c, .func (.func 71) #[] #[]] w fun e w' => ∃ i : Int, e = .returned (.int .i64 i) ∧ Below w.heap.size w w' := by
 go_in
 go_wp2
 go_loopw [8] (fun i wr => ∃ k : Nat, k ≤ n ∧ i = .int .i64 k ∧ Hid (Below w.heap.size w wr)) (fun i _ => n - (intOf i).toNat)
 case atStart => exact ⟨0, by omega, rfl, aa (Below.refl _ _)⟩
 case round =>
  obtain ⟨k, hk, rfl, aF⟩ := hrel
  by_cases hlt : k < n
  ·
   have hkl : k < xs.length := by rw [hn.out]; exact hlt
   obtain ⟨b, o, hA, i0, i1, i2, i3, i4, i5⟩ := (hs.out.below aF.out) k hkl
   subst hA
   clear i5
   obtain ⟨p, hp⟩ : ∃ p, xs.getD k aH = p := ⟨_, rfl⟩
   rw [hp] at i0 i1 i2 i3 i4
   clear hp hkl
   go_wp2_with fail
   refine (XH p wr).mono ?_
   rintro e w2 ⟨b9, rfl, hb0⟩
   have HB2 := aa (ag aF.out hb0)
   clear hb0 aF i0 i1 i2 i3 i4
   cases b9 with
   | false =>
    go_wp2
    go_roundw
    case rel => exact ⟨k + 1, by omega, by go_num, HB2⟩
    case measure => simp [intOf]; omega
   | true =>
    go_wp2
    go_ret
    exact ⟨_, rfl, HB2.out⟩
  ·
   obtain rfl : k = n := by omega
   go_wp2
   go_ret
   exact ⟨_, rfl, aF.out⟩
theorem GV (A : Option Addr) (xs : List aV) (n c : Nat) (hn : Hid (xs.length = n)) (hbig : n < 1000000) (w : World) (hs : Hid (Pa w A xs)) :
  Calls Tryz.prog 70 #[.slice A n c, .func (.func 71) #[] #[]] w fun e' w' => ∃ b : Bool, e' = .returned (.bool b) ∧ Below w.heap.size w w' := by
 go_in
 go_wp2_with fail
 refine (P7 A xs n c hn hbig _ hs).mono ?_
 rintro e w1 ⟨i, rfl, hb1⟩
 go_wp2
 go_ret
 exact ⟨_, rfl, hb1⟩
theorem UF (o : az) (h : 300 < o.rs.size) (w : World) :
  Calls Tryz.prog 69 #[x_ o] w fun e' w' => ∃ b : Bool, e' = .returned (.bool b) ∧ Below w.heap.size w w' := by
 have d0 : decide ((300 : Int) < (o.rs.size : Int)) = true := by simp; omega
 obtain ⟨w0, HW, aj, kC⟩ := st1 (lY o) Ah w
 have ah := bP w0
 go_in
 go_upto_region 1 with (fail)
 rw [HW.out]
 have zc := kC.out _ ah
 have bV := ag aj.out ah.out
 go_wp2
 go_ret
 exact ⟨_, rfl, bV⟩
theorem UE (o : az) (h0 : ¬ 300 < o.rs.size) (h : 12 < o.np) (w : World) :
  Calls Tryz.prog 69 #[x_ o] w fun e' w' => ∃ b : Bool, e' = .returned (.bool b) ∧ Below w.heap.size w w' := by
 have d0 : decide ((300 : Int) < (o.rs.size : Int)) = false := by simp; omega
 have d1 : decide ((12 : Int) < (o.np : Int)) = true := by simp; omega
 obtain ⟨w0, HW, aj, kC⟩ := st1 (lY o) Ah w
 have ah := bP w0
 go_in
 go_upto_region 1 with (fail)
 rw [HW.out]
 have zc := kC.out _ ah
 have bV := ag aj.out ah.out
 go_wp2
 go_ret
 exact ⟨_, rfl, bV⟩
theorem UD (o : az) (h0 : ¬ 300 < o.rs.size) (h : ¬ 12 < o.np) (w : World) (ho : Hid (dW w o)) :
  Calls Tryz.prog 69 #[x_ o] w fun e' w' => ∃ b : Bool, e' = .returned (.bool b) ∧ Below w.heap.size w w' := by
 have d0 : decide ((300 : Int) < (o.rs.size : Int)) = false := by simp; omega
 have d1 : decide ((12 : Int) < (o.np : Int)) = false := by simp; omega
 obtain ⟨w0, HW, aj, kC⟩ := st1 (lY o) Ah w
 have kO := fq (fun u => dW u o) aj ho (·.below)
 have ah := bP w0
 clear ho
 go_in
 go_upto_region 1 with (fail)
 rw [HW.out]
 have zc := kC.out _ ah
 go_wp2_with fail
 refine (Bh o.A o.na o.ca o.C o.Z o.nz o.cz _).mono ?_
 rintro e w1 ⟨b, rfl, hb0⟩
 have ax := bF ah hb0
 clear zc hb0
 have zc := kC.out _ ax
 cases b with
 | false =>
  have bV := ag aj.out ax.out
  go_wp2
  go_ret
  exact ⟨_, rfl, bV⟩
 | true =>
  go_wp2_with fail
  refine (GV o.L o.ps o.np o.cp (aa ((kO.out _ ax)).out.2.2.1.1) (by omega) _ (aa ((kO.out _ ax)).out.2.2.2.2.2)).mono ?_
  rintro e w2 ⟨b2, rfl, hb0⟩
  have aK := bF ax hb0
  clear zc hb0
  have zc := kC.out _ aK
  have bV := ag aj.out aK.out
  go_wp2
  go_ret
  exact ⟨_, rfl, bV⟩
theorem Nj (o : az) (w : World) (ho : Hid (dW w o)) :
  Calls Tryz.prog 69 #[x_ o] w fun e' w' => ∃ b : Bool, e' = .returned (.bool b) ∧ Below w.heap.size w w' := by
 by_cases h0 : 300 < o.rs.size
 · exact UF o h0 w
 ·
  by_cases h1 : 12 < o.np
  · exact UE o h0 h1 w
  · exact UD o h0 h1 w ho
theorem TW (A : Option Addr) (xs : List az) (n c : Nat) (hn : Hid (xs.length = n)) (hbig : n < 1000000) (w : World) (hs : Hid (Os w A xs)) :
  Calls Tryz.prog 123 #[.slice A n c, .func (.func 69) #[] #[]] w fun e w' => ∃ i : Int, e = .returned (.int .i64 i) ∧ Below w.heap.size w w' := by
 go_in
 go_wp2
 go_loopw [8] (fun i wr => ∃ k : Nat, k ≤ n ∧ i = .int .i64 k ∧ Hid (Below w.heap.size w wr)) (fun i _ => n - (intOf i).toNat)
 case atStart => exact ⟨0, by omega, rfl, aa (Below.refl _ _)⟩
 case round =>
  obtain ⟨k, hk, rfl, aF⟩ := hrel
  by_cases hlt : k < n
  ·
   have hkl : k < xs.length := by rw [hn.out]; exact hlt
   obtain ⟨b, o, hA, i9, iok⟩ := (hs.out.below aF.out) k hkl
   obtain ⟨i0, i1, i2, i3, i4, i5, i6, i7, i8⟩ := i9
   subst hA
   obtain ⟨p, hp⟩ : ∃ p, xs.getD k dI = p := ⟨_, rfl⟩
   rw [hp] at i0 i1 i2 i3 i4 i5 i6 i7 i8 iok
   have lW := aa iok
   clear iok hp hkl
   go_wp2_with fail
   refine (Nj p wr lW).mono ?_
   rintro e w2 ⟨b9, rfl, hb0⟩
   have HB2 := aa (ag aF.out hb0)
   clear hb0 aF i0 i1 i2 i3 i4 i5 i6 i7 i8
   cases b9 with
   | false =>
    go_wp2
    go_roundw
    case rel => exact ⟨k + 1, by omega, by go_num, HB2⟩
    case measure => simp [intOf]; omega
   | true =>
    go_wp2
    go_ret
    exact ⟨_, rfl, HB2.out⟩
  ·
   obtain rfl : k = n := by omega
   go_wp2
   go_ret
   exact ⟨_, rfl, aF.out⟩
theorem BB (A : Option Addr) (xs : List az) (n c : Nat) (hn : Hid (xs.length = n)) (hbig : n < 1000000) (w : World) (hs : Hid (Os w A xs)) :
  Calls Tryz.prog 68 #[.slice A n c, .func (.func 69) #[] #[]] w fun e' w' => ∃ b : Bool, e' = .returned (.bool b) ∧ Below w.heap.size w w' := by
 go_in
 go_wp2_with fail
 refine (TW A xs n c hn hbig _ hs).mono ?_
 rintro e w1 ⟨i, rfl, hb1⟩
 go_wp2
 go_ret
 exact ⟨_, rfl, hb1⟩
theorem XG (O : Option Addr) (n c : Nat) (K : Option Addr) (m d : Nat) (h : 12 < n) (h1 : n ≤ 100) (w : World) :
  Calls Tryz.prog 22 #[gI O n c K m d] w fun e' w' => ∃ b : Bool, e' = .returned (.bool b) ∧ (b = true → n ≤ 110 ∧ m ≤ 120) ∧ Below w.heap.size w w' := by
 have d0 : decide ((12 : Int) < (n : Int)) = true := by simp; omega
 have d1 : decide ((n : Int) ≤ 100) = true := by simp; omega
 obtain ⟨w0, HW, aj, kC⟩ := st1 (jh O n c K m d) qA w
 have ah := bP w0
 go_in
 go_upto_region 1 with (fail)
 rw [HW.out]
 have zc := kC.out _ ah
 have bV := ag aj.out ah.out
 go_wp2
 go_ret
 exact ⟨false, by first | rfl | simp, fun h9 => Bool.noConfusion h9, bV⟩
theorem XF (O : Option Addr) (n c : Nat) (K : Option Addr) (m d : Nat) (h : 110 < n) (w : World) :
  Calls Tryz.prog 22 #[gI O n c K m d] w fun e' w' => ∃ b : Bool, e' = .returned (.bool b) ∧ (b = true → n ≤ 110 ∧ m ≤ 120) ∧ Below w.heap.size w w' := by
 have d0 : decide ((12 : Int) < (n : Int)) = true := by simp; omega
 have d1 : decide ((n : Int) ≤ 100) = false := by simp; omega
 have d2 : decide ((110 : Int) < (n : Int)) = true := by simp; omega
 obtain ⟨w0, HW, aj, kC⟩ := st1 (jh O n c K m d) qA w
 have ah := bP w0
 go_in
 go_upto_region 1 with (fail)
 rw [HW.out]
 have zc := kC.out _ ah
 have bV := ag aj.out ah.out
 go_wp2
 go_ret
 exact ⟨false, by first | rfl | simp, fun h9 => Bool.noConfusion h9, bV⟩
theorem XE (O : Option Addr) (n c : Nat) (K : Option Addr) (m d : Nat) (h : ¬ 12 < n) (h1 : 120 < m) (w : World) :
  Calls Tryz.prog 22 #[gI O n c K m d] w fun e' w' => ∃ b : Bool, e' = .returned (.bool b) ∧ (b = true → n ≤ 110 ∧ m ≤ 120) ∧ Below w.heap.size w w' := by
 have d0 : decide ((12 : Int) < (n : Int)) = false := by simp; omega
 have d2 : decide ((110 : Int) < (n : Int)) = false := by simp; omega
 have d3 : decide ((120 : Int) < (m : Int)) = true := by simp; omega
 obtain ⟨w0, HW, aj, kC⟩ := st1 (jh O n c K m d) qA w
 have ah := bP w0
 go_in
 go_upto_region 1 with (fail)
 rw [HW.out]
 have zc := kC.out _ ah
 have bV := ag aj.out ah.out
 go_wp2
 go_ret
 exact ⟨false, by first | rfl | simp, fun h9 => Bool.noConfusion h9, bV⟩
theorem XD (O : Option Addr) (n c : Nat) (K : Option Addr) (m d : Nat) (h : ¬ n ≤ 100) (h2 : n ≤ 110) (h1 : 120 < m) (w : World) :
  Calls Tryz.prog 22 #[gI O n c K m d] w fun e' w' => ∃ b : Bool, e' = .returned (.bool b) ∧ (b = true → n ≤ 110 ∧ m ≤ 120) ∧ Below w.heap.size w w' := by
 have d0 : decide ((12 : Int) < (n : Int)) = true := by simp; omega
 have d1 : decide ((n : Int) ≤ 100) = false := by simp; omega
 have d2 : decide ((110 : Int) < (n : Int)) = false := by simp; omega
 have d3 : decide ((120 : Int) < (m : Int)) = true := by simp; omega
 obtain ⟨w0, HW, aj, kC⟩ := st1 (jh O n c K m d) qA w
 have ah := bP w0
 go_in
 go_upto_region 1 with (fail)
 rw [HW.out]
 have zc := kC.out _ ah
 have bV := ag aj.out ah.out
 go_wp2
 go_ret
 exact ⟨false, by first | rfl | simp, fun h9 => Bool.noConfusion h9, bV⟩
theorem XC (O : Option Addr) (os : List az) (n c : Nat) (K : Option Addr) (m d : Nat) (hn : Hid (os.length = n)) (h : ¬ 12 < n) (h1 : ¬ 120 < m) (w : World) (hO : Hid (Os w O os)) :
  Calls Tryz.prog 22 #[gI O n c K m d] w fun e' w' => ∃ b : Bool, e' = .returned (.bool b) ∧ (b = true → n ≤ 110 ∧ m ≤ 120) ∧ Below w.heap.size w w' := by
 have d0 : decide ((12 : Int) < (n : Int)) = false := by simp; omega
 have d2 : decide ((110 : Int) < (n : Int)) = false := by simp; omega
 have d3 : decide ((120 : Int) < (m : Int)) = false := by simp; omega
 obtain ⟨w0, HW, aj, kC⟩ := st1 (jh O n c K m d) qA w
 have Dm := fq (fun u => Os u O os) aj hO (·.below)
 have ah := bP w0
 clear hO
 go_in
 go_upto_region 1 with (fail)
 rw [HW.out]
 have zc := kC.out _ ah
 go_wp2_with fail
 refine (BB O os n c hn (by omega) _ (Dm.out _ ah)).mono ?_
 rintro e w1 ⟨b, rfl, hb0⟩
 have ax := bF ah hb0
 clear zc hb0
 have zc := kC.out _ ax
 have bV := ag aj.out ax.out
 go_wp2
 go_ret
 exact ⟨_, rfl, fun _ => ⟨by omega, by omega⟩, bV⟩
theorem XB (O : Option Addr) (os : List az) (n c : Nat) (K : Option Addr) (m d : Nat) (hn : Hid (os.length = n)) (h : ¬ n ≤ 100) (h2 : n ≤ 110) (h1 : ¬ 120 < m) (w : World) (hO : Hid (Os w O os)) :
  Calls Tryz.prog 22 #[gI O n c K m d] w fun e' w' => ∃ b : Bool, e' = .returned (.bool b) ∧ (b = true → n ≤ 110 ∧ m ≤ 120) ∧ Below w.heap.size w w' := by
 have d0 : decide ((12 : Int) < (n : Int)) = true := by simp; omega
 have d1 : decide ((n : Int) ≤ 100) = false := by simp; omega
 have d2 : decide ((110 : Int) < (n : Int)) = false := by simp; omega
 have d3 : decide ((120 : Int) < (m : Int)) = false := by simp; omega
 obtain ⟨w0, HW, aj, kC⟩ := st1 (jh O n c K m d) qA w
 have Dm := fq (fun u => Os u O os) aj hO (·.below)
 have ah := bP w0
 clear hO
 go_in
 go_upto_region 1 with (fail)
 rw [HW.out]
 have zc := kC.out _ ah
 go_wp2_with fail
 refine (BB O os n c hn (by omega) _ (Dm.out _ ah)).mono ?_
 rintro e w1 ⟨b, rfl, hb0⟩
 have ax := bF ah hb0
 clear zc hb0
 have zc := kC.out _ ax
 have bV := ag aj.out ax.out
 go_wp2
 go_ret
 exact ⟨_, rfl, fun _ => ⟨by omega, by omega⟩, bV⟩
theorem J5 (O : Option Addr) (os : List az) (n c : Nat) (K : Option Addr) (m d : Nat) (hn : Hid (os.length = n)) (w : World) (hO : Hid (Os w O os)) :
  Calls Tryz.prog 22 #[gI O n c K m d] w fun e' w' => ∃ b : Bool, e' = .returned (.bool b) ∧ (b = true → n ≤ 110 ∧ m ≤ 120) ∧ Below w.heap.size w w' := by
 by_cases h : 12 < n
 ·
  by_cases h1 : n ≤ 100
  · exact XG O n c K m d h h1 w
  ·
   by_cases h2 : 110 < n
   · exact XF O n c K m d h2 w
   ·
    by_cases h3 : 120 < m
    · exact XD O n c K m d h1 (by omega) h3 w
    · exact XB O os n c K m d hn h1 (by omega) h3 w hO
 ·
  by_cases h3 : 120 < m
  · exact XE O n c K m d h h3 w
  · exact XC O os n c K m d hn h h3 w hO
abbrev lQ (o : az) : List Value := [.int .i64 o.num, .string o.rs, .int .i64 o.E1, .int .i64 o.E2, .slice o.A o.na o.ca, .int .i64 o.C, .slice o.Z o.nz o.cz, .slice o.L o.np o.cp, .int .i64 o.key]
abbrev qQ (p : aV) : List Value := [.int .i64 p.ix, .int .i64 p.v, .slice p.A p.na p.ca, .int .i64 p.C, .slice p.Z p.nz p.cz]
abbrev oN (h : List Int) : List Value := h.map (Value.int .u8)
theorem Ch : (Tryz.prog.info? 104).map (fun i => (i.zero, i.size, i.bytes)) = some (some (.agg #[.int .i64 0, .string ⟨#[]⟩, .int .i64 0, .int .i64 0, .slice none 0 0, .int .i64 0, .slice none 0 0, .slice none 0 0, .int .i64 0]), 9, 128) := by kernel_rfl
theorem yC : (Tryz.prog.info? 56).map (fun i => (i.zero, i.size, i.bytes)) = some (some (.agg #[.int .i64 0, .int .i64 0, .slice none 0 0, .int .i64 0, .slice none 0 0]), 5, 72) := by kernel_rfl
theorem IK : (Tryz.prog.info? 41).map (fun i => (i.zero, i.size, i.bytes)) = some (some (.agg (arr .u8 (dz 32))), 32, 32) := by kernel_rfl
theorem CG {α : Type _} (f : α → List Value) (s : Nat) (d : α) : ∀ (l : List α) (k r : Nat), (∀ x ∈ l, (f x).length = s) → r < s → k < l.length → (l.flatMap f)[k * s + r]? = (f (l.getD k d))[r]?
 | [], k, r, _, _, hk => absurd hk (by simp)
 | c :: cs, 0, r, h, hr, _ => by
  rw [List.flatMap_cons, Nat.zero_mul, Nat.zero_add, List.getElem?_append_left (by rw [h c (List.mem_cons_self ..)]; exact hr)]
  rfl
 | c :: cs, k + 1, r, h, hr, hk => by
  have hc := h c (List.mem_cons_self ..)
  rw [List.flatMap_cons, List.getElem?_append_right (by rw [hc, Nat.succ_mul]; omega)]
  rw [show (k + 1) * s + r - (f c).length = k * s + r by rw [hc, Nat.succ_mul]; omega]
  rw [CG f s d cs k r (fun x hx => h x (List.mem_cons_of_mem _ hx)) hr (by simpa using hk)]
  rfl
theorem rU {α : Type _} (f : α → List Value) (s : Nat) : ∀ (l : List α), (∀ x ∈ l, (f x).length = s) → (l.flatMap f).length = l.length * s
 | [], _ => by simp
 | c :: cs, h => by
  rw [List.flatMap_cons, List.length_append, h c (List.mem_cons_self ..), rU f s cs fun x hx => h x (List.mem_cons_of_mem _ hx), List.length_cons, Nat.succ_mul]; omega
theorem Bp {α : Type _} (f : α → List Value) (s : Nat) (d : α) (hs : 0 < s) {l : List α} {n : Nat} (hn : l.length = n) (h : ∀ x ∈ l, (f x).length = s) {w : World} {b o : Nat}
  (hc : ∀ k, k < n → ∀ r u, (f (l.getD k d))[r]? = some u → w.cell? ⟨b, o + k * s + r, none⟩ = some u) : ∀ j u, (l.flatMap f)[j]? = some u → w.cell? ((⟨b, o, none⟩ : Addr).add j) = some u := fun j u hj => by
 have hlt : j < n * s := by rw [← hn, ← rU f s l h]; exact (List.getElem?_eq_some_iff.1 hj).1
 have hk : j / s < n := (Nat.div_lt_iff_lt_mul hs).2 hlt
 have hr : j % s < s := Nat.mod_lt _ hs
 have e : j = j / s * s + j % s := by rw [Nat.mul_comm]; exact (Nat.div_add_mod j s).symm
 rw [e, CG f s d l _ _ h hr (by omega)] at hj
 rw [CX, e, ← Nat.add_assoc]
 exact hc _ hk _ _ hj
theorem mV {α : Type _} (f : α → List Value) (s : Nat) (d : α) {w : World} {base n : Nat} {T : TypeId} {v : Value} {l : List α} (h : w.ownsRow base T s v n (l.flatMap f)) (hn : l.length = n) (hl : ∀ x ∈ l, (f x).length = s) (h0 : 0 < n) :
  ∃ g cap, v = .slice (some ⟨g, 0, none⟩) n cap ∧ base ≤ g ∧ g < w.heap.size ∧ n ≤ cap ∧ (∀ j, w.frozen? ⟨g, j, none⟩ = false) ∧ ∀ k, k < n → ∀ r, r < s → w.cell? ⟨g, k * s + r, none⟩ = (f (l.getD k d))[r]? := by
 rcases h.2 with ⟨_, h3⟩ | ⟨g, cap, cur, rfl, hg, hh, hc, _, hs, ht⟩
 · omega
 ·
  refine ⟨g, cap, rfl, hg, (Array.getElem?_eq_some_iff.1 hh).1, hc, fun j => av hh j, fun k hk r hr => ?_⟩
  have h1 : k * s + r < n * s := by
   have : (k + 1) * s ≤ n * s := Nat.mul_le_mul_right s hk
   rw [Nat.succ_mul] at this; omega
  rw [au hh, ← Array.getElem?_toList, ← CG f s d l k r hl hr (by omega), ← ht, List.getElem?_take_of_lt h1]
theorem iX {w : World} {base n s : Nat} {T : TypeId} {v : Value} {cs : List Value} (h : w.ownsRow base T s v n cs) : ∃ A c, v = .slice A n c ∧ n ≤ c ∧ (∀ b, v.ownBlock = some b → base ≤ b ∧ b < w.heap.size) := by
 have hlt := fun b e => World.ownsRow.lt h b e
 rcases h.2 with ⟨rfl, rfl⟩ | ⟨g, cap, cur, rfl, _, _, hc, _⟩
 · exact ⟨none, 0, rfl, Nat.le_refl _, hlt⟩
 · exact ⟨some ⟨g, 0, none⟩, cap, rfl, hc, hlt⟩
section
variable {P : Program} {w : World}
theorem xY (base : Nat) (t ty e : TypeId) (i : TypeInfo) (size : Nat) (ht : P.underlying t = some (.slice e)) (hi : P.info? e = some i)
  (v : Value) (n : Nat) (xs : List Value) (hown : w.ownsRow base e size v n xs) (A : Option Addr) (c : Nat) :
  (Builtin.append_ #[t, t] ty #[v, .slice A 0 c]).run P w = .ok v w := by
 rcases hown.2 with ⟨rfl, rfl⟩ | ⟨g, cap, cur, rfl, _, _, hnc, _⟩
 · cases A <;> simp [Builtin.append_, run_underlying ht, sizeOf, typeInfo, hi, Builtin.lenOf, Builtin.firstCells, loadCells, loadCellsFrom]
 · cases A <;> simp [Builtin.append_, run_underlying ht, sizeOf, typeInfo, hi, Builtin.lenOf, Builtin.firstCells, hnc, storeCells, loadCells, loadCellsFrom]
theorem jG {ops : Array Oper} {rest : List Oper} {o : Oper} {a : Act} {Q : Exit → Act → World → Prop} (hgd : o.guard = none) (s x : Operand) (t : TypeId)
  (ho : o.op = .call { callee := .builtin .append, args := #[s, x], argTypes := #[t, t] })
  (base : Nat) (e : TypeId) (i : TypeInfo) (z : Value) (size bytes : Nat) (ht : P.underlying t = some (.slice e)) (hi : P.info? e = some i) (hz : i.zero = some z)
  (hsize : i.size = size) (hby : i.bytes = bytes) (hzs : z.cells.size = size) (hsz : 0 < size)
  (v : Value) (n : Nat) (xs : List Value) (hs : a.eval s = v) (hown : w.ownsRow base e size v n xs)
  (A : Option Addr) (m c : Nat) (news : List Value) (hx : a.eval x = .slice A m c) (hl : news.length = m * size) (hnews : 0 < m → ∃ ad, A = some ad ∧ ∀ j u, news[j]? = some u → w.cell? (ad.add j) = some u) (h1 : ∀ u ∈ news, u.oneCell' = true)
  (h63 : n + m ≤ maxLen) (hbytes : (n + m) * bytes ≤ 140737488355328) (hbase : base ≤ w.heap.size)
  (h : ∀ A' c' w', w'.ownsRow base e size (.slice A' (n + m) c') (n + m) (xs ++ news) → w.grownBy w' v.ownBlock → (∀ b, (Value.slice A' (n + m) c').ownBlock = some b → v.ownBlock = some b ∨ b = w.heap.size) → wpList P ops Q rest (a.put o.dst (.slice A' (n + m) c')) w') : wpList P ops Q (o :: rest) a w := by
 by_cases hm : 0 < m
 ·
  obtain ⟨ad, rfl, hn⟩ := hnews hm
  exact wpList_append_lies hgd s x t ho base e i z size bytes ht hi hz hsize hby hzs hsz v n xs hs hown ad m c news hx hl hn h1 hm h63 hbytes hbase _ rfl fun g cap w' q1 q2 q3 q4 => h _ _ w' q1 q2 (fun b e => by cases e; exact q3)
 ·
  obtain rfl : m = 0 := by omega
  obtain rfl : news = [] := List.eq_nil_of_length_eq_zero (by rw [hl, Nat.zero_mul])
  obtain ⟨A', c', rfl, _⟩ := iX hown
  refine wpList_plain hgd fun K hK => ?_
  have hrun := xY (P := P) (w := w) base t o.type e i size ht hi _ n xs hown A c
  unfold Oper.wp
  simp [execOp, ho, resolve, invoke, builtin, hs, hx, hrun, Result.andThen]
  have h9 := hK _ _ (h A' c' w (by simpa using hown) ⟨rfl, rfl, rfl, Nat.le_refl _, fun _ _ _ => rfl⟩ (fun b e => .inl e))
  have h10 : K (a.put o.dst (.slice A' n c')) w := by simpa using h9
  simpa [Oper.upon] using h10
end
theorem Ud {w : World} {base n c : Nat} {A : Option Addr} {hs : List (List Int)} (h : w.ownsRow base 41 32 (.slice A n c) n (hs.flatMap oN)) (hn : hs.length = n) (hl : ∀ x ∈ hs, x.length = 32) : Hs w A hs := fun k hk => by
 obtain ⟨g, cap, e, hg, _, _, _, hcs⟩ := mV oN 32 [] h hn (fun x hx => by rw [oN, List.length_map]; exact hl x hx) (by omega)
 cases e
 have hl2 : (hsL hs k).length = 32 := by
  rw [hsL, List.getD_eq_getElem?_getD, List.getElem?_eq_getElem hk]; exact hl _ (List.getElem_mem hk)
 refine ⟨g, 0, rfl, hl2, fun j v hj => ?_⟩
 have hjl : j < 32 := by have := (List.getElem?_eq_some_iff.1 hj).1; rw [List.length_map, hl2] at this; exact this
 rw [Nat.zero_add, hcs k (by omega) j hjl]
 exact hj
theorem vJ {w : World} {K : Option Addr} {hs : List (List Int)} (h : Hs w K hs) : ∀ x ∈ hs, x.length = 32 := fun x hx => by
 obtain ⟨k, hk, rfl⟩ := List.getElem_of_mem hx
 obtain ⟨b, o, _, hl, _⟩ := h k hk
 rw [hsL, List.getD_eq_getElem?_getD, List.getElem?_eq_getElem hk] at hl
 exact hl
theorem IL {w : World} {K : Option Addr} {hs : List (List Int)} {m : Nat} (h : Hs w K hs) (hm : hs.length = m) (h0 : 0 < m) : ∃ ad, K = some ad ∧ ∀ j u, (hs.flatMap oN)[j]? = some u → w.cell? (ad.add j) = some u := by
 obtain ⟨b, o, rfl, _⟩ := h 0 (by omega)
 refine ⟨_, rfl, Bp oN 32 [] (by decide) hm (fun x hx => by rw [oN, List.length_map]; exact vJ h x hx) fun k hk r u hr => ?_⟩
 obtain ⟨b', o', e, _, hrg⟩ := h k (by omega)
 cases e
 exact hrg r u hr
theorem IJ (hs : List (List Int)) : ∀ u ∈ hs.flatMap oN, u.oneCell' = true := fun u hu => by
 obtain ⟨h, _, hh⟩ := List.mem_flatMap.1 hu
 obtain ⟨x, _, rfl⟩ := List.mem_map.1 hh
 rfl
theorem Pz (ps : List aV) : ∀ u ∈ ps.flatMap qQ, u.oneCell' = true := fun u hu => by
 obtain ⟨p, _, hp⟩ := List.mem_flatMap.1 hu
 simp at hp
 rcases hp with rfl | rfl | rfl | rfl | rfl <;> rfl
theorem PE {w : World} {L : Option Addr} {ps : List aV} {m : Nat} (h : Pa w L ps) (hm : ps.length = m) (h0 : 0 < m) : ∃ ad, L = some ad ∧ ∀ j u, (ps.flatMap qQ)[j]? = some u → w.cell? (ad.add j) = some u := by
 obtain ⟨b, o, rfl, _⟩ := h 0 (by omega)
 refine ⟨_, rfl, Bp qQ 5 aH (by decide) hm (fun _ _ => rfl) fun k hk r u hr => ?_⟩
 obtain ⟨b', o', e, c0, c1, c2, c3, c4, _⟩ := h k (by omega)
 cases e
 match r, hr with
 | 0, hr => cases hr; exact c0
 | 1, hr => cases hr; exact c1
 | 2, hr => cases hr; exact c2
 | 3, hr => cases hr; exact c3
 | 4, hr => cases hr; exact c4
 | r + 5, hr => cases hr
def PB (w : World) (b : Nat) (ps : List aV) : Prop := (∀ j, w.frozen? ⟨b, j, none⟩ = false) ∧ ∀ k, k < ps.length → ∀ r, r < 5 → w.cell? ⟨b, k * 5 + r, none⟩ = (qQ (ps.getD k aH))[r]?
theorem PB.agree {w w' : World} {b : Nat} {ps : List aV} (h : PB w b ps) (e : w'.heap[b]? = w.heap[b]?) : PB w' b ps :=
 ⟨fun j => by have := h.1 j; simp only [World.frozen?, e] at this ⊢; exact this, fun k hk r hr => (kF e).trans (h.2 k hk r hr)⟩
theorem PB.pa {w : World} {b : Nat} {ps : List aV} (h : PB w b ps) (hok : ∀ k, k < ps.length → vV w (ps.getD k aH)) : Pa w (some ⟨b, 0, none⟩) ps := fun k hk => by
 refine ⟨b, 0, rfl, ?_, ?_, ?_, ?_, ?_, hok k hk⟩
 · rw [Nat.zero_add]; exact h.2 k hk 0 (by decide)
 · rw [Nat.zero_add]; exact h.2 k hk 1 (by decide)
 · rw [Nat.zero_add]; exact h.2 k hk 2 (by decide)
 · rw [Nat.zero_add]; exact h.2 k hk 3 (by decide)
 · rw [Nat.zero_add]; exact h.2 k hk 4 (by decide)
abbrev Tp (o : az) (L : Option Addr) (c : Nat) : az := { o with L := L, cp := c }
def Rf (B : Nat) (g : Option Nat) (w : World) (o o' : az) : Prop := ∃ L c, o' = Tp o L c ∧ o.np ≤ c ∧ (0 < o.np → ∃ b, L = some ⟨b, 0, none⟩ ∧ B < b ∧ b < w.heap.size ∧ g ≠ some b ∧ PB w b o.ps)
theorem Rf.grown {B : Nat} {g g' : Option Nat} {w w' : World} {o o' : az} (h : Rf B g w o o') (hg : w.grownBy w' g) (hz : w.heap.size ≤ w'.heap.size) (hgg : ∀ b, g' = some b → g = some b ∨ w.heap.size ≤ b) : Rf B g' w' o o' := by
 obtain ⟨L, c, e, hc, hp⟩ := h
 refine ⟨L, c, e, hc, fun h0 => ?_⟩
 obtain ⟨b, rfl, h1, h2, h3, h4⟩ := hp h0
 exact ⟨b, rfl, h1, by omega, fun e => by rcases hgg b e with e2 | e2; exact h3 e2; omega, h4.agree (hg.block b h2 (fun e => h3 e.symm))⟩
theorem Rf.kept {B : Nat} {g : Option Nat} {w w' : World} {o o' : az} (h : Rf B g w o o') (hb : Below w.heap.size w w') : Rf B g w' o o' := by
 obtain ⟨L, c, e, hc, hp⟩ := h
 refine ⟨L, c, e, hc, fun h0 => ?_⟩
 obtain ⟨b, rfl, h1, h2, h3, h4⟩ := hp h0
 exact ⟨b, rfl, h1, by have := hb.size; omega, h3, h4.agree (hb.block b h2)⟩
theorem Rf.setCell {B a j : Nat} {g : Option Nat} {w : World} {o o' : az} {v : Value} (h : Rf B g w o o') (ha : a ≤ B) : Rf B g (w.setCell ⟨a, j, none⟩ v) o o' := by
 obtain ⟨L, c, e, hc, hp⟩ := h
 refine ⟨L, c, e, hc, fun h0 => ?_⟩
 obtain ⟨b, rfl, h1, h2, h3, h4⟩ := hp h0
 exact ⟨b, rfl, h1, by rw [World.size_setCell]; exact h2, h3, h4.agree (Go.Deep.blk_setCell_other _ _ _ _ (show b ≠ a by omega))⟩
theorem own_below {w w' : World} {B base s n : Nat} {T : TypeId} {v : Value} {cs : List Value} (h : w.ownsRow base T s v n cs) (hb : Below B w w') (hlt : ∀ b, v.ownBlock = some b → b < B) : w'.ownsRow base T s v n cs := by
 refine ⟨h.1, h.2.imp id ?_⟩
 rintro ⟨g, cap, cur, rfl, hg, hh, rest⟩
 exact ⟨g, cap, cur, rfl, hg, (hb.block g (hlt g rfl)).trans hh, rest⟩
theorem vv {w : World} {B base s n : Nat} {T : TypeId} {v : Value} {cs : List Value} (h : w.ownsRow base T s v n cs) (hb : B ≤ base) : w.ownsRow B T s v n cs := by
 refine ⟨h.1, h.2.imp id ?_⟩
 rintro ⟨g, cap, cur, rfl, hg, rest⟩
 exact ⟨g, cap, cur, rfl, Nat.le_trans hb hg, rest⟩
theorem wX {os : List az} {o : az} {j : Nat} (h : j < os.length) : bL (os ++ [o]) j = bL os j := by
 rw [bL, bL, List.getD_eq_getElem?_getD, List.getElem?_append_left h, ← List.getD_eq_getElem?_getD]
theorem wW {os : List az} {o : az} {k : Nat} (h : os.length = k) : bL (os ++ [o]) k = o := by
 rw [bL, List.getD_eq_getElem?_getD, List.getElem?_append_right (by omega), h, Nat.sub_self]; rfl
theorem PN (w : World) : Calls Tryz.prog 65 #[] w (Rt w (gI none 0 0 none 0 0)) := by
 have eG : Hid ((w.alloc (.cells #[.slice none 0 0, .slice none 0 0] 52)).heap[w.heap.size]? = some (.cells #[.slice none 0 0, .slice none 0 0] 52 (0, 0))) := aa (heap_alloc_new _ _)
 go_in
 go_wp2_with ((with_reducible show wpList _ _ _ (⟨none, _, _, _, _, _⟩ :: _) _ _); refine wpList_store_row rfl 52 _ _ rfl (w.heap.size) #[.slice none 0 0, .slice none 0 0] rfl rfl _ _ eG.out (by kernel_rfl) rfl (by simp [Value.oneCell']) ?_)
 have hrw := setRow_heap _ _ _ #[.slice none 0 0, .slice none 0 0] _ _ eG.out
 exact bodyPost_ret (v := gI none 0 0 none 0 0) (aD (p := 0) (ty := 52) rfl _ _ ⟨w.heap.size, 0, none⟩ _ rfl (run_loadVar_row _ _ _ _ _ _ _ hrw Tryz.underlying52 rfl (by kernel_rfl))) rfl ⟨rfl, ai (af _ _) (Nat.le_refl _)⟩
def PK (os : List az) (n : Nat) : Bool := decide (0 < n) && ((bL os (n - 1)).key == 0)
theorem TC (O : Option Addr) (c : Nat) (K : Option Addr) (m d : Nat) (w : World) :
  Calls Tryz.prog 120 #[gI O 0 c K m d] w (Rt w (.bool false)) := by
 obtain ⟨w0, HW, aj, kC⟩ := st1 (jh O 0 c K m d) qA w
 have ah := bP w0
 go_in
 go_wp2_with fail
 rw [HW.out]
 have zc := kC.out _ ah
 go_wp2
 go_ret
 exact ⟨rfl, gy aj ah⟩
theorem open_1 (O : Option Addr) (os : List az) (n c : Nat) (K : Option Addr) (m d : Nat) (hn : Hid (os.length = n + 1)) (hb : n ≤ 1000000) (r : Bool) (hr : Hid (PK os (n + 1) = r)) (w : World) (hO : Hid (Os w O os)) :
  Calls Tryz.prog 120 #[gI O (n + 1) c K m d] w (Rt w (.bool r)) := by
 obtain ⟨w0, HW, aj, kC⟩ := st1 (jh O (n + 1) c K m d) qA w
 have Dm := fq (fun u => Os u O os) aj hO (·.below)
 have ah := bP w0
 clear hO
 obtain ⟨b, f, hA, h9, hok⟩ := (Dm.out _ ah).out n (by rw [hn.out]; omega)
 subst hA
 obtain ⟨o, ho⟩ : ∃ o, os.getD n dI = o := ⟨_, rfl⟩
 rw [ho] at h9
 have hr1 := hr.out
 rw [PK, show n + 1 - 1 = n by omega, bL, ho, decide_eq_true (show 0 < n + 1 by omega), Bool.true_and] at hr1
 have HX := aa h9.2.2.2.2.2.2.2.2
 have dw : IntKind.i64.wrap ((n : Int) + 1 - 1) = (n : Int) := by rw [show (n : Int) + 1 - 1 = n by omega]; exact IntWalk.i64_in _ (by omega)
 have XN : wrap64 ((n : Int) + 1 - 1) = (n : Int) := by rw [show (n : Int) + 1 - 1 = n by omega]; exact IntWalk.wrap64_in _ (by omega)
 have afx : decide ((0 : Int) < (n : Int) + 1) = true := decide_eq_true (by omega)
 have x8 := HX.out
 clear ho h9 hok
 go_in
 go_upto_region 1 with (fail)
 rw [HW.out]
 have zc := kC.out _ ah
 go_wp2
 go_ret
 exact ⟨by first | rfl | rw [hr1], gy aj ah⟩
theorem ES (O : Option Addr) (n c : Nat) (K : Option Addr) (m d : Nat) (w : World) : Calls Tryz.prog 89 #[gI O n c K m d, .int .i64 0] w (Rt w (.agg (arr .u8 (dz 32)))) := by
 obtain ⟨W, hW⟩ : ∃ W, (w.alloc (jh O n c K m d)).alloc (.cells z32 41) = W := ⟨_, rfl⟩
 have bT : Hid (Below w.heap.size w W) := aa (by rw [← hW]; exact aJ (Below.refl _ _))
 have eG : Hid (bH .u8 41 W (w.heap.size + 1) (dz 32)) := aa (by rw [← hW, jd]; exact heap_alloc2_new _ _ _)
 have HW := aa hW
 clear hW
 go_in
 go_upto_region 1 with (fail)
 rw [HW.out]
 go_wp2_with ((with_reducible show wpList _ _ _ (⟨none, _, _, _, _, _⟩ :: _) _ _); refine wpList_store_row rfl 41 _ _ rfl (w.heap.size + 1) (arr .u8 (dz 32)) rfl rfl _ _ eG.out (ay (by simp [dz])) rfl (dh _) ?_)
 have hrw := eG.out.setRow (l' := dz 32)
 exact bodyPost_ret (v := .agg (arr .u8 (dz 32))) (aD (p := 4) (ty := 41) rfl _ _ ⟨w.heap.size + 1, 0, none⟩ _ rfl (run_loadVar_row _ _ _ _ _ _ _ hrw Tryz.underlying41 rfl (ay (by simp [dz])))) rfl ⟨rfl, ai bT.out (Nat.le_succ _)⟩
theorem Nr (O : Option Addr) (os : List az) (n c : Nat) (K : Option Addr) (d : Nat) (hn : Hid (os.length = n)) (hI : ∀ k, k < n → dJ (bL os k)) (hb1 : n ≤ 1000000) (hr : Kp (fP os [] = true)) (w : World) (hv : Hid (bz w)) (hO : Hid (Os w O os)) (hK : Hid (Hs w K [])) :
  Calls Tryz.prog 67 #[gI O n c K 0 d] w (Rt w (.agg (arr .u8 (dz 32)))) := by
 obtain ⟨w0, HW, aj, kC⟩ := st2 (jh O n c K 0 d) rq (.cells z32 41) sO w
 have kD := o6 aj hv
 have Dm := fq (fun u => Os u O os) aj hO (·.below)
 have IE := fq (fun u => Hs u K []) aj hK (·.below)
 have nT := aa (show ∀ u : World, Hid (Below w0.heap.size w0 u) → Hid (bH .u8 41 u (w.heap.size + 1) (dz 32)) from fun u h9 => aa (bH.below (by rw [← HW.out, jd]; exact heap_alloc2_new _ _ _) h9.out))
 have ah := bP w0
 clear hv hO hK
 go_in
 go_upto_region 1 with (fail)
 rw [HW.out]
 have zc := kC.out _ ah
 go_wp2_with fail
 clear zc
 refine eH kC ah (jg O os n c K [] 0 d hn (aa rfl) hI hb1 (by omega) true hr _ (kD.out _ ah) (Dm.out _ ah) (IE.out _ ah)) fun w1 ax zc => ?_
 go_wp2_with fail
 clear zc
 refine eH kC ax (ES O n c K 0 d _) fun w2 aK zc => ?_
 have jF := nT.out _ aK
 have bV := ai (ag aj.out aK.out) (cs := arr .u8 (dz 32)) (Nat.le_add_right w.heap.size 1)
 go_wp2_with ((with_reducible show wpList _ _ _ (⟨none, _, _, _, _, _⟩ :: _) _ _); refine wpList_store_row rfl 41 _ _ rfl (w.heap.size + 1) (arr .u8 (dz 32)) rfl rfl _ _ jF.out (ay (by simp [dz])) rfl (dh _) ?_)
 have hrw := jF.out.setRow (l' := dz 32)
 exact bodyPost_ret (v := .agg (arr .u8 (dz 32))) (aD (p := 2) (ty := 41) rfl _ _ ⟨w.heap.size + 1, 0, none⟩ _ rfl (run_loadVar_row _ _ _ _ _ _ _ hrw Tryz.underlying41 rfl (ay (by simp [dz])))) rfl ⟨rfl, bV⟩
theorem Nt (w : World) : Calls Tryz.prog 128 #[.slice none 0 0] w (Rt w (.slice none 0 0)) := by
 have hq : ∀ w, (binOp .eql 50 (.slice none 0 0) (.slice none 0 0)).run Tryz.prog w = .ok (.bool true) w := fun w => by kernel_rfl
 go_in
 go_wp2
 go_ret
 exact ⟨rfl, Below.refl _ _⟩
theorem Nv (w : World) :
  Calls Tryz.prog 75 #[gI none 0 0 none 0 0] w (Rt w (gI none 0 0 none 0 0)) := by
 obtain ⟨w0, HW, aj, kC⟩ := st2 (jh none 0 0 none 0 0) rq (.cells #[.slice none 0 0, .slice none 0 0] 52) sO w
 have nT := Bg (w0 := w0) (o := .cells #[.slice none 0 0, .slice none 0 0] 52) (w.heap.size + 1) (by rw [← HW.out]; exact heap_alloc2_new _ _ _)
 have ah := bP w0
 go_in
 go_upto_region 1 with (fail)
 rw [HW.out]
 have zc := kC.out _ ah
 go_wp2_with fail
 clear zc
 refine eH kC ah (Nt _) fun w1 ax zc => ?_
 have hq0 := af w1 (.cells #[.slice none 0 0, .slice none 0 0] 52)
 have aK := bF ax hq0
 clear hq0
 have tJ := kC.out _ aK
 have hbk : (w1.alloc (.cells #[.slice none 0 0, .slice none 0 0] 52)).heap[w1.heap.size]? = some (.cells #[.slice none 0 0, .slice none 0 0] 52) := heap_alloc_new _ _
 have y0 := au hbk 0
 have y1 := au hbk 1
 clear hbk
 go_wp2
 go_loopw [16] (fun i u => i = .int .i64 0 ∧ u = w1.alloc (.cells #[.slice none 0 0, .slice none 0 0] 52)) (fun _ _ => 0)
 case atStart => exact ⟨rfl, rfl⟩
 case round =>
  obtain ⟨rfl, rfl⟩ := hrel
  have jF := nT.out _ aK
  have bV := ai (ag aj.out aK.out) (cs := #[.slice none 0 0, .slice none 0 0]) (Nat.le_add_right w.heap.size 1)
  go_wp2_with ((with_reducible show wpList _ _ _ (⟨none, _, _, _, _, _⟩ :: _) _ _); refine wpList_store_row rfl 52 _ _ rfl (w.heap.size + 1) #[.slice none 0 0, .slice none 0 0] rfl rfl _ _ jF.out (by kernel_rfl) rfl (by simp [Value.oneCell']) ?_)
  have hrw := setRow_heap _ _ _ #[.slice none 0 0, .slice none 0 0] _ _ jF.out
  exact bodyPost_ret (v := gI none 0 0 none 0 0) (aD (p := 2) (ty := 52) rfl _ _ ⟨w.heap.size + 1, 0, none⟩ _ rfl (run_loadVar_row _ _ _ _ _ _ _ hrw Tryz.underlying52 rfl (by kernel_rfl))) rfl ⟨rfl, bV⟩
theorem Sl.setRowS {w : World} {A : Option Addr} {xs : List Int} {a : Nat} {cs : Array Value} (h : Sl w A xs) (hne : ∀ b o, A = some ⟨b, o, none⟩ → 0 < xs.length → a < b) : Sl (w.setRow a cs) A xs := fun k hk => by
 obtain ⟨b, o, e, hc⟩ := h k hk
 have := hne b o e (by omega)
 exact ⟨b, o, e, (kF (setRow_other w a b cs (by omega))).trans hc⟩
def U0 (na : Nat) (al : List Int) (C : Int) (nz : Nat) (zs : List Int) (w : World) (e : Ending) (w' : World) : Prop := ∃ A ca Z cz, e = .returned (iO A na ca C Z nz cz) ∧ Sl w' A al ∧ Sl w' Z zs ∧ Below w.heap.size w w'
def U1 (na : Nat) (al : List Int) (C : Int) (nz : Nat) (zs : List Int) (w : World) (e : Ending) (w' : World) : Prop := ∃ A ca Z cz, e = .returned (iO A na ca C Z nz cz) ∧ (Sl w' A al ∧ ∀ b o, A = some ⟨b, o, none⟩ → 0 < al.length → w.heap.size ≤ b) ∧ (Sl w' Z zs ∧ ∀ b o, Z = some ⟨b, o, none⟩ → 0 < zs.length → w.heap.size ≤ b) ∧ Below w.heap.size w w'
theorem Ca (A : Option Addr) (na ca : Nat) (al : List Int) (C : Int) (Z : Option Addr) (nz cz : Nat) (zs : List Int) (hna : Hid (al.length = na)) (hnz : Hid (zs.length = nz)) (hb1 : na ≤ 100000) (hb2 : nz ≤ 100000) (w : World) (hA : Hid (Sl w A al)) (hZ : Hid (Sl w Z zs)) :
  Calls Tryz.prog 121 #[iO A na ca C Z nz cz] w (U1 na al C nz zs w) := by
 obtain ⟨w0, HW, aj, kC⟩ := st2 (fe A na ca C Z nz cz) fE (.cells #[.slice none 0 0, .int .i64 0, .slice none 0 0] 54) sO w
 have kA := mkS aj hA
 have kZ := mkS aj hZ
 have Fj := aa (show ∀ u : World, Hid (Below w0.heap.size w0 u) → ∀ j, u.frozen? ⟨w.heap.size, j, none⟩ = false from fun u h j => av (bG (by rw [← HW.out]; exact heap_alloc2_old _ _ _) h.out) j)
 have nT := Bg (w0 := w0) (o := .cells #[.slice none 0 0, .int .i64 0, .slice none 0 0] 54) (w.heap.size + 1) (by rw [← HW.out]; exact heap_alloc2_new _ _ _)
 have ah := bP w0
 clear hA hZ
 have jO : Hid (w0.heap.size = w.heap.size + 2) := aa (by rw [← HW.out]; simp)
 go_in
 go_upto_region 1 with (fail)
 rw [HW.out]
 have hO := kC
 have nQ := bF (aa ah.out) (Below.refl _ _).drew
 refine wU (fun u => Below w0.heap.size w0 u) [7, 8, 9] nQ (fun hHeld => ?_)
 obtain ⟨wD, nK⟩ : ∃ u, w0.drew = u := ⟨_, rfl⟩
 rw [nK] at nQ hHeld ⊢
 have zX : Hid (w0.heap.size ≤ wD.heap.size) := aa (by rw [← nK]; exact Nat.le_refl _)
 clear nK
 refine aU 0 1 3 4 ?_
 refine Jk (fun T a0 hT ha0 => ?_)
 clear hHeld
 have acS : ∀ (aA : Option Addr) (cA : Nat) (aZ : Option Addr) (cZ : Nat) (u : World), (Hid (Below w0.heap.size w0 u)) → (Hid (Sl u aA al ∧ (∀ b o, aA = some ⟨b, o, none⟩ → 0 < al.length → w.heap.size + 1 < b))) → (Hid (Sl u aZ zs ∧ (∀ b o, aZ = some ⟨b, o, none⟩ → 0 < zs.length → w.heap.size + 1 < b))) → T 3 #[true, true, true, true, true, true, true, false, false, false] (((a0.put (some 5) (.slice aA na cA)).put (some 9) (.pointer (some ⟨w.heap.size, 0, none⟩))).put (some 8) (.slice aZ nz cZ)) u := by
  intro aA cA aZ cZ u FB HA HZ
  have hHeld := FB
  rw [hT, ha0]
  try simp only [qq]
  have um := FB
  obtain ⟨q0, q1, q2, -⟩ := kC.out _ (aa FB.out)
  have f0 := Fj.out _ (aa FB.out) 0
  have f1 := Fj.out _ (aa FB.out) 1
  have f2 := Fj.out _ (aa FB.out) 2
  refine mR 7 fun K hK => ?_
  go_simp
  refine hK.out _ _ ?_
  clear hK K
  try simp only [qq]
  refine mR 8 fun K hK => ?_
  go_simp
  refine hK.out _ _ ?_
  clear hK K
  try simp only [qq]
  refine mR 9 fun K hK => ?_
  go_simp
  refine hK.out _ _ ?_
  clear hK K
  try simp only [qq]
  refine gH ?_
  obtain ⟨wz, hwz⟩ : ∃ x, ((u.setCell ⟨w.heap.size, 0, none⟩ (.slice aA na cA)).setCell ⟨w.heap.size, 2, none⟩ (.slice aZ nz cZ)) = x := ⟨_, rfl⟩
  have z0 : Own wz ⟨w.heap.size, 0, none⟩ (.slice aA na cA) := by rw [← hwz]; exact ak (bu ⟨q0, f0⟩) (by simp)
  have z1 : Own wz ⟨w.heap.size, 1, none⟩ (.int .i64 C) := by rw [← hwz]; exact ak (ak ⟨q1, f1⟩ (by simp)) (by simp)
  have z2 : Own wz ⟨w.heap.size, 2, none⟩ (.slice aZ nz cZ) := by rw [← hwz]; exact bu (ak ⟨q2, f2⟩ (by simp))
  have R7 : Hid (Below w.heap.size w wz) := aa (by rw [← hwz]; exact ((ag aj.out FB.out).setCell (Nat.le_refl _) _).setCell (Nat.le_refl _) _)
  have jF : Hid (wz.heap[w.heap.size + 1]? = some (.cells #[.slice none 0 0, .int .i64 0, .slice none 0 0] 54)) := aa (by rw [← hwz]; exact (Go.Deep.blk_setCell_other _ _ _ _ (show w.heap.size + 1 ≠ w.heap.size by omega)).trans ((Go.Deep.blk_setCell_other _ _ _ _ (show w.heap.size + 1 ≠ w.heap.size by omega)).trans (nT.out _ (aa FB.out)).out))
  have HA9 : Hid (Sl wz aA al) := aa (by rw [← hwz]; exact (HA.out.1.set (fun b o e h0 => by have := HA.out.2 b o e h0; omega)).set (fun b o e h0 => by have := HA.out.2 b o e h0; omega))
  have HZ9 : Hid (Sl wz aZ zs) := aa (by rw [← hwz]; exact (HZ.out.1.set (fun b o e h0 => by have := HZ.out.2 b o e h0; omega)).set (fun b o e h0 => by have := HZ.out.2 b o e h0; omega))
  rw [hwz]
  clear hwz q0 f0 q1 f1 q2 f2 hHeld
  obtain ⟨z0, y0⟩ := z0
  obtain ⟨z1, y1⟩ := z1
  obtain ⟨z2, y2⟩ := z2
  go_wp2_with ((with_reducible show wpList _ _ _ (⟨none, _, _, _, _, _⟩ :: _) _ _); refine wpList_store_row rfl 54 _ _ rfl (w.heap.size + 1) #[.slice aA na cA, .int .i64 C, .slice aZ nz cZ] rfl rfl _ _ jF.out (by kernel_rfl) rfl (by simp [Value.oneCell']) ?_)
  have hrw := setRow_heap _ _ _ #[.slice aA na cA, .int .i64 C, .slice aZ nz cZ] _ _ jF.out
  have bV := ai R7.out (cs := #[.slice aA na cA, .int .i64 C, .slice aZ nz cZ]) (Nat.le_add_right w.heap.size 1)
  exact bodyPost_ret (v := iO aA na cA C aZ nz cZ) (aD (p := 2) (ty := 54) rfl _ _ ⟨w.heap.size + 1, 0, none⟩ _ rfl (run_loadVar_row _ _ _ _ _ _ _ hrw Tryz.underlying54 rfl (by kernel_rfl))) rfl ⟨aA, cA, aZ, cZ, rfl, ⟨HA9.out.setRowS (fun b o e h0 => by have := HA.out.2 b o e h0; omega), fun b o e h0 => by have := HA.out.2 b o e h0; omega⟩, ⟨HZ9.out.setRowS (fun b o e h0 => by have := HZ.out.2 b o e h0; omega), fun b o e h0 => by have := HZ.out.2 b o e h0; omega⟩, bV⟩
 have G2 : ∀ (aA : Option Addr) (cA : Nat) (u : World), (Hid (Below w0.heap.size w0 u)) → (Hid (Sl u aA al ∧ (∀ b o, aA = some ⟨b, o, none⟩ → 0 < al.length → w.heap.size + 1 < b))) → T 4 #[true, true, true, true, true, false, true, false, false, false] ((a0.put (some 5) (.slice aA na cA)).put (some 9) (.pointer (some ⟨w.heap.size, 0, none⟩))) u := by
  intro aA cA u FB HA
  have hHeld := FB
  rw [hT, ha0]
  try simp only [qq]
  refine bY 5 fun K hK => ?_
  go_simp
  refine (zN Z zs nz cz hnz (by omega) _ (kZ.out _ (aa FB.out))).mono ?_
  rintro e wB ⟨aB, cB, rfl, hs9, hg9, hq⟩
  have aS := bF FB hq
  refine hK.out _ _ aS (fun hHeld => ?_)
  clear hK K hHeld
  try simp only [qq]
  have hG := acS aA cA aB cB wB aS (aa ⟨HA.out.1.below hq, HA.out.2⟩) (aa ⟨hs9, fun b o e h0 => by obtain ⟨g9, e9, Uk⟩ := hg9 h0; rw [e9] at e; cases e; have := FB.out.size; have := jO.out; omega⟩)
  rw [hT, ha0] at hG
  (try simp only [qq] at hG)
  exact hG
 have G0 : ∀  (u : World), (Hid (Below w0.heap.size w0 u)) → T 6 #[true, true, false, true, true, false, false, false, false, false] a0 u := by
  intro  u FB
  have hHeld := FB
  rw [hT, ha0]
  try simp only [qq]
  refine bY 2 fun K hK => ?_
  go_simp
  refine (zN A al na ca hna (by omega) _ (kA.out _ (aa FB.out))).mono ?_
  rintro e wB ⟨aB, cB, rfl, hs9, hg9, hq⟩
  have aS := bF FB hq
  refine hK.out _ _ aS (fun hHeld => ?_)
  clear hK K
  try simp only [qq]
  refine aL 6 ?_
  clear hHeld
  have hG := G2 aB cB wB aS (aa ⟨hs9, fun b o e h0 => by obtain ⟨g9, e9, Uk⟩ := hg9 h0; rw [e9] at e; cases e; have := FB.out.size; have := jO.out; omega⟩)
  rw [hT, ha0] at hG
  (try simp only [qq] at hG)
  exact hG
 exact G0 _ nQ
theorem JG (A : Option Addr) (na ca : Nat) (al : List Int) (C : Int) (Z : Option Addr) (nz cz : Nat) (zs : List Int) (hna : Hid (al.length = na)) (hnz : Hid (zs.length = nz)) (hb1 : na ≤ 100000) (hb2 : nz ≤ 100000) (w : World) (hA : Hid (Sl w A al)) (hZ : Hid (Sl w Z zs)) :
  Calls Tryz.prog 121 #[iO A na ca C Z nz cz] w (U0 na al C nz zs w) := (Ca A na ca al C Z nz cz zs hna hnz hb1 hb2 w hA hZ).mono (by rintro e w9 ⟨A, ca, Z, cz, rfl, h1, h2, h3⟩; exact ⟨A, ca, Z, cz, rfl, h1.1, h2.1, h3⟩)
theorem Io {g t n c : Nat} (h : g ≠ t) : (Value.slice (some ⟨g, 0, none⟩) n c).ownBlock ≠ some t := fun e => h (by simpa [Value.ownBlock] using e)
theorem TB (O : Option Addr) (os : List az) (n c : Nat) (K : Option Addr) (hs : List (List Int)) (m d : Nat) (hn : Hid (os.length = n + 1)) (hm : Hid (hs.length = m)) (hI : ∀ k, k < n + 1 → dJ (bL os k)) (hb1 : n + 1 ≤ 1000000) (hb2 : m ≤ 1000000) (E1 E2 : Int) (A : Option Addr) (na ca : Nat) (C : Int) (Z : Option Addr) (nz cz : Nat) (s : ByteArray) (hrs : Hid (Jr s = true)) (hsh : Hid (uO na nz = true)) (hr : Kp (fP os hs = true)) (ho9 : Hid (PK os (n + 1) = true)) (w : World) (hv : Hid (bz w)) (hO : Hid (Os w O os)) (hK : Hid (Hs w K hs)) :
  Calls Tryz.prog 64 #[gI O (n + 1) c K m d, .string s, J6 E1 E2 A na ca C Z nz cz] w (Rt w (.tuple #[gI none 0 0 none 0 0, .int .i64 0, .int .i64 6])) := by
 obtain ⟨w0, HW, aj, kC⟩ := sW (jh O (n + 1) c K m d) rq (Nk E1 E2 A na ca C Z nz cz) AB (.cells #[.slice none 0 0, .slice none 0 0] 52) sO w
 have kD := o6 aj hv
 have Dm := fq (fun u => Os u O os) aj hO (·.below)
 have IE := fq (fun u => Hs u K hs) aj hK (·.below)
 have nT := Bg (w0 := w0) (o := .cells #[.slice none 0 0, .slice none 0 0] 52) (w.heap.size + 2) (by rw [← HW.out]; exact iq _ _ _ _)
 have ah := bP w0
 clear hv hO hK
 go_in
 go_upto_region 1 with (fail)
 rw [HW.out]
 have zc := kC.out _ ah
 go_wp2_with fail
 clear zc
 refine eH kC ah (jg O os (n + 1) c K hs m d hn hm hI hb1 hb2 true hr _ (kD.out _ ah) (Dm.out _ ah) (IE.out _ ah)) fun w1 ax zc => ?_
 go_wp2_with fail
 refine (jw s true hrs _).mono ?_
 rintro e9 w9 ⟨rfl, vI⟩
 rw [vI]
 clear vI
 go_wp2_with fail
 clear zc
 refine eH kC ax (f_ A na ca C Z nz cz true hsh _) fun w2 aK zc => ?_
 go_wp2_with fail
 clear zc
 refine eH kC aK (open_1 O os n c K m d hn (by omega) true ho9 _ (Dm.out _ aK)) fun w3 aN zc => ?_
 have jF := nT.out _ aN
 have bV := ai (ag aj.out aN.out) (cs := #[.slice none 0 0, .slice none 0 0]) (Nat.le_add_right w.heap.size 2)
 go_wp2_with ((with_reducible show wpList _ _ _ (⟨none, _, _, _, _, _⟩ :: _) _ _); refine wpList_store_row rfl 52 _ _ rfl (w.heap.size + 2) #[.slice none 0 0, .slice none 0 0] rfl rfl _ _ jF.out (by kernel_rfl) rfl (by simp [Value.oneCell']) ?_)
 have hrw := setRow_heap _ _ _ #[.slice none 0 0, .slice none 0 0] _ _ jF.out
 exact bodyPost_ret (v := .tuple #[gI none 0 0 none 0 0, .int .i64 0, .int .i64 6]) (iB (p := 6) (q := 7) (r := 8) (ty := 52) rfl _ _ ⟨w.heap.size + 2, 0, none⟩ _ _ _ rfl rfl rfl (run_loadVar_row _ _ _ _ _ _ _ hrw Tryz.underlying52 rfl (by kernel_rfl))) rfl ⟨rfl, bV⟩
def abv (s : ByteArray) (w : World) (e : Ending) (w' : World) : Prop := ∃ (g cap : Nat) (A : Option Addr) (ca : Nat) (Z : Option Addr) (cz : Nat), e = .returned (.tuple #[gI (some ⟨g, 0, none⟩) 1 cap none 0 0, .int .i64 0, .int .i64 0]) ∧ Os w' (some ⟨g, 0, none⟩) [⟨0, s, 1, 1, A, 0, ca, [], 0, Z, 0, cz, [], none, 0, 0, [], 0⟩] ∧ Below w.heap.size w w'
theorem TA (s : ByteArray) (hrs : Hid (Jr s = true)) (w : World) (hv : Hid (bz w)) :
  Calls Tryz.prog 64 #[gI none 0 0 none 0 0, .string s, J6 1 1 none 0 0 0 none 0 0] w (abv s w) := by
 obtain ⟨w0, HW, aj, kC⟩ := sW (jh none 0 0 none 0 0) rq (Nk 1 1 none 0 0 0 none 0 0) AB (.cells #[.slice none 0 0, .slice none 0 0] 52) sO w
 have kD := o6 aj hv
 have Fj := aa (show ∀ u : World, Hid (Below w0.heap.size w0 u) → ∀ j, u.frozen? ⟨w.heap.size + 1, j, none⟩ = false from fun u h j => av (bG (by rw [← HW.out]; exact bG (heap_alloc2_new _ _ _) (af _ _)) h.out) j)
 have nT := Bg (w0 := w0) (o := .cells #[.slice none 0 0, .slice none 0 0] 52) (w.heap.size + 2) (by rw [← HW.out]; exact iq _ _ _ _)
 have ah := bP w0
 clear hv
 go_in
 go_upto_region 1 with (fail)
 rw [HW.out]
 have zc := kC.out _ ah
 have jO : Hid (w0.heap.size = w.heap.size + 3) := aa (by rw [← HW.out]; simp)
 obtain ⟨i1, hi1, hy0, hy1, hy2⟩ := info_parts Ch
 go_wp2_with fail
 clear zc
 refine eH kC ah (jg none [] 0 0 none [] 0 0 (aa rfl) (aa rfl) (fun k h => absurd h (by omega)) (by omega) (by omega) true ⟨by decide⟩ _ (kD.out _ ah) (aa (fun k h => absurd h (by simp))) (aa (fun k h => absurd h (by simp)))) fun w1 ax zc => ?_
 go_wp2_with fail
 refine (jw s true hrs _).mono ?_
 rintro e9 w9 ⟨rfl, vI⟩
 rw [vI]
 clear vI
 go_wp2_with fail
 clear zc
 refine eH kC ax (f_ none 0 0 0 none 0 0 true (aa rfl) _) fun w2 aK zc => ?_
 go_wp2_with fail
 clear zc
 refine eH kC aK (TC none 0 none 0 0 _) fun w3 aN zc => ?_
 go_wp2_with fail
 refine (JG none 0 0 [] 0 none 0 0 [] (aa rfl) (aa rfl) (by omega) (by omega) _ (aa (sl0 _ _)) (aa (sl0 _ _))).mono ?_
 rintro e w4 ⟨A, ca, Z, cz, rfl, _, _, hb0⟩
 have dQ := bF aN hb0
 clear zc hb0
 have zc := kC.out _ dQ
 have f0 := Fj.out _ dQ 0
 have f1 := Fj.out _ dQ 1
 have f2 := Fj.out _ dQ 2
 have f3 := Fj.out _ dQ 3
 have f4 := Fj.out _ dQ 4
 go_upto_region 10 with (fail)
 clear zc
 obtain ⟨wm, wh, xH, xG, Ap, Dj, Di, -⟩ := kC.out _ dQ
 obtain ⟨wz, hwz⟩ : ∃ x, (((w4.setCell ⟨w.heap.size + 1, 2, none⟩ (.slice A 0 ca)).setCell ⟨w.heap.size + 1, 3, none⟩ (.int .i64 0)).setCell ⟨w.heap.size + 1, 4, none⟩ (.slice Z 0 cz)) = x := ⟨_, rfl⟩
 have HE : Hid (wz.cell? ⟨w.heap.size + 1, 0, none⟩ = some (.int .i64 1) ∧ wz.cell? ⟨w.heap.size + 1, 1, none⟩ = some (.int .i64 1) ∧ wz.cell? ⟨w.heap.size + 1, 2, none⟩ = some (.slice A 0 ca) ∧ wz.cell? ⟨w.heap.size + 1, 3, none⟩ = some (.int .i64 0) ∧ wz.cell? ⟨w.heap.size + 1, 4, none⟩ = some (.slice Z 0 cz)) := aa (by
  rw [← hwz]
  exact ⟨(ak (ak (ak ⟨xH, f0⟩ (by simp)) (by simp)) (by simp)).1, (ak (ak (ak ⟨xG, f1⟩ (by simp)) (by simp)) (by simp)).1, (ak (ak (bu ⟨Ap, f2⟩) (by simp)) (by simp)).1, (ak (bu (ak ⟨Dj, f3⟩ (by simp))) (by simp)).1, (bu (ak (ak ⟨Di, f4⟩ (by simp)) (by simp))).1⟩)
 have HT : Hid (wz.cell? ⟨w.heap.size, 0, none⟩ = some (.slice none 0 0) ∧ wz.cell? ⟨w.heap.size, 1, none⟩ = some (.slice none 0 0)) := aa (by
  rw [← hwz]
  exact ⟨by rw [World.cell?_setCell_other _ _ _ _ (by simp), World.cell?_setCell_other _ _ _ _ (by simp), World.cell?_setCell_other _ _ _ _ (by simp)]; exact wm, by rw [World.cell?_setCell_other _ _ _ _ (by simp), World.cell?_setCell_other _ _ _ _ (by simp), World.cell?_setCell_other _ _ _ _ (by simp)]; exact wh⟩)
 have R7 : Hid (Below w.heap.size w wz) := aa (by rw [← hwz]; exact (((ag aj.out dQ.out).setCell (by simp) _).setCell (by simp) _).setCell (by simp) _)
 have HRz : Hid (wz.heap[w.heap.size + 2]? = some (.cells #[.slice none 0 0, .slice none 0 0] 52)) := aa (by rw [← hwz]; exact (Go.Deep.blk_setCell_other _ _ _ _ (show w.heap.size + 2 ≠ w.heap.size + 1 by omega)).trans ((Go.Deep.blk_setCell_other _ _ _ _ (show w.heap.size + 2 ≠ w.heap.size + 1 by omega)).trans ((Go.Deep.blk_setCell_other _ _ _ _ (show w.heap.size + 2 ≠ w.heap.size + 1 by omega)).trans (nT.out _ dQ).out)))
 have HSz : Hid (w.heap.size + 3 ≤ wz.heap.size) := aa (by rw [← hwz, World.size_setCell, World.size_setCell, World.size_setCell]; have := (dQ).out.size; have := jO.out; omega)
 rw [hwz]
 clear hwz f0 f1 f2 f3 f4
 clear wm wh xH xG Ap Dj Di
 clear kC Fj kD
 have kC := aa (show ∀ u : World, Hid (Below wz.heap.size wz u) → u.cell? ⟨w.heap.size, 0, none⟩ = some (.slice none 0 0) ∧ u.cell? ⟨w.heap.size, 1, none⟩ = some (.slice none 0 0) from fun u h => ⟨cell_below HT.out.1 h.out, cell_below HT.out.2 h.out⟩)
 have acL : Hid (Below wz.heap.size wz wz) := aa (Below.refl _ _)
 have hO := kC
 have nQ := bF (aa acL.out) (Below.refl _ _).drew
 refine wU (fun u => Below wz.heap.size wz u) [7] nQ (fun hHeld => ?_)
 obtain ⟨wD, nK⟩ : ∃ u, wz.drew = u := ⟨_, rfl⟩
 rw [nK] at nQ hHeld ⊢
 have zX : Hid (wz.heap.size ≤ wD.heap.size) := aa (by rw [← nK]; exact Nat.le_refl _)
 clear nK
 refine aU 0 2 3 4 ?_
 refine Zn fun a0 ha0 => ?_
 clear hHeld
 refine O3 [1, 5, 6] [[], [], [0, 1]] [[2], [2], []] 1 #[true, true, true, true, true, true, true, false] (fun bs a u => ∃ (yE ym sG : Bool) (gT : Nat), bs = [yE, ym, sG] ∧ a = ((a0.put (some 42) (cond yE (gI none 0 0 none 0 0) undef)).put (some 9) (cond ym (.pointer (some ⟨gT, 0, none⟩)) undef)) ∧ Hid (Below wz.heap.size wz u) ∧ (ym = true → Hid (u.heap[gT]? = some (.cells #[.slice none 0 0, .slice none 0 0] 52))) ∧ (ym = true → Hid (wz.heap.size ≤ gT))) ⟨false, false, false, 0, rfl, by rw [ha0]; simp only [qq], nQ, nofun, nofun⟩ ?_ ⟨?_, ?_, ?_, trivial⟩
 ·
  rintro bs a u hbs ⟨yE, ym, sG, gT, rfl, rfl, FB, mE, fu⟩
  obtain ⟨rfl, rfl, rfl⟩ : yE = true ∧ ym = true ∧ sG = true := by simpa using hbs
  have FT := mE rfl
  have R9 := fu rfl
  clear mE fu
  have hHeld := FB
  have hT := trivial
  rw [ha0]
  simp only [qq]
  have aec := FB
  refine mR 7 fun K hK => ?_
  go_simp
  refine hK.out _ _ ?_
  clear hK K
  try simp only [qq]
  refine gH ?_
  clear hHeld hT ha0
  obtain ⟨wq, hwq⟩ : ∃ x, u = x := ⟨_, rfl⟩
  have QN : Hid (wq.heap[gT]? = some (.cells #[.slice none 0 0, .slice none 0 0] 52)) := aa (by rw [← hwq]; exact FT.out)
  have I9 : Hid (Below wz.heap.size wz wq) := aa (by rw [← hwq]; exact FB.out)
  rw [hwq]
  clear hwq FT
  have HE5 : Hid (wq.cell? ⟨w.heap.size + 1, 0, none⟩ = some (.int .i64 1) ∧ wq.cell? ⟨w.heap.size + 1, 1, none⟩ = some (.int .i64 1) ∧ wq.cell? ⟨w.heap.size + 1, 2, none⟩ = some (.slice A 0 ca) ∧ wq.cell? ⟨w.heap.size + 1, 3, none⟩ = some (.int .i64 0) ∧ wq.cell? ⟨w.heap.size + 1, 4, none⟩ = some (.slice Z 0 cz)) := aa ⟨cell_below HE.out.1 I9.out, cell_below HE.out.2.1 I9.out, cell_below HE.out.2.2.1 I9.out, cell_below HE.out.2.2.2.1 I9.out, cell_below HE.out.2.2.2.2 I9.out⟩
  obtain ⟨e0, e1, e2, e3, e4⟩ := HE5.out
  have t0 := au QN.out 0
  have t1 := au QN.out 1
  have y0 := av QN.out 0
  have hown : (wq.alloc (.cells #[.int .i64 0, .string s, .int .i64 1, .int .i64 1, .slice A 0 ca, .int .i64 0, .slice Z 0 cz, .slice none 0 0, .int .i64 0] 104)).ownsRow wq.heap.size 104 9 (.slice none 0 0) 0 [] := World.ownsRow_nil _ _ _ _
  have b5 : 0 + 1 ≤ maxLen := by unfold maxLen; omega
  have HTa := aa (af wq (.cells #[.int .i64 0, .string s, .int .i64 1, .int .i64 1, .slice A 0 ca, .int .i64 0, .slice Z 0 cz, .slice none 0 0, .int .i64 0] 104))
  have Xh : (Value.slice none 0 0).ownBlock ≠ some gT := fun e => by cases e
  go_upto_region 12 with (at_builtin; refine wpList_append_lies rfl _ _ 49 rfl wq.heap.size 104 i1 (.agg #[.int .i64 0, .string ⟨#[]⟩, .int .i64 0, .int .i64 0, .slice none 0 0, .int .i64 0, .slice none 0 0, .slice none 0 0, .int .i64 0]) 9 128 Tryz.underlying49 hi1 hy0 hy1 hy2 (by rfl) (by decide) _ _ _ rfl hown ⟨wq.heap.size, 0, none⟩ 1 1 [.int .i64 0, .string s, .int .i64 1, .int .i64 1, .slice A 0 ca, .int .i64 0, .slice Z 0 cz, .slice none 0 0, .int .i64 0] rfl rfl (World.news_of_block (cs := #[.int .i64 0, .string s, .int .i64 1, .int .i64 1, .slice A 0 ca, .int .i64 0, .slice Z 0 cz, .slice none 0 0, .int .i64 0]) (t := 104) (fr := (0, 0)) (heap_alloc_new wq _)) (by simp [Value.oneCell']) (by decide) b5 (by decide) (by simp) _ rfl ?_; intro gg cap w8 tX jA Qb Gq; obtain ⟨p1, p2⟩ := aO (w := wq.alloc (.cells #[.int .i64 0, .string s, .int .i64 1, .int .i64 1, .slice A 0 ca, .int .i64 0, .slice Z 0 cz, .slice none 0 0, .int .i64 0] 104)) ((show Own wq ⟨gT, 0, none⟩ (.slice none 0 0) from ⟨t0, y0⟩).below HTa.out) jA Xh; obtain ⟨p3, p4⟩ := aO (w := wq.alloc (.cells #[.int .i64 0, .string s, .int .i64 1, .int .i64 1, .slice A 0 ca, .int .i64 0, .slice Z 0 cz, .slice none 0 0, .int .i64 0] 104)) ((show Own wq ⟨gT, 1, none⟩ (.slice none 0 0) from ⟨t1, av QN.out 1⟩).below HTa.out) jA Xh)
  have mD : w8.ownsRow wq.heap.size 104 9 (.slice (some ⟨gg, 0, none⟩) 1 cap) 1 ([(⟨0, s, 1, 1, A, 0, ca, [], 0, Z, 0, cz, [], none, 0, 0, [], 0⟩ : az)].flatMap lQ) := by simpa using tX
  have qP : Hid (Below wq.heap.size wq w8) := aa (((Below.refl wq.heap.size wq).alloc (Nat.le_refl _) (.cells #[.int .i64 0, .string s, .int .i64 1, .int .i64 1, .slice A 0 ca, .int .i64 0, .slice Z 0 cz, .slice none 0 0, .int .i64 0] 104)).grown jA (by simp) (fun j hj => by cases hj))
  have hgq : wq.heap.size ≤ gg := (World.ownsRow.lt mD gg rfl).1
  have hgT : gT < wq.heap.size := Cz QN.out
  obtain ⟨w9, vI⟩ : ∃ x, w8.setCell ⟨gT, 0, none⟩ (.slice (some ⟨gg, 0, none⟩) 1 cap) = x := ⟨_, rfl⟩
  have T0 : Own w9 ⟨gT, 0, none⟩ (.slice (some ⟨gg, 0, none⟩) 1 cap) := by rw [← vI]; exact bu ⟨p1, p2⟩
  have T1 : Own w9 ⟨gT, 1, none⟩ (.slice none 0 0) := by rw [← vI]; exact ak ⟨p3, p4⟩ (by simp)
  have VS : Hid (w9.ownsRow wq.heap.size 104 9 (.slice (some ⟨gg, 0, none⟩) 1 cap) 1 ([(⟨0, s, 1, 1, A, 0, ca, [], 0, Z, 0, cz, [], none, 0, 0, [], 0⟩ : az)].flatMap lQ)) := aa (by rw [← vI]; exact World.ownsRow.kept mD (iQ _ _ _ _) (Or.inr (Io (by omega))))
  have Al : Hid (Below wz.heap.size wz w9) := aa (by rw [← vI]; exact (ag I9.out qP.out).setCell R9.out _)
  have HR9 : Hid (w9.heap[w.heap.size + 2]? = some (.cells #[.slice none 0 0, .slice none 0 0] 52)) := aa (bG HRz.out Al.out)
  rw [vI]
  clear vI hown tX mD jA Qb Gq p1 p2 p3 p4 e0 e1 e2 e3 e4 t0 t1 y0 b5 hgq hgT
  obtain ⟨t0, y0⟩ := T0
  obtain ⟨t1, y1⟩ := T1
  go_wp2_with ((with_reducible show wpList _ _ _ (⟨none, _, _, _, _, _⟩ :: _) _ _); refine wpList_store_row rfl 52 _ _ rfl (w.heap.size + 2) #[.slice (some ⟨gg, 0, none⟩) 1 cap, .slice none 0 0] rfl rfl _ _ HR9.out (by kernel_rfl) rfl (by simp [Value.oneCell']) ?_)
  have hrw := setRow_heap _ _ _ #[.slice (some ⟨gg, 0, none⟩) 1 cap, .slice none 0 0] _ _ HR9.out
  have bV := ai (ag R7.out Al.out) (cs := #[.slice (some ⟨gg, 0, none⟩) 1 cap, .slice none 0 0]) (Nat.le_add_right w.heap.size 2)
  have YL := World.ownsRow.kept VS.out (gV w9 (w.heap.size + 2) #[.slice (some ⟨gg, 0, none⟩) 1 cap, .slice none 0 0]) (Or.inr (Io (by have := (World.ownsRow.lt VS.out gg rfl).1; have := I9.out.size; have := HSz.out; omega)))
  obtain ⟨g5, cap5, e5, _, _, _, _, CB⟩ := mV lQ 9 dI YL rfl (fun _ _ => rfl) (by decide)
  cases e5
  refine bodyPost_ret (v := .tuple #[gI (some ⟨gg, 0, none⟩) 1 cap none 0 0, .int .i64 0, .int .i64 0]) (iB (p := 6) (q := 7) (r := 8) (ty := 52) rfl _ _ ⟨w.heap.size + 2, 0, none⟩ _ _ _ rfl rfl rfl (run_loadVar_row _ _ _ _ _ _ _ hrw Tryz.underlying52 rfl (by kernel_rfl))) rfl ⟨gg, cap, A, ca, Z, cz, rfl, fun k hk => ?_, bV⟩
  obtain rfl : k = 0 := by simpa using hk
  refine ⟨gg, 0, rfl, ⟨?_, ?_, ?_, ?_, ?_, ?_, ?_, ?_, ?_⟩, rfl, rfl, ⟨rfl, Nat.le_refl _⟩, sl0 _ _, sl0 _ _, fun j hj => absurd hj (by simp)⟩
  all_goals simp only [Nat.zero_mul, Nat.add_zero, Nat.zero_add]
  · have h9 := CB 0 (by decide) 0 (by decide); simpa using h9
  · have h9 := CB 0 (by decide) 1 (by decide); simpa using h9
  · have h9 := CB 0 (by decide) 2 (by decide); simpa using h9
  · have h9 := CB 0 (by decide) 3 (by decide); simpa using h9
  · have h9 := CB 0 (by decide) 4 (by decide); simpa using h9
  · have h9 := CB 0 (by decide) 5 (by decide); simpa using h9
  · have h9 := CB 0 (by decide) 6 (by decide); simpa using h9
  · have h9 := CB 0 (by decide) 7 (by decide); simpa using h9
  · have h9 := CB 0 (by decide) 8 (by decide); simpa using h9
 ·
  rintro bs a u ⟨yE, ym, sG, gT, rfl, rfl, FB, mE, fu⟩ hr
  simp [jv, and_assoc] at hr
  obtain ⟨rfl, rfl⟩ := hr
  refine ⟨_, rfl, fun K hK => ?_⟩
  rw [ha0]
  simp only [qq]
  go_simp
  refine (Nv _).mono ?_
  rintro e wB ⟨rfl, hq⟩
  have aS := bF FB hq
  refine hK.out _ _ aS ⟨true, ym, false, gT, rfl, ?_, aS, fun e => aa (bG (mE e).out hq), fun e => (fu e)⟩
  rw [ha0]
  simp only [qq]
  try rfl
 ·
  rintro bs a u ⟨yE, ym, sG, gT, rfl, rfl, FB, mE, fu⟩ hr
  simp [jv, and_assoc] at hr
  obtain ⟨rfl, rfl⟩ := hr
  refine ⟨_, rfl, fun K hK => ?_⟩
  rw [ha0]
  simp only [qq]
  go_simp
  have aS := bF FB (af u (.cells #[.slice none 0 0, .slice none 0 0] 52))
  refine hK.out _ _ aS ⟨yE, true, false, u.heap.size, rfl, ?_, aS, fun _ => (aa (heap_alloc_new u _)), fun _ => (aa FB.out.size)⟩
  rw [ha0]
  simp only [qq]
  try rfl
 ·
  rintro bs a u ⟨yE, ym, sG, gT, rfl, rfl, FB, mE, fu⟩ hr
  simp [jv, and_assoc] at hr
  obtain ⟨rfl, rfl, rfl⟩ := hr
  have FT := mE rfl
  have R9 := fu rfl
  refine ⟨_, rfl, fun K hK => ?_⟩
  rw [ha0]
  simp only [qq]
  rw [show (if Region.wanted _ _ = true then _ else _ : Prop) = _ from if_pos rfl]
  refine wp_store_row 52 _ _ rfl gT #[.slice none 0 0, .slice none 0 0] rfl rfl 52 _ FT.out (by kernel_rfl) rfl (by simp [Value.oneCell']) ?_
  have aS : Hid (Below wz.heap.size wz (u.setRow gT #[.slice none 0 0, .slice none 0 0])) := aa (ai FB.out R9.out)
  refine hK.out _ _ aS ⟨true, true, true, gT, rfl, ?_, aS, fun _ => (aa (setRow_heap _ _ _ _ _ _ FT.out)), fun _ => R9⟩
  rw [ha0]
  simp only [qq]
  try rfl
theorem xX {ops : Array Oper} {rest : List Oper} {o : Oper} {a : Act} {w : World} {Q : Exit → Act → World → Prop} (hw : Region.wanted o (yielded ops a.tmps) = true) (x y : Operand) (t : TypeId) (ho : o.op = .binOp .eql 41 x y t)
  (h h' : List Int) (hl : h.length = 32) (hl' : h'.length = 32) (hx : a.eval x = .agg (arr .u8 h)) (hy : a.eval y = .agg (arr .u8 h')) (r : Bool) (hr : (h == h') = r)
  (hK : wpList Tryz.prog ops Q rest (a.put o.dst (.bool r)) w) : wpList Tryz.prog ops Q (o :: rest) a w :=
 wpList_step fun K hK' => by
  rw [if_pos hw]
  unfold Oper.wp execOp
  simp only [ho, hx, hy, Sem.run_bind, run_eqGuard_agg (P := Tryz.prog) w .eql 41 x y _ _ Ee, run_eql_struct, o_ (P := Tryz.prog) w 9998 41 5 32 (by kernel_rfl) (by kernel_rfl) Rh h h' hl hl', hr, Result.andThen_ok]
  exact hK' _ _ hK
theorem vS (w : World) (hv : Hid (bz w)) :
  Calls Tryz.prog 21 #[] w (Rt w (.bool true)) := by
 obtain ⟨w0, hW⟩ : ∃ W, w = W := ⟨_, rfl⟩
 have aj : Hid (Below w.heap.size w w0) := aa (by rw [← hW]; exact Below.refl _ _)
 have kC := aa (show ∀ u : World, Hid (Below w0.heap.size w0 u) → True from fun _ _ => trivial)
 have kD := aa (show ∀ u : World, Hid (Below w0.heap.size w0 u) → Hid (bz u) from fun u h => aa ((hv.out.below) (ag aj.out h.out)))
 have ah : Hid (Below w0.heap.size w0 w0) := aa (Below.refl _ _)
 have HW := aa hW
 clear hW hv
 go_in
 go_wp2_with fail
 rw [HW.out]
 have zc := kC.out _ ah
 go_wp2_with fail
 clear zc
 refine KE ah (PN _) fun w1 ax => ?_
 have zc := kC.out _ ax
 go_wp2_with fail
 refine (TA ⟨#[119, 104, 121]⟩ (aa rfl) _ (kD.out _ ax)).mono ?_
 rintro e w2 ⟨g, cap, A, ca, Z, cz, rfl, hos, hb0⟩
 have HOS := aa hos
 clear hos
 have aK := bF ax hb0
 clear zc hb0
 have zc := kC.out _ aK
 have bB := bP w2
 have kO := qO (w := w2) (fun u => Os u (some ⟨g, 0, none⟩) [(⟨0, ⟨#[119, 104, 121]⟩, 1, 1, A, 0, ca, [], 0, Z, 0, cz, [], none, 0, 0, [], 0⟩ : az)]) HOS.out (·.below)
 have hI : ∀ k, k < 0 + 1 → dJ (bL [(⟨0, ⟨#[119, 104, 121]⟩, 1, 1, A, 0, ca, [], 0, Z, 0, cz, [], none, 0, 0, [], 0⟩ : az)] k) := fun k hk => by
  obtain rfl : k = 0 := by omega
  show i64 0 ∧ i64 1 ∧ i64 1 ∧ i64 0 ∧ i64 0 ∧ (∀ x ∈ ([] : List Int), i64 x) ∧ (∀ x ∈ ([] : List Int), i64 x) ∧ ∀ p ∈ ([] : List aV), ug p
  exact ⟨⟨by decide, by decide⟩, ⟨by decide, by decide⟩, ⟨by decide, by decide⟩, ⟨by decide, by decide⟩, ⟨by decide, by decide⟩, fun x hx => absurd hx (by simp), fun x hx => absurd hx (by simp), fun x hx => absurd hx (by simp)⟩
 have HI := aa hI
 have HTR : Kp (fP [(⟨0, ⟨#[119, 104, 121]⟩, 1, 1, A, 0, ca, [], 0, Z, 0, cz, [], none, 0, 0, [], 0⟩ : az)] [] = true) := ⟨by rfl⟩
 have HON : Hid (PK [(⟨0, ⟨#[119, 104, 121]⟩, 1, 1, A, 0, ca, [], 0, Z, 0, cz, [], none, 0, 0, [], 0⟩ : az)] (0 + 1) = true) := aa (by rfl)
 clear hI
 obtain ⟨w3, hw, R3, YD, -, kT⟩ := qZ (jh (some ⟨g, 0, none⟩) 1 cap none 0 0) qA w2
 have aN := jY aK R3
 have gG := jY bB R3
 have mP := bP w3
 clear R3
 clear zc
 have I7 := aa hw
 clear hw
 have zc := kC.out _ aN
 have Dh := kT.out _ mP
 try rw [← I7.out] at zc
 try rw [← I7.out] at Dh
 go_wp2_with fail
 rw [I7.out]
 clear zc Dh
 have zc := kC.out _ aN
 have Dh := kT.out _ mP
 go_wp2_with fail
 clear zc Dh
 refine Nw aN gG mP (TB (some ⟨g, 0, none⟩) [(⟨0, ⟨#[119, 104, 121]⟩, 1, 1, A, 0, ca, [], 0, Z, 0, cz, [], none, 0, 0, [], 0⟩ : az)] 0 cap none [] 0 0 (aa rfl) (aa rfl) HI.out (by omega) (by omega) 0 0 none 0 0 0 none 0 0 ⟨#[119, 104, 121]⟩ (aa rfl) (aa rfl) HTR HON _ (kD.out _ aN) (kO.out _ gG) (aa (fun k h => absurd h (by simp)))) fun w4 dQ mQ Ja => ?_
 have zc := kC.out _ dQ
 have Dh := kT.out _ Ja
 obtain ⟨w5, hw, wE, Kk, -, Zu⟩ := qZ (jh none 0 0 none 0 0) qA w4
 have dK := jY dQ wE
 have Jc := jY mQ wE
 have Dg := jY Ja wE
 have fB := bP w5
 clear wE
 clear zc Dh
 have I7 := aa hw
 clear hw
 have zc := kC.out _ dK
 have Dh := kT.out _ Dg
 have Fy := Zu.out _ fB
 try rw [← I7.out] at zc
 try rw [← I7.out] at Dh
 try rw [← I7.out] at Fy
 go_wp2_with fail
 rw [I7.out]
 clear zc Dh Fy
 have zc := kC.out _ dK
 have Dh := kT.out _ Dg
 have Fy := Zu.out _ fB
 go_wp2_with fail
 refine (jg (some ⟨g, 0, none⟩) [(⟨0, ⟨#[119, 104, 121]⟩, 1, 1, A, 0, ca, [], 0, Z, 0, cz, [], none, 0, 0, [], 0⟩ : az)] 1 cap none [] 0 0 (aa rfl) (aa rfl) HI.out (by omega) (by omega) true HTR _ (kD.out _ dK) (kO.out _ Jc) (aa (fun k h => absurd h (by simp)))).mono ?_
 rintro e w6 ⟨rfl, hb0⟩
 have uM := bF dK hb0
 have Jb := bF Jc hb0
 have I_ := bF Dg hb0
 have iF := bF fB hb0
 clear zc Dh Fy hb0
 have zc := kC.out _ uM
 have Dh := kT.out _ I_
 have Fy := Zu.out _ iF
 go_wp2_with fail
 refine (Nr (some ⟨g, 0, none⟩) [(⟨0, ⟨#[119, 104, 121]⟩, 1, 1, A, 0, ca, [], 0, Z, 0, cz, [], none, 0, 0, [], 0⟩ : az)] 1 cap none 0 (aa rfl) HI.out (by omega) HTR _ (kD.out _ uM) (kO.out _ Jb) (aa (fun k h => absurd h (by simp)))).mono ?_
 rintro e w7 ⟨rfl, hb0⟩
 have vW := bF uM hb0
 have Z0 := bF Jb hb0
 have Q9 := bF I_ hb0
 have jc := bF iF hb0
 clear zc Dh Fy hb0
 have zc := kC.out _ vW
 have Dh := kT.out _ Q9
 have Fy := Zu.out _ jc
 have bV := ag aj.out vW.out
 go_wp2_with ((with_reducible show wpList _ _ _ (⟨some 51, _, _, _, _, _⟩ :: _) _ _); refine xX (by rfl) _ _ _ rfl (dz 32) (dz 32) (by simp [dz]) (by simp [dz]) rfl rfl true (by simp) ?_)
 go_ret
 exact ⟨rfl, bV⟩
theorem JF (O : Option Addr) (n c : Nat) (K : Option Addr) (m d : Nat) (w : World) : Calls Tryz.prog 91 #[gI O n c K m d, .int .i64 0] w (Rt w (.agg (arr .u8 (dz 32)))) := by
 obtain ⟨W, hW⟩ : ∃ W, (w.alloc (jh O n c K m d)).alloc (.cells z32 41) = W := ⟨_, rfl⟩
 have bT : Hid (Below w.heap.size w W) := aa (by rw [← hW]; exact aJ (Below.refl _ _))
 have eG : Hid (bH .u8 41 W (w.heap.size + 1) (dz 32)) := aa (by rw [← hW, jd]; exact heap_alloc2_new _ _ _)
 have HW := aa hW
 clear hW
 go_in
 go_upto_region 1 with (fail)
 rw [HW.out]
 go_wp2_with ((with_reducible show wpList _ _ _ (⟨none, _, _, _, _, _⟩ :: _) _ _); refine wpList_store_row rfl 41 _ _ rfl (w.heap.size + 1) (arr .u8 (dz 32)) rfl rfl _ _ eG.out (ay (by simp [dz])) rfl (dh _) ?_)
 have hrw := eG.out.setRow (l' := (dz 32))
 exact bodyPost_ret (v := .agg (arr .u8 (dz 32))) (aD (p := 4) (ty := 41) rfl _ _ ⟨w.heap.size + 1, 0, none⟩ _ rfl (run_loadVar_row _ _ _ _ _ _ _ hrw Tryz.underlying41 rfl (ay (by simp [dz])))) rfl ⟨rfl, ai bT.out (Nat.le_succ _)⟩
theorem JE (O : Option Addr) (n c : Nat) (K : Option Addr) (hs : List (List Int)) (m d k : Nat) (hm : Hid (hs.length = m)) (hk : k < m) (hb2 : m ≤ 1000000) (w : World) (hK : Hid (Hs w K hs)) : Calls Tryz.prog 91 #[gI O n c K m d, .int .i64 ((k : Int) + 1)] w (Rt w (.agg (arr .u8 (hsL hs k)))) := by
 have d0 : decide ((k : Int) + 1 = 0) = false := by simp; omega
 have dw : IntKind.i64.wrap ((k : Int) + 1 - 1) = (k : Int) := by rw [show (k : Int) + 1 - 1 = (k : Int) by omega]; exact IntWalk.i64_in _ (by omega)
 have XN : wrap64 ((k : Int) + 1 - 1) = (k : Int) := by rw [show (k : Int) + 1 - 1 = (k : Int) by omega]; exact IntWalk.wrap64_in _ (by omega)
 obtain ⟨W, hW⟩ : ∃ W, (w.alloc (jh O n c K m d)).alloc (.cells z32 41) = W := ⟨_, rfl⟩
 have bT : Hid (Below w.heap.size w W) := aa (by rw [← hW]; exact aJ (Below.refl _ _))
 have eG : Hid (bH .u8 41 W (w.heap.size + 1) (dz 32)) := aa (by rw [← hW, jd]; exact heap_alloc2_new _ _ _)
 have hc : W.cell? ⟨w.heap.size, 0, none⟩ = some (.slice O n c) ∧ W.cell? ⟨w.heap.size, 1, none⟩ = some (.slice K m d) := by rw [← hW]; exact ⟨cell_below (cu (by simp) (by rfl)) (af _ _), cell_below (cu (by simp) (by rfl)) (af _ _)⟩
 obtain ⟨wm, wh⟩ := hc
 obtain ⟨b, o, rfl, hl, hrg0⟩ := hK.out k (by rw [hm.out]; exact hk)
 have hrg := aa (eD hrg0 bT.out)
 obtain ⟨h, hh⟩ : ∃ h, hsL hs k = h := ⟨_, rfl⟩
 rw [hh] at hrg hl
 rw [hh]
 clear hrg0 hK hm hh
 have HW := aa hW
 clear hW
 go_in
 go_upto_region 1 with (fail)
 rw [HW.out]
 go_wp2_with (first | (with_reducible show wpList _ _ _ (⟨_, .load 41 _, _, _, _, _⟩ :: _) _ _; refine wpList_load_mid rfl _ _ rfl b (o + k * 32) rfl (h.map (Value.int .u8)) _ hrg.out Tryz.underlying41 rfl (lS hl) ?_) | ((with_reducible show wpList _ _ _ (⟨none, _, _, _, _, _⟩ :: _) _ _); refine wpList_store_row rfl 41 _ _ rfl (w.heap.size + 1) (arr .u8 h) rfl rfl _ _ eG.out (ay hl) (eB (by simp [dz]) hl) (dh _) ?_))
 have hrw := eG.out.setRow (l' := h)
 exact bodyPost_ret (v := .agg (arr .u8 h)) (aD (p := 4) (ty := 41) rfl _ _ ⟨w.heap.size + 1, 0, none⟩ _ rfl (run_loadVar_row _ _ _ _ _ _ _ hrw Tryz.underlying41 rfl (ay hl))) rfl ⟨rfl, ai bT.out (Nat.le_succ _)⟩
structure oG {α : Type _} (f : α → List Value) (s : Nat) (d : α) (w : World) (g : Nat) (l : List α) (tot : Nat) : Prop where
 at_ : ∀ k, k < l.length → w.rangeAt g (k * s) (f (l.getD k d))
 there : w.there g 0 (tot * s)
 le : l.length ≤ tot
theorem uW {α : Type _} (f : α → List Value) (s : Nat) (d : α) {w : World} {base n : Nat} {T : TypeId} {v : Value} {l : List α} (h : w.ownsRow base T s v n (l.flatMap f)) (hn : l.length = n) (hl : ∀ x ∈ l, (f x).length = s) (h0 : 0 < n) :
  ∃ g cap, v = .slice (some ⟨g, 0, none⟩) n cap ∧ base ≤ g ∧ g < w.heap.size ∧ (n ≤ cap ∧ cap ≤ 9223372036854775807) ∧ oG f s d w g l n := by
 have hmx : ∀ g cap, v = .slice (some ⟨g, 0, none⟩) n cap → cap ≤ 9223372036854775807 := fun g cap e => by
  rcases h.2 with ⟨h1, _⟩ | ⟨g2, cap2, cur, h1, _, _, _, h2, _⟩
  · rw [h1] at e; cases e
  · rw [h1] at e; cases e; simpa [maxLen] using h2
 obtain ⟨g, cap, e, hg, hgs, hc, hf, hcs⟩ := mV f s d h hn hl h0
 have hlen : ∀ k, k < n → (f (l.getD k d)).length = s := fun k hk => by
  rw [List.getD_eq_getElem?_getD, List.getElem?_eq_getElem (by omega)]
  exact hl _ (List.getElem_mem _)
 refine ⟨g, cap, e, hg, hgs, ⟨hc, hmx g cap e⟩, ⟨fun k hk j v hj => ?_, fun j hj => ⟨?_, by rw [Nat.zero_add]; exact hf j⟩, by omega⟩⟩
 ·
  have hj2 : j < s := by rw [← hlen k (by omega)]; exact (List.getElem?_eq_some_iff.1 hj).1
  rw [hcs k (by omega) j hj2]; exact hj
 ·
  have hs0 : 0 < s := by
   rcases Nat.eq_zero_or_pos s with e0 | e0
   · subst e0; simp at hj
   · exact e0
  have hk : j / s < n := (Nat.div_lt_iff_lt_mul hs0).2 hj
  have hr : j % s < s := Nat.mod_lt _ hs0
  have e1 : j = j / s * s + j % s := by rw [Nat.mul_comm]; exact (Nat.div_add_mod j s).symm
  rw [Nat.zero_add, e1, hcs _ hk _ hr, List.getElem?_eq_getElem (by rw [hlen _ hk]; exact hr)]
  rfl
theorem oG.agree {α : Type _} {f : α → List Value} {s : Nat} {d : α} {w w' : World} {g tot : Nat} {l : List α} (h : oG f s d w g l tot) (e : w'.heap[g]? = w.heap[g]?) : oG f s d w' g l tot :=
 ⟨fun k hk j v hj => (kF e).trans (h.at_ k hk j v hj), fun j hj => ⟨by rw [kF e]; exact (h.there j hj).1, by have := (h.there j hj).2; simp only [World.frozen?, e] at this ⊢; exact this⟩, h.le⟩
theorem EC {α : Type _} {l : List α} {i k : Nat} {x d : α} (hi : i < l.length) : (l.set i x).getD k d = if k = i then x else l.getD k d := by
 rw [List.getD_eq_getElem?_getD, List.getElem?_set]
 by_cases e : k = i
 · subst e; simp [hi]
 · rw [if_neg (fun h => e h.symm), if_neg e, List.getD_eq_getElem?_getD]
theorem Jt {k i s : Nat} (h : k ≠ i) : k * s + s ≤ i * s ∨ i * s + s ≤ k * s := by
 rcases Nat.lt_or_gt_of_ne h with h | h
 · left; have := Nat.mul_le_mul_right s h; rw [Nat.succ_mul] at this; exact this
 · right; have := Nat.mul_le_mul_right s h; rw [Nat.succ_mul] at this; exact this
theorem oG.setCell {α : Type _} {f : α → List Value} {s : Nat} {d : α} {w : World} {g tot : Nat} {l : List α} (h : oG f s d w g l tot) (hl : ∀ x ∈ l, (f x).length = s) {i r : Nat} {x : α} {v : Value} (hi : i < l.length) (hr : r < s)
  (hx : f x = (f (l.getD i d)).set r v) : oG f s d (w.setCell ⟨g, i * s + r, none⟩ v) g (l.set i x) tot := by
 have hlen : ∀ k, k < l.length → (f (l.getD k d)).length = s := fun k hk => by
  rw [List.getD_eq_getElem?_getD, List.getElem?_eq_getElem hk]
  exact hl _ (List.getElem_mem _)
 refine ⟨fun k hk j u hj => ?_, fun j hj => ⟨?_, by rw [World.frozen?_setCell]; exact (h.there j hj).2⟩, by rw [List.length_set]; exact h.le⟩
 ·
  rw [List.length_set] at hk
  rw [EC hi] at hj
  by_cases e : k = i
  ·
   subst e
   rw [if_pos rfl, hx] at hj
   by_cases e2 : j = r
   ·
    subst e2
    rw [List.getElem?_set_self (by rw [hlen k hk]; exact hr)] at hj
    cases hj
    have h0 := h.at_ k hk j _ (List.getElem?_eq_getElem (by rw [hlen k hk]; exact hr))
    exact World.cell?_setCell_same _ _ _ h0
   ·
    rw [List.getElem?_set_ne (fun h => e2 h.symm)] at hj
    rw [World.cell?_setCell_other _ _ _ _ (fun e3 => by simp at e3 <;> omega)]
    exact h.at_ k hk j u hj
  ·
   rw [if_neg e] at hj
   have hj2 : j < s := by rw [← hlen k hk]; exact (List.getElem?_eq_some_iff.1 hj).1
   rw [World.cell?_setCell_other _ _ _ _ (fun e3 => by
    have := Jt (s := s) e
    simp at e3 <;> omega)]
   exact h.at_ k hk j u hj
 ·
  obtain ⟨u, hu⟩ := Option.isSome_iff_exists.1 (h.there j hj).1
  by_cases e : (⟨g, 0 + j, none⟩ : Addr) = ⟨g, i * s + r, none⟩
  · rw [← e, World.cell?_setCell_same _ _ _ hu] <;> rfl
  · rw [World.cell?_setCell_other _ _ _ _ (fun e2 => e (by first | exact e2 | exact e2.symm)), hu]; rfl
end Go.Proofs.YtchcllcbknfikaaGreatDoor