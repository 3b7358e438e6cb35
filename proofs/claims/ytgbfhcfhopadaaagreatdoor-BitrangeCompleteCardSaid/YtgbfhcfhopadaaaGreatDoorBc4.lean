/- Contracts and lemmas: ChA, ChB, LinI, LinX, ChC, ChD, ChE, ChF, BrC, BrE, LcA, LcB, BrD, BrH, Lat, BrI. -/
import Derived.Deep.AppendLies
import Derived.Deep.QuietTactic
import Derived.BigQuiet
import Derived.Test.YtgbfhcfhopadaaaGreatDoorBc3
set_option linter.unusedVariables false
set_option linter.unusedSimpArgs false
set_option maxRecDepth 100000
set_option maxHeartbeats 25600000
namespace Go.Proofs.YtgbfhcfhopadaaaGreatDoor
open Go.RowKit ou
theorem Fs (c0 : Value) (p : Int → Bool) (A : Option Addr) (xs : List Int) (n c : Nat) (hn : Hid (xs.length = n)) (hbig : Hid (n < 1000000)) (w : World) (hs : Hid (Sl w A xs)) (hp : Hid (Says 96 #[c0] p w)) :
  Calls Tryz.prog 68 #[.slice A n c, .func (.func 96) #[] #[c0]] w (ng p xs w) := by
 have hn0 : n < 1000000 := hbig.out
 go_in
 go_wp2
 go_loopw [8] (fun i wr => ∃ k : Nat, k ≤ n ∧ i = .int .i64 k ∧ Hid (xs.any p = (xs.drop k).any p) ∧ Hid (Below w.heap.size w wr)) (fun i _ => n - (intOf i).toNat)
 case atStart => exact ⟨0, by omega, rfl, aa rfl, aa (Below.refl _ _)⟩
 case round =>
  obtain ⟨k, hk, rfl, HR, aG⟩ := hrel
  by_cases hlt : k < n
  ·
   have hkl : k < xs.length := by rw [hn.out]; exact hlt
   obtain ⟨b, o, hA, hi0⟩ := hs.out k hkl
   subst hA
   have hi := (aG.out.cell (World.block_lt_of_cell? _ _ hi0)).trans hi0
   cases hpx : p (xs.getD k 0) with
   | false =>
    have HN : Hid (xs.any p = (xs.drop (k + 1)).any p) := aa (HR.out.trans (bT hkl hpx))
    obtain ⟨x, hx⟩ : ∃ x, xs.getD k 0 = x := ⟨_, rfl⟩
    rw [hx] at hi hpx
    have HC := aa (hp.out x wr aG.out)
    have pY := aa hpx
    clear hi0 hx hkl hpx HR
    go_wp2_with fail
    refine HC.out.mono ?_
    rintro e w2 ⟨rfl, hb0⟩
    rw [pY.out]
    have HB2 := aa (ag aG.out hb0)
    clear hb0
    go_wp2
    go_roundw
    case rel => exact ⟨k + 1, by omega, by go_num, HN, HB2⟩
    case measure => simp [intOf]; omega
   | true =>
    have HN : Hid (decide ((0 : Int) ≤ (k : Int)) = xs.any p) := aa (by rw [HR.out, bL hkl hpx]; simp)
    obtain ⟨x, hx⟩ : ∃ x, xs.getD k 0 = x := ⟨_, rfl⟩
    rw [hx] at hi hpx
    have HC := aa (hp.out x wr aG.out)
    have pY := aa hpx
    clear hi0 hx hkl hpx HR
    go_wp2_with fail
    refine HC.out.mono ?_
    rintro e w2 ⟨rfl, hb0⟩
    rw [pY.out]
    have HB2 := aa (ag aG.out hb0)
    clear hb0
    go_wp2
    go_ret
    exact ⟨k, rfl, HN.out, HB2.out⟩
  ·
   obtain rfl : k = n := by omega
   have HN : Hid (decide ((0 : Int) ≤ (-1 : Int)) = xs.any p) := aa (by rw [HR.out, ← hn.out]; simp)
   clear HR hlt
   go_wp2
   go_ret
   exact ⟨-1, rfl, HN.out, aG.out⟩
theorem I6 (c0 : Value) (p : Int → Bool) (r : Bool) (A : Option Addr) (xs : List Int) (n c : Nat) (hr : Hid (xs.any p = r)) (hn : Hid (xs.length = n)) (hbig : Hid (n < 1000000)) (w : World) (hs : Hid (Sl w A xs)) (hp : Hid (Says 96 #[c0] p w)) :
  Calls Tryz.prog 38 #[.slice A n c, .func (.func 96) #[] #[c0]] w (Rt w (.bool r)) := by
 go_in
 go_wp2_with fail
 refine (Fs c0 p A xs n c hn hbig _ hs hp).mono ?_
 rintro e w1 ⟨i, rfl, hi, hb1⟩
 have hd : decide ((0 : Int) ≤ i) = r := hi.trans hr.out
 clear hi
 go_wp2
 go_ret
 exact ⟨by first | rfl | (rw [← hd]) | simp [hd], hb1⟩
theorem Fq (c0 : Value) (p : Int → Bool) (A : Option Addr) (xs : List Int) (n c : Nat) (hn : Hid (xs.length = n)) (hbig : Hid (n < 1000000)) (w : World) (hs : Hid (Sl w A xs)) (hp : Hid (Says 97 #[c0] p w)) :
  Calls Tryz.prog 68 #[.slice A n c, .func (.func 97) #[] #[c0]] w (ng p xs w) := by
 have hn0 : n < 1000000 := hbig.out
 go_in
 go_wp2
 go_loopw [8] (fun i wr => ∃ k : Nat, k ≤ n ∧ i = .int .i64 k ∧ Hid (xs.any p = (xs.drop k).any p) ∧ Hid (Below w.heap.size w wr)) (fun i _ => n - (intOf i).toNat)
 case atStart => exact ⟨0, by omega, rfl, aa rfl, aa (Below.refl _ _)⟩
 case round =>
  obtain ⟨k, hk, rfl, HR, aG⟩ := hrel
  by_cases hlt : k < n
  ·
   have hkl : k < xs.length := by rw [hn.out]; exact hlt
   obtain ⟨b, o, hA, hi0⟩ := hs.out k hkl
   subst hA
   have hi := (aG.out.cell (World.block_lt_of_cell? _ _ hi0)).trans hi0
   cases hpx : p (xs.getD k 0) with
   | false =>
    have HN : Hid (xs.any p = (xs.drop (k + 1)).any p) := aa (HR.out.trans (bT hkl hpx))
    obtain ⟨x, hx⟩ : ∃ x, xs.getD k 0 = x := ⟨_, rfl⟩
    rw [hx] at hi hpx
    have HC := aa (hp.out x wr aG.out)
    have pY := aa hpx
    clear hi0 hx hkl hpx HR
    go_wp2_with fail
    refine HC.out.mono ?_
    rintro e w2 ⟨rfl, hb0⟩
    rw [pY.out]
    have HB2 := aa (ag aG.out hb0)
    clear hb0
    go_wp2
    go_roundw
    case rel => exact ⟨k + 1, by omega, by go_num, HN, HB2⟩
    case measure => simp [intOf]; omega
   | true =>
    have HN : Hid (decide ((0 : Int) ≤ (k : Int)) = xs.any p) := aa (by rw [HR.out, bL hkl hpx]; simp)
    obtain ⟨x, hx⟩ : ∃ x, xs.getD k 0 = x := ⟨_, rfl⟩
    rw [hx] at hi hpx
    have HC := aa (hp.out x wr aG.out)
    have pY := aa hpx
    clear hi0 hx hkl hpx HR
    go_wp2_with fail
    refine HC.out.mono ?_
    rintro e w2 ⟨rfl, hb0⟩
    rw [pY.out]
    have HB2 := aa (ag aG.out hb0)
    clear hb0
    go_wp2
    go_ret
    exact ⟨k, rfl, HN.out, HB2.out⟩
  ·
   obtain rfl : k = n := by omega
   have HN : Hid (decide ((0 : Int) ≤ (-1 : Int)) = xs.any p) := aa (by rw [HR.out, ← hn.out]; simp)
   clear HR hlt
   go_wp2
   go_ret
   exact ⟨-1, rfl, HN.out, aG.out⟩
theorem I5 (c0 : Value) (p : Int → Bool) (r : Bool) (A : Option Addr) (xs : List Int) (n c : Nat) (hr : Hid (xs.any p = r)) (hn : Hid (xs.length = n)) (hbig : Hid (n < 1000000)) (w : World) (hs : Hid (Sl w A xs)) (hp : Hid (Says 97 #[c0] p w)) :
  Calls Tryz.prog 38 #[.slice A n c, .func (.func 97) #[] #[c0]] w (Rt w (.bool r)) := by
 go_in
 go_wp2_with fail
 refine (Fq c0 p A xs n c hn hbig _ hs hp).mono ?_
 rintro e w1 ⟨i, rfl, hi, hb1⟩
 have hd : decide ((0 : Int) ≤ i) = r := hi.trans hr.out
 clear hi
 go_wp2
 go_ret
 exact ⟨by first | rfl | (rw [← hd]) | simp [hd], hb1⟩
theorem Fw (c0 : Value) (p : Int → Bool) (A : Option Addr) (xs : List Int) (n c : Nat) (hn : Hid (xs.length = n)) (hbig : Hid (n < 1000000)) (w : World) (hs : Hid (Sl w A xs)) (hp : Hid (Says 83 #[c0] p w)) :
  Calls Tryz.prog 68 #[.slice A n c, .func (.func 83) #[] #[c0]] w (ng p xs w) := by
 have hn0 : n < 1000000 := hbig.out
 go_in
 go_wp2
 go_loopw [8] (fun i wr => ∃ k : Nat, k ≤ n ∧ i = .int .i64 k ∧ Hid (xs.any p = (xs.drop k).any p) ∧ Hid (Below w.heap.size w wr)) (fun i _ => n - (intOf i).toNat)
 case atStart => exact ⟨0, by omega, rfl, aa rfl, aa (Below.refl _ _)⟩
 case round =>
  obtain ⟨k, hk, rfl, HR, aG⟩ := hrel
  by_cases hlt : k < n
  ·
   have hkl : k < xs.length := by rw [hn.out]; exact hlt
   obtain ⟨b, o, hA, hi0⟩ := hs.out k hkl
   subst hA
   have hi := (aG.out.cell (World.block_lt_of_cell? _ _ hi0)).trans hi0
   cases hpx : p (xs.getD k 0) with
   | false =>
    have HN : Hid (xs.any p = (xs.drop (k + 1)).any p) := aa (HR.out.trans (bT hkl hpx))
    obtain ⟨x, hx⟩ : ∃ x, xs.getD k 0 = x := ⟨_, rfl⟩
    rw [hx] at hi hpx
    have HC := aa (hp.out x wr aG.out)
    have pY := aa hpx
    clear hi0 hx hkl hpx HR
    go_wp2_with fail
    refine HC.out.mono ?_
    rintro e w2 ⟨rfl, hb0⟩
    rw [pY.out]
    have HB2 := aa (ag aG.out hb0)
    clear hb0
    go_wp2
    go_roundw
    case rel => exact ⟨k + 1, by omega, by go_num, HN, HB2⟩
    case measure => simp [intOf]; omega
   | true =>
    have HN : Hid (decide ((0 : Int) ≤ (k : Int)) = xs.any p) := aa (by rw [HR.out, bL hkl hpx]; simp)
    obtain ⟨x, hx⟩ : ∃ x, xs.getD k 0 = x := ⟨_, rfl⟩
    rw [hx] at hi hpx
    have HC := aa (hp.out x wr aG.out)
    have pY := aa hpx
    clear hi0 hx hkl hpx HR
    go_wp2_with fail
    refine HC.out.mono ?_
    rintro e w2 ⟨rfl, hb0⟩
    rw [pY.out]
    have HB2 := aa (ag aG.out hb0)
    clear hb0
    go_wp2
    go_ret
    exact ⟨k, rfl, HN.out, HB2.out⟩
  ·
   obtain rfl : k = n := by omega
   have HN : Hid (decide ((0 : Int) ≤ (-1 : Int)) = xs.any p) := aa (by rw [HR.out, ← hn.out]; simp)
   clear HR hlt
   go_wp2
   go_ret
   exact ⟨-1, rfl, HN.out, aG.out⟩
theorem I9 (c0 : Value) (p : Int → Bool) (r : Bool) (A : Option Addr) (xs : List Int) (n c : Nat) (hr : Hid (xs.any p = r)) (hn : Hid (xs.length = n)) (hbig : Hid (n < 1000000)) (w : World) (hs : Hid (Sl w A xs)) (hp : Hid (Says 83 #[c0] p w)) :
  Calls Tryz.prog 38 #[.slice A n c, .func (.func 83) #[] #[c0]] w (Rt w (.bool r)) := by
 go_in
 go_wp2_with fail
 refine (Fw c0 p A xs n c hn hbig _ hs hp).mono ?_
 rintro e w1 ⟨i, rfl, hi, hb1⟩
 have hd : decide ((0 : Int) ≤ i) = r := hi.trans hr.out
 clear hi
 go_wp2
 go_ret
 exact ⟨by first | rfl | (rw [← hd]) | simp [hd], hb1⟩
theorem Ca (P Q G : Int) (a : Nat) (hQ : Q < 9223372036854775808) (W : World) (hx : Hid (kR W a P Q G)) (hv : Hid (Vars W)) :
  Says 96 #[.pointer (some ⟨a, 0, none⟩)] (fun x => !dQ P Q G x) W := fun x w1 hb => by
 show Calls Tryz.prog 96 #[.int .i64 x, .pointer (some ⟨a, 0, none⟩)] w1 fun e w' => e = .returned (.bool (!dQ P Q G x)) ∧ Below w1.heap.size w1 w'
 obtain ⟨c0, c1, c2⟩ := hx.out.below hb
 have HV := aa (hv.out.below hb)
 obtain ⟨r, hr⟩ : ∃ r, dQ P Q G x = r := ⟨_, rfl⟩
 have HR := aa hr
 rw [hr]
 clear hr hb
 go_in
 go_wp2_with fail
 refine (aW P Q G x r HR hQ _ HV).mono ?_
 rintro e w2 ⟨rfl, hb0⟩
 go_wp2
 go_ret
 exact ⟨rfl, hb0⟩
theorem Cb (P Q G : Int) (a : Nat) (hQ : Q < 9223372036854775808) (W : World) (hx : Hid (kR W a P Q G)) (hv : Hid (Vars W)) :
  Says 83 #[.pointer (some ⟨a, 0, none⟩)] (fun x => !dQ P Q G x) W := fun x w1 hb => by
 show Calls Tryz.prog 83 #[.int .i64 x, .pointer (some ⟨a, 0, none⟩)] w1 fun e w' => e = .returned (.bool (!dQ P Q G x)) ∧ Below w1.heap.size w1 w'
 obtain ⟨c0, c1, c2⟩ := hx.out.below hb
 have HV := aa (hv.out.below hb)
 obtain ⟨r, hr⟩ : ∃ r, dQ P Q G x = r := ⟨_, rfl⟩
 have HR := aa hr
 rw [hr]
 clear hr hb
 go_in
 go_wp2_with fail
 refine (aW P Q G x r HR hQ _ HV).mono ?_
 rintro e w2 ⟨rfl, hb0⟩
 go_wp2
 go_ret
 exact ⟨rfl, hb0⟩
theorem B_ (P Q G : Int) (a : Nat) (W : World) (hx : Hid (kR W a P Q G)) :
  Says 97 #[.pointer (some ⟨a, 0, none⟩)] (fun x => !bH Q x) W := fun x w1 hb => by
 show Calls Tryz.prog 97 #[.int .i64 x, .pointer (some ⟨a, 0, none⟩)] w1 fun e w' => e = .returned (.bool (!bH Q x)) ∧ Below w1.heap.size w1 w'
 obtain ⟨c0, c1, c2⟩ := hx.out.below hb
 by_cases h0 : x < 0
 ·
  have e : bH Q x = false := by simp [bH]; omega
  rw [e]
  have d0 : decide (x < 0) = true := by simp; omega
  clear hb e
  go_in
  go_wp2
  go_ret
  exact ⟨rfl, Below.refl _ _⟩
 ·
  have d0 : decide (x < 0) = false := by simp; omega
  obtain ⟨t, ht⟩ : ∃ t, decide (Q ≤ x) = t := ⟨_, rfl⟩
  have e : bH Q x = !t := by
   rw [← ht, bH, decide_eq_true (show (0 : Int) ≤ x by omega), Bool.true_and, ← decide_not]
   exact decide_eq_decide.2 (by omega)
  rw [e, Bool.not_not]
  clear hb e
  go_in
  go_wp2
  go_ret
  exact ⟨by first | rfl | rw [ht], Below.refl _ _⟩
theorem dB (P Q G x : Int) (r : Bool) (hr : Hid (bH Q x = r)) (w : World) :
  Calls Tryz.prog 54 #[gv P Q G, .int .i64 x] w (Rt w (.bool r)) := by
 have hb := af w (bA P Q G)
 by_cases h0 : 0 ≤ x
 ·
  have d0 : decide (0 ≤ x) = true := by simp; omega
  obtain ⟨t, ht⟩ : ∃ t, decide (x < Q) = t := ⟨_, rfl⟩
  obtain rfl : r = t := by rw [← hr.out, bH, d0, ht, Bool.true_and]
  go_in
  go_wp2
  go_ret
  exact ⟨by first | rfl | rw [ht], hb⟩
 ·
  have d0 : decide (0 ≤ x) = false := by simp; omega
  obtain rfl : r = false := by rw [← hr.out, bH, d0, Bool.false_and]
  go_in
  go_wp2
  go_ret
  exact ⟨rfl, hb⟩
theorem oQ (P Q G : Int) (A : Option Addr) (xs : List Int) (n c : Nat) (r : Bool) (hr : Hid (xs.all (bH Q) = r)) (hn : Hid (xs.length = n)) (hbig : Hid (n < 1000000)) (w : World) (hs : Hid (Sl w A xs)) :
  Calls Tryz.prog 73 #[gv P Q G, .slice A n c] w (Rt w (.bool r)) := by
 have HX0 := aa (bD w P Q G)
 have F7 := aa (hs.out.below (af w (bA P Q G)))
 have LK := aa (B_ P Q G w.heap.size _ HX0)
 have HP : Hid ((xs.any fun x => !bH Q x) = !r) := aa (by rw [nK, hr.out])
 clear hs
 go_in
 go_wp2_with fail
 refine (I5 (.pointer (some ⟨w.heap.size, 0, none⟩)) (fun x => !bH Q x) (!r) A xs n c HP hn hbig _ F7 LK).mono ?_
 rintro e w1 ⟨rfl, hb0⟩
 have hb1 := ag (af _ _) hb0
 clear hb0
 go_wp2
 go_ret
 exact ⟨by simp, hb1⟩
theorem qo (P Q G : Int) (A : Option Addr) (xs : List Int) (n c : Nat) (r : Bool) (hr : Hid (xs.all (dQ P Q G) = r)) (hn : Hid (xs.length = n)) (hbig : Hid (n < 1000000)) (hQ : Q < 9223372036854775808) (w : World) (hv : Hid (Vars w)) (hs : Hid (Sl w A xs)) :
  Calls Tryz.prog 72 #[gv P Q G, .slice A n c] w (Rt w (.bool r)) := by
 have HX0 := aa (bD w P Q G)
 have sV := aa (hv.out.below (af w (bA P Q G)))
 have F7 := aa (hs.out.below (af w (bA P Q G)))
 have LK := aa (Ca P Q G w.heap.size hQ _ HX0 sV)
 have HP : Hid ((xs.any fun x => !dQ P Q G x) = !r) := aa (by rw [nK, hr.out])
 clear hs hv
 go_in
 go_wp2_with fail
 refine (I6 (.pointer (some ⟨w.heap.size, 0, none⟩)) (fun x => !dQ P Q G x) (!r) A xs n c HP hn hbig _ F7 LK).mono ?_
 rintro e w1 ⟨rfl, hb0⟩
 have hb1 := ag (af _ _) hb0
 clear hb0
 go_wp2
 go_ret
 exact ⟨by simp, hb1⟩
theorem F3 {P Q G : Int} {xs : List Int} (hv : aC P Q G = true) : xs.all (dQ P Q G) = xs.all (av P Q) := by
 congr 1
 funext x
 rw [dQ, hv, Bool.true_and]
theorem xq (P Q G : Int) (A : Option Addr) (xs : List Int) (n c : Nat) (E : Option Addr) (es : List Int) (d : Nat) (V : Int) (hV : Hid (dz P 1 xs es = V)) (hn : Hid (xs.length = n)) (hm : Hid (es.length = n)) (hbig : n < 1000000)
  (hg : Hid (aC P Q G = true)) (hx : Hid (xs.all (av P Q) = true)) (he : Hid (es.all (bH Q) = true)) (hQ : Q < 9223372036854775808) (w : World) (hv : Hid (Vars w)) (hA : Hid (Sl w A xs)) (hE : Hid (Sl w E es)) :
  Calls Tryz.prog 74 #[gv P Q G, .slice A n c, .slice E n d] w (Rt w (.tuple #[.int .i64 V, .int .i64 0])) := by
 obtain ⟨hp2, hp, hq3, Eo⟩ := aJ hg.out
 obtain ⟨w0, HW, aM, kC⟩ := st1 (bA P Q G) Bg w
 have kV := mkV aM hv
 have kA := mkS aM hA
 have kE := mkS aM hE
 have aA := jQ w0
 clear hv hA hE
 go_in
 go_wp2
 rw [HW.out]
 go_loopw [8, 15] (fun o i wr => ∃ (k : Nat) (acc : Int), k ≤ n ∧ i = .int .i64 k ∧ o = .int .i64 acc ∧ Hid (av P Q acc = true) ∧ Hid (dz P acc (xs.drop k) (es.drop k) = V) ∧ Hid (Below w0.heap.size w0 wr)) (fun _ i _ => n - (intOf i).toNat)
 case atStart => exact ⟨0, 1, by omega, rfl, rfl, aa (zF hp2), uH hV, aa (Below.refl _ _)⟩
 case round =>
  obtain ⟨k, acc, hk, rfl, rfl, HM, yU, aG⟩ := hrel
  obtain ⟨wo, rfl⟩ : ∃ wo : World, wo = wr := ⟨_, rfl⟩
  by_cases hlt : k < n
  ·
   have hkl : k < xs.length := by rw [hn.out]; exact hlt
   have hke : k < es.length := by rw [hm.out]; exact hlt
   obtain ⟨b1, o1, hA1, hi0⟩ := (kA.out _ aG).out k hkl
   obtain ⟨b2, o2, hA2, hi1⟩ := (kE.out _ aG).out k hke
   subst hA1
   subst hA2
   obtain ⟨c0, c1, c2⟩ := kC.out _ aG
   have hm1 := iV hx.out hkl
   have hm2 := iV he.out hke
   have hst := xm (P := P) (acc := acc) hkl hke
   obtain ⟨x, KO⟩ : ∃ x, xs.getD k 0 = x := ⟨_, rfl⟩
   obtain ⟨e, hee⟩ : ∃ x, es.getD k 0 = x := ⟨_, rfl⟩
   rw [KO] at hi0 hm1 hst
   rw [hee] at hi1 hm2 hst
   have e0 := je hm2
   have e1 := oM hm2
   obtain ⟨p, hpw⟩ : ∃ p, pw x e P = p := ⟨_, rfl⟩
   have hmp : av P Q p = true := by rw [← hpw]; exact fI hp2 (by omega) e0 hm1
   have K9 : e % Q = e := Int.emod_eq_of_lt e0 e1
   have Pz : Hid (pw x (e % Q) P = p) := aa (by rw [K9]; exact hpw)
   have yZ : Hid (iq P Q G [x] = 0) := aa (eZ hg.out (by simpa using hm1))
   have yY : Hid (iq P Q G [acc, p] = 0) := aa (eZ hg.out (by simp [HM.out, hmp]))
   obtain ⟨t, ht⟩ : ∃ t, acc * p % P = t := ⟨_, rfl⟩
   have HT := aa ht
   have UL : Hid (av P Q t = true) := aa (by rw [← ht]; exact jI hp2 (by omega) HM.out hmp)
   have yT : Hid (dz P t (xs.drop (k + 1)) (es.drop (k + 1)) = V) := aa (by rw [← yU.out, hst, hpw, ht])
   have hS := aa (show ∀ u1 : World, Hid (Below w0.heap.size w0 u1) → Below wo.heap.size wo u1 → (u1.cell? ⟨w.heap.size, 0, none⟩ = some (.int .i64 P) ∧ u1.cell? ⟨w.heap.size, 1, none⟩ = some (.int .i64 Q) ∧ u1.cell? ⟨w.heap.size, 2, none⟩ = some (.int .i64 G) ∧ u1.cell? ⟨b2, o2 + k, none⟩ = some (.int .i64 e) ∧ Hid (Below w0.heap.size w0 u1)) from fun u1 h1 h2 => ⟨cell_below c0 h2, cell_below c1 h2, cell_below c2 h2, cell_below hi1 h2, h1⟩)
   have HI1 := aa hi1
   clear hm1 hm2 hst KO hee hpw hmp K9 ht hkl hke hi1
   go_wp2
   clear c0 c1 c2 hi0
   go_region_held3 (fun w' => w'.cell? ⟨w.heap.size, 0, none⟩ = some (.int .i64 P) ∧ w'.cell? ⟨w.heap.size, 1, none⟩ = some (.int .i64 Q) ∧ w'.cell? ⟨w.heap.size, 2, none⟩ = some (.int .i64 G) ∧ w'.cell? ⟨b2, o2 + k, none⟩ = some (.int .i64 e) ∧ Hid (Below w0.heap.size w0 w'))
    (first | exact hS.out _ (aa aG.out.drew) ((Below.refl _ _).drew) | exact hS.out _ (aa (ag aG.out.drew jd)) (Below.trans ((Below.refl _ _).drew) jd) | go_keep)
    ((first | (go_at_call 35; (with_reducible refine (lS P Q G x e p yZ Pz (by omega) (by omega) _ ?_).mono ?_); (go_split_ands; exact kV.out _ (by assumption)); rintro e' wA ⟨rfl, jd⟩)))
   rename_i hHeld
   obtain ⟨c0, c1, c2, _, SF⟩ := hHeld
   go_wp2_with fail
   refine (lT P Q G acc p t yY HT hQ _ (kV.out _ SF)).mono ?_
   rintro e' w2 ⟨rfl, hb0⟩
   have HB2 := aa (ag SF.out hb0)
   clear hb0 c0 c1 c2
   go_wp2
   go_roundw
   case rel => exact ⟨k + 1, t, by omega, by go_num, rfl, UL, yT, HB2⟩
   case measure => simp [intOf]; omega
  ·
   obtain rfl : k = n := by omega
   have hacc := Ar hn.out yU
   have kI := ag aM.out aG.out
   clear yU hlt
   subst hacc
   go_wp2
   go_ret2
   exact ⟨rfl, kI⟩
theorem ji (P Q G : Int) (A : Option Addr) (xs : List Int) (n c : Nat) (E : Option Addr) (es : List Int) (d : Nat) (V : Int) (hV : Hid (dz P 1 xs es = V)) (hn : Hid (xs.length = n)) (hm : Hid (es.length = n)) (hbig : n ≤ 100)
  (hg : Hid (aC P Q G = true)) (hx : Hid (xs.all (av P Q) = true)) (he : Hid (es.all (bH Q) = true)) (hQ : Q < 9223372036854775808) (w : World) (hv : Hid (Vars w)) (hA : Hid (Sl w A xs)) (hE : Hid (Sl w E es)) :
  Calls Tryz.prog 43 #[gv P Q G, .slice A n c, .slice E n d] w (Rt w (.tuple #[.int .i64 V, .int .i64 0])) := by
 have e1 : ((n : Int) != (n : Int)) = false := by simp
 have e2 : decide ((100 : Int) < (n : Int)) = false := by simp; omega
 have U0 : Hid (xs.all (dQ P Q G) = true) := aa ((F3 hg.out).trans hx.out)
 obtain ⟨w0, HW, aM, kC⟩ := st1 (bA P Q G) Bg w
 have kV := mkV aM hv
 have kA := mkS aM hA
 have kE := mkS aM hE
 have aA := jQ w0
 clear hv hA hE
 go_in
 go_wp2_with fail
 rw [HW.out]
 have zc := kC.out _ aA
 go_wp2_with fail
 clear zc
 refine iB kC aA (dS P Q G true hg hQ _ (kV.out _ aA)) fun w1 bJ zc => ?_
 go_wp2_with fail
 clear zc
 refine iB kC bJ (qo P Q G A xs n c true U0 hn (aa (by omega)) hQ _ (kV.out _ bJ) (kA.out _ bJ)) fun w2 bM zc => ?_
 go_wp2_with fail
 clear zc
 refine iB kC bM (oQ P Q G E es n d true he hm (aa (by omega)) _ (kE.out _ bM)) fun w3 eT zc => ?_
 go_wp2_with fail
 clear zc
 refine iB kC eT (xq P Q G A xs n c E es d V hV hn hm (by omega) hg hx he hQ _ (kV.out _ eT) (kA.out _ eT) (kE.out _ eT)) fun w4 wM zc => ?_
 go_wp2
 go_ret2
 exact ⟨rfl, gT aM wM⟩
theorem qV (P Q G y : Int) (A : Option Addr) (xs : List Int) (n c : Nat) (E : Option Addr) (es : List Int) (d : Nat) (r : Bool) (hr : Hid ((dz P 1 xs es == y) = r)) (hn : Hid (xs.length = n)) (hm : Hid (es.length = n)) (hbig : n ≤ 100)
  (hg : Hid (aC P Q G = true)) (hx : Hid (xs.all (av P Q) = true)) (he : Hid (es.all (bH Q) = true)) (hQ : Q < 9223372036854775808) (w : World) (hv : Hid (Vars w)) (hA : Hid (Sl w A xs)) (hE : Hid (Sl w E es)) :
  Calls Tryz.prog 55 #[gv P Q G, .int .i64 y, .slice A n c, .slice E n d] w (Rt w (.bool r)) := by
 obtain ⟨V, hV⟩ : ∃ V, dz P 1 xs es = V := ⟨_, rfl⟩
 have HV := aa hV
 have hr2 : ((V : Int) == y) = r := by rw [← hV]; exact hr.out
 clear hV
 obtain ⟨w0, HW, aM, kC⟩ := st1 (bA P Q G) Bg w
 have kV := mkV aM hv
 have kA := mkS aM hA
 have kE := mkS aM hE
 have aA := jQ w0
 clear hv hA hE
 go_in
 go_wp2_with fail
 rw [HW.out]
 have zc := kC.out _ aA
 go_wp2_with fail
 clear zc
 refine iB kC aA (ji P Q G A xs n c E es d V HV hn hm hbig hg hx he hQ _ (kV.out _ aA) (kA.out _ aA) (kE.out _ aA)) fun w1 bJ zc => ?_
 go_wp2
 go_ret
 exact ⟨by first | rfl | rw [hr2], gT aM bJ⟩
theorem iA {f : Int → Bool} {xs : List Int} {k : Nat} (hk : k < xs.length) : (xs.drop k).all f = (f (xs.getD k 0) && (xs.drop (k + 1)).all f) := by
 rw [List.drop_eq_getElem_cons hk, List.all_cons, List.getD_eq_getElem?_getD, List.getElem?_eq_getElem hk]
 rfl
theorem NU (x y P : Int) : (x % P) * y % P = x * y % P := by rw [Int.mul_emod, Int.emod_emod, ← Int.mul_emod]
abbrev yl (A : Option Addr) (na ca : Nat) (C : Option Addr) (nc cc : Nat) (Z : Option Addr) (nz cz : Nat) : Value := .agg #[.slice A na ca, .slice C nc cc, .slice Z nz cz]
abbrev A_ (A : Option Addr) (na ca : Nat) (C : Option Addr) (nc cc : Nat) (Z : Option Addr) (nz cz : Nat) : Obj := .cells #[.slice A na ca, .slice C nc cc, .slice Z nz cz] 63
def iJ (P Q G b : Int) (ys : List Int) : Int := if aC P Q G = true then (if 1 ≤ ys.length ∧ ys.length ≤ 16 then (if av P Q b = true then (if ys.all (av P Q) = true then 0 else 2) else 2) else 1) else 1
theorem xN {P Q G b : Int} {ys : List Int} (h : iJ P Q G b ys = 0) : aC P Q G = true ∧ 1 ≤ ys.length ∧ ys.length ≤ 16 ∧ av P Q b = true ∧ ys.all (av P Q) = true := by
 unfold iJ at h
 split at h
 ·
  rename_i h1
  split at h
  ·
   rename_i h2
   split at h
   ·
    rename_i h3
    split at h
    ·
     rename_i h4
     exact ⟨h1, h2.1, h2.2, h3, h4⟩
    · exact absurd h (by omega)
   · exact absurd h (by omega)
  · exact absurd h (by omega)
 · exact absurd h (by omega)
theorem FI {P Q G b : Int} {ys : List Int} (h1 : aC P Q G = true) (h2 : 1 ≤ ys.length) (h3 : ys.length ≤ 16) (h4 : av P Q b = true) (h5 : ys.all (av P Q) = true) : iJ P Q G b ys = 0 := by
 unfold iJ; rw [if_pos h1, if_pos ⟨h2, h3⟩, if_pos h4, if_pos h5]
theorem kM (P Q G b : Int) (Y : Option Addr) (ys : List Int) (yn yc : Nat) (r : Int) (hr : Hid (iJ P Q G b ys = r)) (hyn : Hid (ys.length = yn)) (hyb : yn < 1000000) (hQ : Q < 9223372036854775808) (w : World) (hv : Hid (Vars w)) (hY : Hid (Sl w Y ys)) :
  Calls Tryz.prog 52 #[gv P Q G, .int .i64 b, .slice Y yn yc] w (Rt w (.int .i64 r)) := by
 obtain ⟨vb, hvb⟩ : ∃ b, aC P Q G = b := ⟨_, rfl⟩
 obtain ⟨bb, hbb⟩ : ∃ x, av P Q b = x := ⟨_, rfl⟩
 obtain ⟨yb, KN⟩ : ∃ b, ys.all (av P Q) = b := ⟨_, rfl⟩
 have F5 := aa hvb
 have rQ := aa hbb
 have J7 := aa KN
 clear hvb hbb KN
 obtain ⟨w0, HW, aM, kC⟩ := st1 (bA P Q G) Bg w
 have kV := mkV aM hv
 have kY := mkS aM hY
 have aA := jQ w0
 clear hv hY
 go_in
 go_wp2_with fail
 rw [HW.out]
 have zc := kC.out _ aA
 go_wp2_with fail
 clear zc
 refine iB kC aA (dS P Q G vb F5 hQ _ (kV.out _ aA)) fun w1 bJ zc => ?_
 cases vb with
 | false =>
  obtain rfl : r = 1 := hr.out.symm.trans (by unfold iJ; simp only [F5.out, Bool.false_eq_true, if_false])
  go_wp2
  go_ret
  exact ⟨rfl, gT aM bJ⟩
 | true =>
  by_cases h1 : yn < 1
  ·
   have d1 : decide ((yn : Int) < 1) = true := by simp; omega
   obtain rfl : r = 1 := hr.out.symm.trans (by unfold iJ; simp only [F5.out, hyn.out, rQ.out, J7.out, Bool.false_eq_true, if_true, if_false]; rw [if_neg (by omega)])
   go_wp2
   go_ret
   exact ⟨rfl, gT aM bJ⟩
  ·
   have d1 : decide ((yn : Int) < 1) = false := by simp; omega
   by_cases h2 : 16 < yn
   ·
    have d2 : decide ((16 : Int) < (yn : Int)) = true := by simp; omega
    obtain rfl : r = 1 := hr.out.symm.trans (by unfold iJ; simp only [F5.out, hyn.out, rQ.out, J7.out, Bool.false_eq_true, if_true, if_false]; rw [if_neg (by omega)])
    go_wp2
    go_ret
    exact ⟨rfl, gT aM bJ⟩
   ·
    have d2 : decide ((16 : Int) < (yn : Int)) = false := by simp; omega
    have hlen : 1 ≤ yn ∧ yn ≤ 16 := ⟨by omega, by omega⟩
    have wI := aa hlen
    clear hlen
    have MF : Hid (dQ P Q G b = bb) := aa (by rw [dQ, F5.out, Bool.true_and]; exact rQ.out)
    go_wp2_with fail
    clear zc
    refine iB kC bJ (aW P Q G b bb MF hQ _ (kV.out _ bJ)) fun w2 bM zc => ?_
    cases bb with
    | false =>
     obtain rfl : r = 2 := hr.out.symm.trans (by unfold iJ; simp only [F5.out, hyn.out, rQ.out, J7.out, Bool.false_eq_true, if_true, if_false]; rw [if_pos wI.out])
     go_wp2
     go_ret
     exact ⟨rfl, gT aM bM⟩
    | true =>
     have UZ : Hid ((ys.any fun x => !dQ P Q G x) = !yb) := aa (by rw [nJ F5.out, J7.out])
     have Uy := aa (Cb P Q G w.heap.size hQ _ (aa (show kR w2 w.heap.size P Q G from kC.out _ bM)) (kV.out _ bM))
     go_wp2_with fail
     clear zc
     refine iB kC bM (I9 (.pointer (some ⟨w.heap.size, 0, none⟩)) (fun x => !dQ P Q G x) (!yb) Y ys yn yc UZ hyn (aa hyb) _ (kY.out _ bM) Uy) fun w3 eT zc => ?_
     cases yb with
     | false =>
      obtain rfl : r = 2 := hr.out.symm.trans (by unfold iJ; simp only [F5.out, hyn.out, rQ.out, J7.out, Bool.false_eq_true, if_true, if_false]; rw [if_pos wI.out])
      go_wp2
      go_ret
      exact ⟨rfl, gT aM eT⟩
     | true =>
      obtain rfl : r = 0 := hr.out.symm.trans (by unfold iJ; simp only [F5.out, hyn.out, rQ.out, J7.out, Bool.false_eq_true, if_true, if_false]; rw [if_pos wI.out])
      go_wp2
      go_ret
      exact ⟨rfl, gT aM eT⟩
def gW (Q : Int) : Int → List Int → Int
 | acc, x :: xs => gW Q ((acc + x) % Q) xs
 | acc, [] => acc
theorem Ah {Q acc : Int} {k : Nat} {xs : List Int} (hk : k < xs.length) : gW Q acc (xs.drop k) = gW Q ((acc + xs.getD k 0) % Q) (xs.drop (k + 1)) := by
 rw [List.drop_eq_getElem_cons hk, gW, List.getD_eq_getElem?_getD, List.getElem?_eq_getElem hk]
 rfl
theorem BN {Q acc V : Int} {k : Nat} {xs : List Int} (hn : xs.length = k) (h : Hid (gW Q acc (xs.drop k) = V)) : acc = V := by
 rw [← h.out, ← hn, List.drop_length]
 rfl
theorem zk {Q : Int} (hQ : 1 ≤ Q) : ∀ (xs : List Int) (acc : Int), 0 ≤ acc → acc < Q → 0 ≤ gW Q acc xs ∧ gW Q acc xs < Q
 | [], acc, h0, h1 => ⟨h0, h1⟩
 | x :: xs, acc, h0, h1 => by
  rw [gW]
  exact zk hQ xs _ (Int.emod_nonneg _ (by omega)) (Int.emod_lt_of_pos _ (by omega))
theorem zO (P Q G : Int) (A : Option Addr) (xs : List Int) (n c : Nat) (V : Int) (hV : Hid (gW Q 0 xs = V)) (hn : Hid (xs.length = n)) (hbig : n < 1000000) (hx : Hid (xs.all (bH Q) = true)) (J3 : 1 ≤ Q) (hQ : Q < 2305843009213693952) (w : World) (hA : Hid (Sl w A xs)) :
  Calls Tryz.prog 59 #[gv P Q G, .slice A n c] w (Rt w (.int .i64 V)) := by
 obtain ⟨w0, HW, aM, kC⟩ := st1 (bA P Q G) Bg w
 have kA := mkS aM hA
 have aA := jQ w0
 clear hA
 go_in
 go_wp2
 rw [HW.out]
 go_loopw [5, 10] (fun o i wr => ∃ (k : Nat) (acc : Int), k ≤ n ∧ i = .int .i64 k ∧ o = .int .i64 acc ∧ 0 ≤ acc ∧ acc < Q ∧ Hid (gW Q acc (xs.drop k) = V) ∧ Hid (Below w0.heap.size w0 wr)) (fun _ i _ => n - (intOf i).toNat)
 case atStart => exact ⟨0, 0, by omega, rfl, rfl, by omega, by omega, aa (by rw [List.drop_zero]; exact hV.out), aa (Below.refl _ _)⟩
 case round =>
  obtain ⟨k, acc, hk, rfl, rfl, ha0, ha1, yU, aG⟩ := hrel
  by_cases hlt : k < n
  ·
   have hkl : k < xs.length := by rw [hn.out]; exact hlt
   obtain ⟨b1, o1, hA1, hi0⟩ := (kA.out _ aG).out k hkl
   subst hA1
   obtain ⟨c0, c1, c2⟩ := kC.out _ aG
   have hm1 := iV hx.out hkl
   have hst := Ah (Q := Q) (acc := acc) hkl
   obtain ⟨x, KO⟩ : ∃ x, xs.getD k 0 = x := ⟨_, rfl⟩
   rw [KO] at hi0 hm1 hst
   have x0 := je hm1
   have x1 := oM hm1
   obtain ⟨t, ht⟩ : ∃ t, (acc + x) % Q = t := ⟨_, rfl⟩
   have t0 : 0 ≤ t := by rw [← ht]; exact Int.emod_nonneg _ (by omega)
   have t1 : t < Q := by rw [← ht]; exact Int.emod_lt_of_pos _ (by omega)
   have yT : Hid (gW Q t (xs.drop (k + 1)) = V) := aa (by rw [← yU.out, hst, ht])
   have HT := aa ht
   clear hm1 hst KO hkl ht
   go_wp2_with fail
   refine (sP acc x Q hQ ha0 ha1 x0 x1 _).mono ?_
   rintro e' w2 ⟨rfl, rfl⟩
   rw [HT.out]
   go_wp2
   go_roundw
   case rel => exact ⟨k + 1, t, by omega, by go_num, rfl, t0, t1, yT, aG⟩
   case measure => simp [intOf]; omega
  ·
   obtain rfl : k = n := by omega
   have hacc := BN hn.out yU
   have kI := ag aM.out aG.out
   clear yU hlt
   subst hacc
   go_wp2
   go_ret
   exact ⟨rfl, kI⟩
theorem zP (P Q G c v : Int) (hvv : Hid ((Q - c) % Q = v)) (hc0 : 0 ≤ c) (hc1 : c < Q) (hQ : Q < 2305843009213693952) (w : World) :
  Calls Tryz.prog 86 #[gv P Q G, .int .i64 c] w (Rt w (.int .i64 v)) := by
 have hb := af w (bA P Q G)
 have e : (0 - c + Q) % Q = v := by rw [← hvv.out]; congr 1; omega
 have HE := aa e
 clear e
 go_in
 go_wp2_with fail
 refine (BP 0 c Q hQ (by omega) (by omega) hc0 hc1 _).mono ?_
 rintro e' w2 ⟨rfl, rfl⟩
 rw [HE.out]
 go_wp2
 go_ret
 exact ⟨rfl, hb⟩
def gp (P Q b y c z : Int) : Int := pw b z P * pw y ((Q - c) % Q) P % P
theorem rF {P Q b y c z : Int} (hp : 2 ≤ P) : dz P 1 [b, y] [z, (Q - c) % Q] = gp P Q b y c z := by
 simp only [dz, gp]
 have h := Cy b z.toNat P (by omega)
 rw [Int.one_mul, NU]
theorem CL {Q c : Int} (hQ : 1 ≤ Q) : bH Q ((Q - c) % Q) = true := by
 simp only [bH, Bool.and_eq_true, decide_eq_true_eq]
 exact ⟨Int.emod_nonneg _ (by omega), Int.emod_lt_of_pos _ (by omega)⟩
def jy (P Q : Int) (al cl zl : List Int) (k : Nat) : Bool := (al.drop k).all (av P Q) && ((cl.drop k).all (bH Q) && (zl.drop k).all (bH Q))
theorem xU {P Q : Int} {al cl zl : List Int} {k : Nat} (h1 : k < al.length) (h2 : k < cl.length) (h3 : k < zl.length) :
  jy P Q al cl zl k = (av P Q (al.getD k 0) && (bH Q (cl.getD k 0) && (bH Q (zl.getD k 0) && jy P Q al cl zl (k + 1)))) := by
 rw [jy, iA h1, iA h2, iA h3, jy]
 cases av P Q (al.getD k 0) <;> cases bH Q (cl.getD k 0) <;> cases bH Q (zl.getD k 0) <;> simp
def j5 (P Q : Int) (n : Nat) (al cl zl : List Int) : Bool := decide (al.length = n) && (decide (cl.length = n) && (decide (zl.length = n) && jy P Q al cl zl 0))
theorem jA {P Q : Int} {n : Nat} {al cl zl : List Int} (h : j5 P Q n al cl zl = true) : al.length = n ∧ cl.length = n ∧ zl.length = n ∧ al.all (av P Q) = true ∧ cl.all (bH Q) = true ∧ zl.all (bH Q) = true := by
 simp only [j5, jy, Bool.and_eq_true, decide_eq_true_eq, List.drop_zero] at h
 exact ⟨h.1, h.2.1, h.2.2.1, h.2.2.2.1, h.2.2.2.2.1, h.2.2.2.2.2⟩
theorem yt (P Q G : Int) (n : Nat) (A : Option Addr) (al : List Int) (ca : Nat) (C : Option Addr) (cl : List Int) (cc : Nat) (Z : Option Addr) (zl : List Int) (cz : Nat) (r : Bool) (hr : Hid (jy P Q al cl zl 0 = r)) (hg : Hid (aC P Q G = true)) (zK : Hid (al.length = n)) (hcn : Hid (cl.length = n)) (hzn : Hid (zl.length = n)) (hn : n < 1000000)
  (hQ : Q < 9223372036854775808) (w : World) (hv : Hid (Vars w)) (hA : Hid (Sl w A al)) (hC : Hid (Sl w C cl)) (hZ : Hid (Sl w Z zl)) :
  Calls Tryz.prog 61 #[gv P Q G, .int .i64 n, yl A n ca C n cc Z n cz] w (Rt w (.bool r)) := by
 have VS : ((n : Int) != (n : Int)) = false := by simp
 obtain ⟨w0, HW, aM, kC⟩ := st2 (bA P Q G) Jh (A_ A n ca C n cc Z n cz) Bg w
 have kV := mkV aM hv
 have kA := mkS aM hA
 have Az := mkS aM hC
 have kZ := mkS aM hZ
 have aA := jQ w0
 clear hv hA hC hZ
 go_in
 go_wp2_with fail
 rw [HW.out]
 obtain ⟨x0, x1, x2, x3, x4, x5⟩ := kC.out _ aA
 go_wp2
 clear x0 x1 x2 x3 x4 x5
 go_loopw [28] (fun i wr => ∃ k : Nat, k ≤ n ∧ i = .int .i64 k ∧ Hid (jy P Q al cl zl k = r) ∧ Hid (Below w0.heap.size w0 wr)) (fun i _ => n - (intOf i).toNat)
 case atStart => exact ⟨0, by omega, rfl, hr, aA⟩
 case round =>
  obtain ⟨k, hk, rfl, HR, aG⟩ := hrel
  obtain ⟨wo, rfl⟩ : ∃ wo : World, wo = wr := ⟨_, rfl⟩
  by_cases hlt : k < n
  ·
   have h1 : k < al.length := by rw [zK.out]; exact hlt
   have h2 : k < cl.length := by rw [hcn.out]; exact hlt
   have h3 : k < zl.length := by rw [hzn.out]; exact hlt
   obtain ⟨b1, o1, e1, hi1⟩ := (kA.out _ aG).out k h1
   obtain ⟨b2, o2, e2, hi2⟩ := (Az.out _ aG).out k h2
   obtain ⟨b3, o3, e3, hi3⟩ := (kZ.out _ aG).out k h3
   subst e1
   subst e2
   subst e3
   have hst := xU (P := P) (Q := Q) h1 h2 h3
   rw [HR.out] at hst
   obtain ⟨a, ha⟩ : ∃ x, al.getD k 0 = x := ⟨_, rfl⟩
   obtain ⟨c, hc⟩ : ∃ x, cl.getD k 0 = x := ⟨_, rfl⟩
   obtain ⟨z, hz⟩ : ∃ x, zl.getD k 0 = x := ⟨_, rfl⟩
   rw [ha] at hst hi1
   rw [hc] at hst hi2
   rw [hz] at hst hi3
   have hS := aa (show ∀ u1 u2 : World, Hid (Below w0.heap.size w0 u1) → Below u1.heap.size u1 u2 → Below wo.heap.size wo u2 → (u2.cell? ⟨w.heap.size, 0, none⟩ = some (.int .i64 P) ∧ u2.cell? ⟨w.heap.size, 1, none⟩ = some (.int .i64 Q) ∧ u2.cell? ⟨w.heap.size, 2, none⟩ = some (.int .i64 G) ∧ u2.cell? ⟨w.heap.size + 1, 0, none⟩ = some (.slice (some ⟨b1, o1, none⟩) n ca) ∧ u2.cell? ⟨w.heap.size + 1, 1, none⟩ = some (.slice (some ⟨b2, o2, none⟩) n cc) ∧ u2.cell? ⟨w.heap.size + 1, 2, none⟩ = some (.slice (some ⟨b3, o3, none⟩) n cz) ∧ u2.cell? ⟨b1, o1 + k, none⟩ = some (.int .i64 a) ∧ u2.cell? ⟨b2, o2 + k, none⟩ = some (.int .i64 c) ∧ u2.cell? ⟨b3, o3 + k, none⟩ = some (.int .i64 z) ∧ Hid (Below w0.heap.size w0 u2)) from fun u1 u2 h4 h5 h6 => by
    have h7 := aa (ag h4.out h5)
    obtain ⟨y0, y1, y2, y3, y4, y5⟩ := kC.out _ h7
    exact ⟨y0, y1, y2, y3, y4, y5, cell_below hi1 h6, cell_below hi2 h6, cell_below hi3 h6, h7⟩)
   have HD := aa (show Below wo.heap.size wo wo.drew from (Below.refl _ _).drew)
   obtain ⟨ab, hab⟩ : ∃ x, av P Q a = x := ⟨_, rfl⟩
   obtain ⟨cb, hcb⟩ : ∃ x, bH Q c = x := ⟨_, rfl⟩
   obtain ⟨zb, hzb⟩ : ∃ x, bH Q z = x := ⟨_, rfl⟩
   rw [hab, hcb, hzb] at hst
   have JR : Hid (dQ P Q G a = ab) := aa (by rw [dQ, hg.out, Bool.true_and]; exact hab)
   have MF := aa hcb
   have Rs := aa hzb
   have HST := aa hst
   clear hst ha hc hz hab hcb hzb h1 h2 h3 hi1 hi2 hi3 HR
   go_wp2
   cases ab with
   | false =>
    refine bq (S := fun w' => w'.cell? ⟨w.heap.size, 0, none⟩ = some (.int .i64 P) ∧ w'.cell? ⟨w.heap.size, 1, none⟩ = some (.int .i64 Q) ∧ w'.cell? ⟨w.heap.size, 2, none⟩ = some (.int .i64 G) ∧ w'.cell? ⟨w.heap.size + 1, 0, none⟩ = some (.slice (some ⟨b1, o1, none⟩) n ca) ∧ w'.cell? ⟨w.heap.size + 1, 1, none⟩ = some (.slice (some ⟨b2, o2, none⟩) n cc) ∧ w'.cell? ⟨w.heap.size + 1, 2, none⟩ = some (.slice (some ⟨b3, o3, none⟩) n cz) ∧ w'.cell? ⟨b1, o1 + k, none⟩ = some (.int .i64 a) ∧ w'.cell? ⟨b2, o2 + k, none⟩ = some (.int .i64 c) ∧ w'.cell? ⟨b3, o3 + k, none⟩ = some (.int .i64 z) ∧ Hid (Below w0.heap.size w0 w')) (E := []) (by kernel_rfl) (hS.out _ _ aG HD.out HD.out) (fun hHeld => ?_)
    refine bz 0 ?_
    refine bz 1 ?_
    refine bz 2 ?_
    refine bz 3 ?_
    refine bz 4 ?_
    refine bz 5 ?_
    refine dK 6 fun K hK => ?_
    go_simp
    (with_reducible refine (aW P Q G a false JR hQ _ ?_).mono ?_); (go_split_ands; exact kV.out _ (by assumption)); rintro e wA ⟨rfl, jd⟩
    refine hK.out _ _ ?_ (fun hHeld => ?_)
    · (go_split_ands; exact hS.out _ _ (by assumption) jd (Below.trans HD.out (jd.mono HD.out.size)))
    clear hK K
    try simp only [qq]
    refine bz 7 ?_
    refine bz 8 ?_
    refine Af 9 10 11 12 ?_
    refine Af 13 14 15 16 ?_
    refine bz 17 ?_
    refine bz 18 ?_
    refine Af 19 20 21 22 ?_
    refine Af 23 24 25 26 ?_
    refine bz 27 ?_
    refine kT ?_
    obtain ⟨x0, x1, x2, x3, x4, x5, x6, x7, x8, fO⟩ := hHeld
    clear x0 x1 x2 x3 x4 x5 x6 x7 x8
    obtain rfl : r = false := HST.out.trans (by simp)
    have kI := ag aM.out fO.out
    go_wp2
    go_ret
    exact ⟨rfl, kI⟩
   | true =>
    cases cb with
    | false =>
     refine bq (S := fun w' => w'.cell? ⟨w.heap.size, 0, none⟩ = some (.int .i64 P) ∧ w'.cell? ⟨w.heap.size, 1, none⟩ = some (.int .i64 Q) ∧ w'.cell? ⟨w.heap.size, 2, none⟩ = some (.int .i64 G) ∧ w'.cell? ⟨w.heap.size + 1, 0, none⟩ = some (.slice (some ⟨b1, o1, none⟩) n ca) ∧ w'.cell? ⟨w.heap.size + 1, 1, none⟩ = some (.slice (some ⟨b2, o2, none⟩) n cc) ∧ w'.cell? ⟨w.heap.size + 1, 2, none⟩ = some (.slice (some ⟨b3, o3, none⟩) n cz) ∧ w'.cell? ⟨b1, o1 + k, none⟩ = some (.int .i64 a) ∧ w'.cell? ⟨b2, o2 + k, none⟩ = some (.int .i64 c) ∧ w'.cell? ⟨b3, o3 + k, none⟩ = some (.int .i64 z) ∧ Hid (Below w0.heap.size w0 w')) (E := []) (by kernel_rfl) (hS.out _ _ aG HD.out HD.out) (fun hHeld => ?_)
     refine bz 0 ?_
     refine bz 1 ?_
     refine bz 2 ?_
     refine bz 3 ?_
     refine bz 4 ?_
     refine bz 5 ?_
     refine dK 6 fun K hK => ?_
     go_simp
     (with_reducible refine (aW P Q G a true JR hQ _ ?_).mono ?_); (go_split_ands; exact kV.out _ (by assumption)); rintro e wA ⟨rfl, jd⟩
     refine hK.out _ _ ?_ (fun hHeld => ?_)
     · (go_split_ands; exact hS.out _ _ (by assumption) jd (Below.trans HD.out (jd.mono HD.out.size)))
     clear hK K
     try simp only [qq]
     refine bz 7 ?_
     refine bz 8 ?_
     refine bz 9 ?_
     refine bz 10 ?_
     refine bz 11 ?_
     refine bz 12 ?_
     refine bz 13 ?_
     refine bz 14 ?_
     refine dK 15 fun K hK => ?_
     go_simp
     (with_reducible refine (dB P Q G c false MF _).mono ?_); rintro e wB ⟨rfl, Bu⟩
     refine hK.out _ _ ?_ (fun hHeld => ?_)
     · (go_split_ands; exact hS.out _ _ (by assumption) Bu (Below.trans (Below.trans HD.out (jd.mono HD.out.size)) (Bu.mono (by have h5 := HD.out.size; have h6 := jd.size; omega))))
     clear hK K
     try simp only [qq]
     refine bz 16 ?_
     refine bz 17 ?_
     refine bz 18 ?_
     refine Af 19 20 21 22 ?_
     refine Af 23 24 25 26 ?_
     refine bz 27 ?_
     refine kT ?_
     obtain ⟨x0, x1, x2, x3, x4, x5, x6, x7, x8, fO⟩ := hHeld
     clear x0 x1 x2 x3 x4 x5 x6 x7 x8
     obtain rfl : r = false := HST.out.trans (by simp)
     have kI := ag aM.out fO.out
     go_wp2
     go_ret
     exact ⟨rfl, kI⟩
    | true =>
     cases zb with
     | false =>
      refine bq (S := fun w' => w'.cell? ⟨w.heap.size, 0, none⟩ = some (.int .i64 P) ∧ w'.cell? ⟨w.heap.size, 1, none⟩ = some (.int .i64 Q) ∧ w'.cell? ⟨w.heap.size, 2, none⟩ = some (.int .i64 G) ∧ w'.cell? ⟨w.heap.size + 1, 0, none⟩ = some (.slice (some ⟨b1, o1, none⟩) n ca) ∧ w'.cell? ⟨w.heap.size + 1, 1, none⟩ = some (.slice (some ⟨b2, o2, none⟩) n cc) ∧ w'.cell? ⟨w.heap.size + 1, 2, none⟩ = some (.slice (some ⟨b3, o3, none⟩) n cz) ∧ w'.cell? ⟨b1, o1 + k, none⟩ = some (.int .i64 a) ∧ w'.cell? ⟨b2, o2 + k, none⟩ = some (.int .i64 c) ∧ w'.cell? ⟨b3, o3 + k, none⟩ = some (.int .i64 z) ∧ Hid (Below w0.heap.size w0 w')) (E := []) (by kernel_rfl) (hS.out _ _ aG HD.out HD.out) (fun hHeld => ?_)
      refine bz 0 ?_
      refine bz 1 ?_
      refine bz 2 ?_
      refine bz 3 ?_
      refine bz 4 ?_
      refine bz 5 ?_
      refine dK 6 fun K hK => ?_
      go_simp
      (with_reducible refine (aW P Q G a true JR hQ _ ?_).mono ?_); (go_split_ands; exact kV.out _ (by assumption)); rintro e wA ⟨rfl, jd⟩
      refine hK.out _ _ ?_ (fun hHeld => ?_)
      · (go_split_ands; exact hS.out _ _ (by assumption) jd (Below.trans HD.out (jd.mono HD.out.size)))
      clear hK K
      try simp only [qq]
      refine bz 7 ?_
      refine bz 8 ?_
      refine bz 9 ?_
      refine bz 10 ?_
      refine bz 11 ?_
      refine bz 12 ?_
      refine bz 13 ?_
      refine bz 14 ?_
      refine dK 15 fun K hK => ?_
      go_simp
      (with_reducible refine (dB P Q G c true MF _).mono ?_); rintro e wB ⟨rfl, Bu⟩
      refine hK.out _ _ ?_ (fun hHeld => ?_)
      · (go_split_ands; exact hS.out _ _ (by assumption) Bu (Below.trans (Below.trans HD.out (jd.mono HD.out.size)) (Bu.mono (by have h5 := HD.out.size; have h6 := jd.size; omega))))
      clear hK K
      try simp only [qq]
      refine bz 16 ?_
      refine bz 17 ?_
      refine bz 18 ?_
      refine bz 19 ?_
      refine bz 20 ?_
      refine bz 21 ?_
      refine bz 22 ?_
      refine bz 23 ?_
      refine bz 24 ?_
      refine dK 25 fun K hK => ?_
      go_simp
      (with_reducible refine (dB P Q G z false Rs _).mono ?_); rintro e wC ⟨rfl, hbC⟩
      refine hK.out _ _ ?_ (fun hHeld => ?_)
      · (go_split_ands; exact hS.out _ _ (by assumption) hbC (Below.trans (Below.trans (Below.trans HD.out (jd.mono HD.out.size)) (Bu.mono (by have h5 := HD.out.size; have h6 := jd.size; omega))) (hbC.mono (by have h5 := HD.out.size; have h6 := jd.size; have h7 := Bu.size; omega))))
      clear hK K
      try simp only [qq]
      refine bz 26 ?_
      refine bz 27 ?_
      refine kT ?_
      obtain ⟨x0, x1, x2, x3, x4, x5, x6, x7, x8, fO⟩ := hHeld
      clear x0 x1 x2 x3 x4 x5 x6 x7 x8
      obtain rfl : r = false := HST.out.trans (by simp)
      have kI := ag aM.out fO.out
      go_wp2
      go_ret
      exact ⟨rfl, kI⟩
     | true =>
      refine bq (S := fun w' => w'.cell? ⟨w.heap.size, 0, none⟩ = some (.int .i64 P) ∧ w'.cell? ⟨w.heap.size, 1, none⟩ = some (.int .i64 Q) ∧ w'.cell? ⟨w.heap.size, 2, none⟩ = some (.int .i64 G) ∧ w'.cell? ⟨w.heap.size + 1, 0, none⟩ = some (.slice (some ⟨b1, o1, none⟩) n ca) ∧ w'.cell? ⟨w.heap.size + 1, 1, none⟩ = some (.slice (some ⟨b2, o2, none⟩) n cc) ∧ w'.cell? ⟨w.heap.size + 1, 2, none⟩ = some (.slice (some ⟨b3, o3, none⟩) n cz) ∧ w'.cell? ⟨b1, o1 + k, none⟩ = some (.int .i64 a) ∧ w'.cell? ⟨b2, o2 + k, none⟩ = some (.int .i64 c) ∧ w'.cell? ⟨b3, o3 + k, none⟩ = some (.int .i64 z) ∧ Hid (Below w0.heap.size w0 w')) (E := []) (by kernel_rfl) (hS.out _ _ aG HD.out HD.out) (fun hHeld => ?_)
      refine bz 0 ?_
      refine bz 1 ?_
      refine bz 2 ?_
      refine bz 3 ?_
      refine bz 4 ?_
      refine bz 5 ?_
      refine dK 6 fun K hK => ?_
      go_simp
      (with_reducible refine (aW P Q G a true JR hQ _ ?_).mono ?_); (go_split_ands; exact kV.out _ (by assumption)); rintro e wA ⟨rfl, jd⟩
      refine hK.out _ _ ?_ (fun hHeld => ?_)
      · (go_split_ands; exact hS.out _ _ (by assumption) jd (Below.trans HD.out (jd.mono HD.out.size)))
      clear hK K
      try simp only [qq]
      refine bz 7 ?_
      refine bz 8 ?_
      refine bz 9 ?_
      refine bz 10 ?_
      refine bz 11 ?_
      refine bz 12 ?_
      refine bz 13 ?_
      refine bz 14 ?_
      refine dK 15 fun K hK => ?_
      go_simp
      (with_reducible refine (dB P Q G c true MF _).mono ?_); rintro e wB ⟨rfl, Bu⟩
      refine hK.out _ _ ?_ (fun hHeld => ?_)
      · (go_split_ands; exact hS.out _ _ (by assumption) Bu (Below.trans (Below.trans HD.out (jd.mono HD.out.size)) (Bu.mono (by have h5 := HD.out.size; have h6 := jd.size; omega))))
      clear hK K
      try simp only [qq]
      refine bz 16 ?_
      refine bz 17 ?_
      refine bz 18 ?_
      refine bz 19 ?_
      refine bz 20 ?_
      refine bz 21 ?_
      refine bz 22 ?_
      refine bz 23 ?_
      refine bz 24 ?_
      refine dK 25 fun K hK => ?_
      go_simp
      (with_reducible refine (dB P Q G z true Rs _).mono ?_); rintro e wC ⟨rfl, hbC⟩
      refine hK.out _ _ ?_ (fun hHeld => ?_)
      · (go_split_ands; exact hS.out _ _ (by assumption) hbC (Below.trans (Below.trans (Below.trans HD.out (jd.mono HD.out.size)) (Bu.mono (by have h5 := HD.out.size; have h6 := jd.size; omega))) (hbC.mono (by have h5 := HD.out.size; have h6 := jd.size; have h7 := Bu.size; omega))))
      clear hK K
      try simp only [qq]
      refine bz 26 ?_
      refine bz 27 ?_
      refine kT ?_
      obtain ⟨x0, x1, x2, x3, x4, x5, x6, x7, x8, fO⟩ := hHeld
      clear x0 x1 x2 x3 x4 x5 x6 x7 x8
      have HR2 : Hid (jy P Q al cl zl (k + 1) = r) := aa (by have := HST.out; simpa using this.symm)
      go_wp2
      go_roundw
      case rel => exact ⟨k + 1, by omega, by go_num, HR2, fO⟩
      case measure => simp [intOf]; omega
  ·
   obtain rfl : k = n := by omega
   obtain rfl : r = true := by
    rw [← HR.out, jy]
    have e1 : al.drop k = [] := by rw [← zK.out, List.drop_length]
    have e2 : cl.drop k = [] := by rw [← hcn.out, List.drop_length]
    have e3 : zl.drop k = [] := by rw [← hzn.out, List.drop_length]
    rw [e1, e2, e3]; rfl
   have kI := ag aM.out aG.out
   clear HR hlt
   go_wp2
   go_ret
   exact ⟨rfl, kI⟩
theorem vL (P Q G : Int) (n : Nat) (A : Option Addr) (al : List Int) (na ca : Nat) (C : Option Addr) (cl : List Int) (nc cc : Nat) (Z : Option Addr) (zl : List Int) (nz cz : Nat) (zK : Hid (al.length = na)) (hcn : Hid (cl.length = nc)) (hzn : Hid (zl.length = nz)) (hna : na < 1000000) (hnc : nc < 1000000) (hnz : nz < 1000000) (hn : n < 1000000) (hne : na ≠ n ∨ nc ≠ n ∨ nz ≠ n) (hQ : Q < 9223372036854775808) (w : World) (hv : Hid (Vars w)) (hA : Hid (Sl w A al)) (hC : Hid (Sl w C cl)) (hZ : Hid (Sl w Z zl)) :
  Calls Tryz.prog 61 #[gv P Q G, .int .i64 n, yl A na ca C nc cc Z nz cz] w (Rt w (.bool false)) := by
 by_cases h1 : na = n
 ·
  by_cases h2 : nc = n
  ·
   have h3 : nz ≠ n := by omega
   have e1 : ((na : Int) != (n : Int)) = false := by simp; omega
   have e2 : ((nc : Int) != (n : Int)) = false := by simp; omega
   have e3 : ((nz : Int) != (n : Int)) = true := by simp; omega
   clear h1 h2 h3 hne
   obtain ⟨w0, HW, aM, kC⟩ := st2 (bA P Q G) Jh (A_ A na ca C nc cc Z nz cz) Bg w
   have kV := mkV aM hv
   have kA := mkS aM hA
   have Az := mkS aM hC
   have kZ := mkS aM hZ
   have aA := jQ w0
   clear hv hA hC hZ
   go_in
   go_wp2_with fail
   rw [HW.out]
   have zc := kC.out _ aA
   have kI := aM.out
   go_wp2
   go_ret
   exact ⟨rfl, kI⟩
  ·
   have e1 : ((na : Int) != (n : Int)) = false := by simp; omega
   have e2 : ((nc : Int) != (n : Int)) = true := by simp; omega
   clear h1 h2 hne
   obtain ⟨w0, HW, aM, kC⟩ := st2 (bA P Q G) Jh (A_ A na ca C nc cc Z nz cz) Bg w
   have kV := mkV aM hv
   have kA := mkS aM hA
   have Az := mkS aM hC
   have kZ := mkS aM hZ
   have aA := jQ w0
   clear hv hA hC hZ
   go_in
   go_wp2_with fail
   rw [HW.out]
   have zc := kC.out _ aA
   have kI := aM.out
   go_wp2
   go_ret
   exact ⟨rfl, kI⟩
 ·
  have e1 : ((na : Int) != (n : Int)) = true := by simp; omega
  clear h1 hne
  obtain ⟨w0, HW, aM, kC⟩ := st2 (bA P Q G) Jh (A_ A na ca C nc cc Z nz cz) Bg w
  have kV := mkV aM hv
  have kA := mkS aM hA
  have Az := mkS aM hC
  have kZ := mkS aM hZ
  have aA := jQ w0
  clear hv hA hC hZ
  go_in
  go_wp2_with fail
  rw [HW.out]
  have zc := kC.out _ aA
  have kI := aM.out
  go_wp2
  go_ret
  exact ⟨rfl, kI⟩
theorem nG (P Q G : Int) (n : Nat) (A : Option Addr) (al : List Int) (na ca : Nat) (C : Option Addr) (cl : List Int) (nc cc : Nat) (Z : Option Addr) (zl : List Int) (nz cz : Nat) (r : Bool) (hr : Hid (j5 P Q n al cl zl = r)) (hg : Hid (aC P Q G = true)) (zK : Hid (al.length = na)) (hcn : Hid (cl.length = nc)) (hzn : Hid (zl.length = nz)) (hna : na < 1000000) (hnc : nc < 1000000) (hnz : nz < 1000000) (hn : n < 1000000) (hQ : Q < 9223372036854775808) (w : World) (hv : Hid (Vars w)) (hA : Hid (Sl w A al)) (hC : Hid (Sl w C cl)) (hZ : Hid (Sl w Z zl)) :
  Calls Tryz.prog 61 #[gv P Q G, .int .i64 n, yl A na ca C nc cc Z nz cz] w (Rt w (.bool r)) := by
 by_cases hne : na ≠ n ∨ nc ≠ n ∨ nz ≠ n
 ·
  obtain rfl : r = false := by
   rw [← hr.out, j5, zK.out, hcn.out, hzn.out]
   rcases hne with h | h | h
   · rw [decide_eq_false h, Bool.false_and]
   · rw [decide_eq_false h, Bool.false_and, Bool.and_false]
   · rw [decide_eq_false h, Bool.false_and, Bool.and_false, Bool.and_false]
  exact vL P Q G n A al na ca C cl nc cc Z zl nz cz zK hcn hzn hna hnc hnz hn hne hQ w hv hA hC hZ
 ·
  obtain ⟨h1, h2⟩ := not_or.1 hne
  obtain ⟨h2, h3⟩ := not_or.1 h2
  have h1 := Classical.not_not.1 h1
  have h2 := Classical.not_not.1 h2
  have h3 := Classical.not_not.1 h3
  subst h1
  subst h2
  subst h3
  refine yt P Q G nz A al ca C cl cc Z zl cz r (aa ?_) hg zK hcn hzn hn hQ w hv hA hC hZ
  rw [← hr.out, j5, zK.out, hcn.out, hzn.out]
  simp
theorem sl2 (w : World) (T : TypeId) (x y : Int) : Sl (w.alloc (.cells #[.int .i64 x, .int .i64 y] T)) (some ⟨w.heap.size, 0, none⟩) [x, y] := Sl.ofCells (Dw w T x y)
theorem sl2' (w : World) (o : Obj) (T : TypeId) (x y : Int) : Sl ((w.alloc o).alloc (.cells #[.int .i64 x, .int .i64 y] T)) (some ⟨w.heap.size + 1, 0, none⟩) [x, y] := by
 have e : w.heap.size + 1 = (w.alloc o).heap.size := by simp
 rw [e]
 exact sl2 _ _ _ _
theorem all2 {f : Int → Bool} {x y : Int} (h1 : f x = true) (h2 : f y = true) : [x, y].all f = true := by simp [h1, h2]
theorem pU (P Q G b y c z V : Int) (hV : Hid (gp P Q b y c z = V)) (hg : Hid (aC P Q G = true)) (hb : Hid (av P Q b = true)) (hy : Hid (av P Q y = true)) (hc : Hid (bH Q c = true)) (hz : Hid (bH Q z = true)) (w : World) (hv : Hid (Vars w)) :
  Calls Tryz.prog 57 #[gv P Q G, .int .i64 b, .int .i64 y, .int .i64 c, .int .i64 z] w (Rt w (.int .i64 V)) := by
 obtain ⟨hp2, hp, hq3, Eo⟩ := aJ hg.out
 have hc0 := je hc.out
 have hc1 := oM hc.out
 obtain ⟨e, he⟩ : ∃ e, (Q - c) % Q = e := ⟨_, rfl⟩
 have HE := aa he
 have P_ : Hid ([z, e].all (bH Q) = true) := aa (all2 hz.out (by rw [← he]; exact CL (by omega)))
 have cK : Hid ([b, y].all (av P Q) = true) := aa (all2 hb.out hy.out)
 have yU : Hid (dz P 1 [b, y] [z, e] = V) := aa (by rw [← he, rF hp2, hV.out])
 clear he
 obtain ⟨w0, HW, aM, kC⟩ := st1 (bA P Q G) Bg w
 have kV := mkV aM hv
 have aA := jQ w0
 clear hv
 go_in
 go_wp2_with fail
 rw [HW.out]
 have zc := kC.out _ aA
 have hS := aa (show ∀ u1 u2 : World, Hid (Below w0.heap.size w0 u1) → Below u1.heap.size u1 u2 → (u2.cell? ⟨w.heap.size, 0, none⟩ = some (.int .i64 P) ∧ u2.cell? ⟨w.heap.size, 1, none⟩ = some (.int .i64 Q) ∧ u2.cell? ⟨w.heap.size, 2, none⟩ = some (.int .i64 G) ∧ Hid (Below w0.heap.size w0 u2)) from fun u1 u2 h1 h2 => by
  have h3 := aa (ag h1.out h2)
  obtain ⟨y0, y1, y2⟩ := kC.out _ h3
  exact ⟨y0, y1, y2, h3⟩)
 clear zc
 go_region_held3 (fun w' => w'.cell? ⟨w.heap.size, 0, none⟩ = some (.int .i64 P) ∧ w'.cell? ⟨w.heap.size, 1, none⟩ = some (.int .i64 Q) ∧ w'.cell? ⟨w.heap.size, 2, none⟩ = some (.int .i64 G) ∧ Hid (Below w0.heap.size w0 w'))
  (first | exact hS.out _ _ aA (Below.refl _ _).drew | (go_split_ands; exact hS.out _ _ (by assumption) jd) | (go_split_ands; exact hS.out _ _ (by assumption) (af _ _)) | go_keep)
  ((first
   | (go_at_call 86; (with_reducible refine (zP P Q G c e HE hc0 hc1 (by omega) _).mono ?_); rintro e9 wA ⟨rfl, jd⟩)
   | (go_at_call 43; (with_reducible refine (ji P Q G _ [b, y] 2 2 _ [z, e] 2 V yU (aa rfl) (aa rfl) (by omega) hg cK P_ (by omega) _ ?_ ?_ ?_).mono ?_); (go_split_ands; exact kV.out _ (by assumption)); (first | exact aa ((Sl.below (w := (w0.alloc (.cells #[.int .i64 b, .int .i64 y] 3)).drew) (sl2 w0 _ b y) jd).below (af _ _)) | exact aa ((sl2 wA _ b y).below (af _ _)) | exact aa (sl2' wA _ _ b y)); (first | exact aa (sl2 wA _ z e) | exact aa (sl2' wA _ _ z e) | exact aa ((sl2 wA _ z e).below (af _ _))); rintro e9 wB ⟨rfl, jd⟩)))
 all_goals
  rename_i hHeld
  obtain ⟨x0, x1, x2, fO⟩ := hHeld
  have kI := ag aM.out fO.out
  clear x0 x1 x2
  go_wp2
  go_ret
  exact ⟨rfl, kI⟩
def qG (P Q b : Int) (ys al cl zl : List Int) (n k : Nat) : Bool := ((List.range n).drop k).all fun i => gp P Q b (ys.getD i 0) (cl.getD i 0) (zl.getD i 0) == al.getD i 0
theorem Bl {P Q b : Int} {ys al cl zl : List Int} {n k : Nat} (h : k < n) :
  qG P Q b ys al cl zl n k = ((gp P Q b (ys.getD k 0) (cl.getD k 0) (zl.getD k 0) == al.getD k 0) && qG P Q b ys al cl zl n (k + 1)) := by
 unfold qG
 rw [List.drop_eq_getElem_cons (by simpa using h), List.all_cons, List.getElem_range]
theorem DN {P Q b : Int} {ys al cl zl : List Int} {n : Nat} : qG P Q b ys al cl zl n n = true := by
 unfold qG
 rw [List.drop_eq_nil_of_le (by simp)]
 rfl
def wE (P Q b : Int) (ys al cl zl : List Int) : Bool := j5 P Q ys.length al cl zl && qG P Q b ys al cl zl ys.length 0
theorem qD (P Q G b : Int) (Y : Option Addr) (ys : List Int) (yn yc : Nat) (A : Option Addr) (al : List Int) (na ca : Nat) (C : Option Addr) (cl : List Int) (nc cc : Nat) (Z : Option Addr) (zl : List Int) (nz cz : Nat) (r : Bool) (hr : Hid (wE P Q b ys al cl zl = r)) (hg : Hid (aC P Q G = true)) (hb : Hid (av P Q b = true)) (hym : Hid (ys.all (av P Q) = true))
  (hyn : Hid (ys.length = yn)) (zK : Hid (al.length = na)) (hcn : Hid (cl.length = nc)) (hzn : Hid (zl.length = nz)) (hna : na < 1000000) (hnc : nc < 1000000) (hnz : nz < 1000000) (hyb : yn < 1000000) (w : World) (hv : Hid (Vars w)) (hY : Hid (Sl w Y ys)) (hA : Hid (Sl w A al)) (hC : Hid (Sl w C cl)) (hZ : Hid (Sl w Z zl)) :
  Calls Tryz.prog 90 #[gv P Q G, .int .i64 b, .slice Y yn yc, yl A na ca C nc cc Z nz cz] w (Rt w (.bool r)) := by
 obtain ⟨hp2, hp, hq3, Eo⟩ := aJ hg.out
 obtain ⟨fb, K8⟩ : ∃ x, j5 P Q yn al cl zl = x := ⟨_, rfl⟩
 have NJ := aa K8
 clear K8
 obtain ⟨w0, HW, aM, kC⟩ := st2 (bA P Q G) Jh (A_ A na ca C nc cc Z nz cz) Bg w
 have kV := mkV aM hv
 have kY := mkS aM hY
 have kA := mkS aM hA
 have Az := mkS aM hC
 have kZ := mkS aM hZ
 have aA := jQ w0
 clear hv hY hA hC hZ
 go_in
 go_wp2_with fail
 rw [HW.out]
 have zc := kC.out _ aA
 go_wp2_with fail
 clear zc
 refine iB kC aA (nG P Q G yn A al na ca C cl nc cc Z zl nz cz fb NJ hg zK hcn hzn hna hnc hnz hyb (by omega) _ (kV.out _ aA) (kA.out _ aA) (Az.out _ aA) (kZ.out _ aA)) fun w1 bJ zc => ?_
 clear zc
 cases fb with
 | false =>
  obtain rfl : r = false := by rw [← hr.out, wE, hyn.out, NJ.out, Bool.false_and]
  go_wp2
  go_ret
  exact ⟨rfl, gT aM bJ⟩
 | true =>
  obtain ⟨f1, f2, f3, f4, f5, f6⟩ := jA NJ.out
  have Kh := aa f5
  have Uh := aa f6
  obtain rfl : yn = na := f1.symm.trans zK.out
  obtain rfl : yn = nc := f2.symm.trans hcn.out
  obtain rfl : yn = nz := f3.symm.trans hzn.out
  have Qp : Hid (qG P Q b ys al cl zl yn 0 = r) := aa (by rw [← hr.out, wE, hyn.out, NJ.out, Bool.true_and])
  clear f1 f2 f3 f4 f5 f6
  go_wp2
  go_loopw [19] (fun i wr => ∃ k : Nat, k ≤ yn ∧ i = .int .i64 k ∧ Hid (qG P Q b ys al cl zl yn k = r) ∧ Hid (Below w0.heap.size w0 wr)) (fun i _ => yn - (intOf i).toNat)
  case atStart => exact ⟨0, by omega, rfl, Qp, bJ⟩
  case round =>
   obtain ⟨k, hk, rfl, HR, aG⟩ := hrel
   obtain ⟨wo, rfl⟩ : ∃ wo : World, wo = wr := ⟨_, rfl⟩
   by_cases hlt : k < yn
   ·
    have h0 : k < ys.length := by rw [hyn.out]; exact hlt
    have h1 : k < al.length := by rw [zK.out]; exact hlt
    have h2 : k < cl.length := by rw [hcn.out]; exact hlt
    have h3 : k < zl.length := by rw [hzn.out]; exact hlt
    obtain ⟨b0, o0, e0, hi0⟩ := (kY.out _ aG).out k h0
    obtain ⟨b1, o1, e1, hi1⟩ := (kA.out _ aG).out k h1
    obtain ⟨b2, o2, e2, hi2⟩ := (Az.out _ aG).out k h2
    obtain ⟨b3, o3, e3, hi3⟩ := (kZ.out _ aG).out k h3
    subst e0
    subst e1
    subst e2
    subst e3
    have hst := Bl (P := P) (Q := Q) (b := b) (ys := ys) (al := al) (cl := cl) (zl := zl) hlt
    rw [HR.out] at hst
    have Ol := iV hym.out h0
    have hsc := iV Kh.out h2
    have hsz := iV Uh.out h3
    obtain ⟨y, hy⟩ : ∃ x, ys.getD k 0 = x := ⟨_, rfl⟩
    obtain ⟨a, ha⟩ : ∃ x, al.getD k 0 = x := ⟨_, rfl⟩
    obtain ⟨c, hc⟩ : ∃ x, cl.getD k 0 = x := ⟨_, rfl⟩
    obtain ⟨z, hz⟩ : ∃ x, zl.getD k 0 = x := ⟨_, rfl⟩
    rw [hy] at hi0 Ol hst
    rw [ha] at hi1 hst
    rw [hc] at hi2 hsc hst
    rw [hz] at hi3 hsz hst
    have hc0 := je hsc
    have hc1 := oM hsc
    obtain ⟨e, he⟩ : ∃ e, (Q - c) % Q = e := ⟨_, rfl⟩
    have HE := aa he
    have P_ : Hid ([z, e].all (bH Q) = true) := aa (all2 hsz (by rw [← he]; exact CL (by omega)))
    have cK : Hid ([b, y].all (av P Q) = true) := aa (all2 hb.out Ol)
    obtain ⟨t, ht⟩ : ∃ t, (gp P Q b y c z == a) = t := ⟨_, rfl⟩
    have yU : Hid ((dz P 1 [b, y] [z, e] == a) = t) := aa (by rw [← he, rF hp2, ht])
    rw [ht] at hst
    have HST := aa hst
    have PV := aa hi0
    have NH := aa hi1
    have HJ2 := aa hi2
    have sZ := aa hi3
    clear he ht hst Ol hsc hsz hy ha hc hz h0 h1 h2 h3 HR
    have hS := aa (show ∀ u1 u2 : World, (Hid (Below w0.heap.size w0 u1) ∧ Hid (Below wo.heap.size wo u1)) → Below u1.heap.size u1 u2 → (u2.cell? ⟨w.heap.size, 0, none⟩ = some (.int .i64 P) ∧ u2.cell? ⟨w.heap.size, 1, none⟩ = some (.int .i64 Q) ∧ u2.cell? ⟨w.heap.size, 2, none⟩ = some (.int .i64 G) ∧ u2.cell? ⟨w.heap.size + 1, 0, none⟩ = some (.slice (some ⟨b1, o1, none⟩) yn ca) ∧ u2.cell? ⟨w.heap.size + 1, 1, none⟩ = some (.slice (some ⟨b2, o2, none⟩) yn cc) ∧ u2.cell? ⟨w.heap.size + 1, 2, none⟩ = some (.slice (some ⟨b3, o3, none⟩) yn cz) ∧ u2.cell? ⟨b1, o1 + k, none⟩ = some (.int .i64 a) ∧ u2.cell? ⟨b2, o2 + k, none⟩ = some (.int .i64 c) ∧ u2.cell? ⟨b3, o3 + k, none⟩ = some (.int .i64 z) ∧ Hid (Below w0.heap.size w0 u2) ∧ Hid (Below wo.heap.size wo u2)) from fun u1 u2 h4 h5 => by
     have h7 := aa (ag h4.1.out h5)
     have h8 := aa (ag h4.2.out h5)
     obtain ⟨y0, y1, y2, y3, y4, y5⟩ := kC.out _ h7
     exact ⟨y0, y1, y2, y3, y4, y5, cell_below NH.out h8.out, cell_below HJ2.out h8.out, cell_below sZ.out h8.out, h7, h8⟩)
    have HDR : Hid (Below wo.heap.size wo wo) := aa (Below.refl _ _)
    clear hi1 hi2 hi3
    go_wp2
    clear hi0
    go_region_held3 (fun w' => w'.cell? ⟨w.heap.size, 0, none⟩ = some (.int .i64 P) ∧ w'.cell? ⟨w.heap.size, 1, none⟩ = some (.int .i64 Q) ∧ w'.cell? ⟨w.heap.size, 2, none⟩ = some (.int .i64 G) ∧ w'.cell? ⟨w.heap.size + 1, 0, none⟩ = some (.slice (some ⟨b1, o1, none⟩) yn ca) ∧ w'.cell? ⟨w.heap.size + 1, 1, none⟩ = some (.slice (some ⟨b2, o2, none⟩) yn cc) ∧ w'.cell? ⟨w.heap.size + 1, 2, none⟩ = some (.slice (some ⟨b3, o3, none⟩) yn cz) ∧ w'.cell? ⟨b1, o1 + k, none⟩ = some (.int .i64 a) ∧ w'.cell? ⟨b2, o2 + k, none⟩ = some (.int .i64 c) ∧ w'.cell? ⟨b3, o3 + k, none⟩ = some (.int .i64 z) ∧ Hid (Below w0.heap.size w0 w') ∧ Hid (Below wo.heap.size wo w'))
     (first | exact hS.out _ _ ⟨aG, HDR⟩ (Below.refl _ _).drew | (go_split_ands; exact hS.out _ _ ⟨by assumption, by assumption⟩ jd) | (go_split_ands; exact hS.out _ _ ⟨by assumption, by assumption⟩ (af _ _)) | go_keep)
     ((first
      | (go_at_call 86; (with_reducible refine (zP P Q G c e HE hc0 hc1 (by omega) _).mono ?_); rintro e9 wA ⟨rfl, jd⟩)
      | (go_at_call 55; (with_reducible refine (qV P Q G a _ [b, y] 2 2 _ [z, e] 2 t yU (aa rfl) (aa rfl) (by omega) hg cK P_ (by omega) _ ?_ ?_ ?_).mono ?_); (go_split_ands; exact kV.out _ (by assumption)); (first | exact aa ((Sl.below (w := (wo.alloc (.cells #[.int .i64 b, .int .i64 y] 3)).drew) (sl2 wo _ b y) jd).below (af _ _)) | exact aa ((sl2 wA _ b y).below (af _ _)) | exact aa (sl2' wA _ _ b y)); (first | exact aa (sl2 wA _ z e) | exact aa (sl2' wA _ _ z e) | exact aa ((sl2 wA _ z e).below (af _ _))); rintro e9 wB ⟨rfl, jd⟩)))
    all_goals
     rename_i hHeld
     obtain ⟨x0, x1, x2, x3, x4, x5, x6, x7, x8, fO, _⟩ := hHeld
     clear x0 x1 x2 x3 x4 x5 x6 x7 x8
     cases t with
     | false =>
      obtain rfl : r = false := HST.out.trans (by simp)
      have kI := ag aM.out fO.out
      go_wp2
      go_ret
      exact ⟨rfl, kI⟩
     | true =>
      have HR2 : Hid (qG P Q b ys al cl zl yn (k + 1) = r) := aa (by have := HST.out; simpa using this.symm)
      go_wp2
      go_roundw
      case rel => exact ⟨k + 1, by omega, by go_num, HR2, fO⟩
      case measure => simp [intOf]; omega
   ·
    obtain rfl : k = yn := by omega
    obtain rfl : r = true := HR.out.symm.trans DN
    have kI := ag aM.out aG.out
    clear HR hlt
    go_wp2
    go_ret
    exact ⟨rfl, kI⟩
def iP (P Q G b : Int) (ys : List Int) (c : Int) (al cl zl : List Int) : Bool := (iJ P Q G b ys == 0) && (bH Q c && (wE P Q b ys al cl zl && (gW Q 0 cl == c)))
theorem vQ (P Q G b : Int) (Y : Option Addr) (ys : List Int) (yn yc : Nat) (c : Int) (A : Option Addr) (al : List Int) (na ca : Nat) (C : Option Addr) (cl : List Int) (nc cc : Nat) (Z : Option Addr) (zl : List Int) (nz cz : Nat) (r : Bool) (hr : Hid (iP P Q G b ys c al cl zl = r)) (hyn : Hid (ys.length = yn)) (hyb : yn < 1000000) (zK : Hid (al.length = na)) (hcn : Hid (cl.length = nc)) (hzn : Hid (zl.length = nz)) (hna : na < 1000000) (hnc : nc < 1000000) (hnz : nz < 1000000) (hQ : Q < 9223372036854775808)
  (w : World) (hv : Hid (Vars w)) (hY : Hid (Sl w Y ys)) (hA : Hid (Sl w A al)) (hC : Hid (Sl w C cl)) (hZ : Hid (Sl w Z zl)) :
  Calls Tryz.prog 62 #[gv P Q G, .int .i64 b, .slice Y yn yc, .int .i64 c, yl A na ca C nc cc Z nz cz] w (Rt w (.bool r)) := by
 obtain ⟨g, hg⟩ : ∃ g, iJ P Q G b ys = g := ⟨_, rfl⟩
 obtain ⟨sb, hsb⟩ : ∃ x, bH Q c = x := ⟨_, rfl⟩
 obtain ⟨ab, hab⟩ : ∃ x, wE P Q b ys al cl zl = x := ⟨_, rfl⟩
 obtain ⟨V, hV⟩ : ∃ x, gW Q 0 cl = x := ⟨_, rfl⟩
 obtain ⟨t, ht⟩ : ∃ x, (V == c) = x := ⟨_, rfl⟩
 have HG := aa hg
 have Nw := aa hsb
 have JR := aa hab
 have Uz := aa hV
 have Uu := aa ht
 have HRR : Hid (((g == 0) && (sb && (ab && t))) = r) := aa (by rw [← hr.out, iP, hg, hsb, hab, hV, ht])
 clear hg hsb hab hV ht
 obtain ⟨w0, HW, aM, kC⟩ := st2 (bA P Q G) Jh (A_ A na ca C nc cc Z nz cz) Bg w
 have kV := mkV aM hv
 have kY := mkS aM hY
 have kA := mkS aM hA
 have Az := mkS aM hC
 have kZ := mkS aM hZ
 have aA := jQ w0
 clear hv hY hA hC hZ
 go_in
 go_wp2_with fail
 rw [HW.out]
 have zc := kC.out _ aA
 go_wp2_with fail
 clear zc
 refine iB kC aA (kM P Q G b Y ys yn yc g HG hyn hyb hQ _ (kV.out _ aA) (kY.out _ aA)) fun w1 bJ zc => ?_
 cases hgz : g == 0 with
 | false =>
  obtain rfl : r = false := HRR.out.symm.trans (by rw [hgz]; rfl)
  go_wp2
  go_ret
  exact ⟨rfl, gT aM bJ⟩
 | true =>
  obtain rfl : g = 0 := by simpa using hgz
  obtain ⟨g1, g2, g3, g4, g5⟩ := xN HG.out
  obtain ⟨hp2, hp, hq3, Eo⟩ := aJ g1
  have sU := aa g1
  have UM := aa g4
  have UK := aa g5
  clear g1 g2 g3 g4 g5 hgz
  go_wp2_with fail
  clear zc
  refine iB kC bJ (dB P Q G c sb Nw _) fun w2 bM zc => ?_
  cases sb with
  | false =>
   obtain rfl : r = false := HRR.out.symm.trans (by simp)
   go_wp2
   go_ret
   exact ⟨rfl, gT aM bM⟩
  | true =>
   go_wp2_with fail
   clear zc
   refine iB kC bM (qD P Q G b Y ys yn yc A al na ca C cl nc cc Z zl nz cz ab JR sU UM UK hyn zK hcn hzn hna hnc hnz hyb _ (kV.out _ bM) (kY.out _ bM) (kA.out _ bM) (Az.out _ bM) (kZ.out _ bM)) fun w3 eT zc => ?_
   cases ab with
   | false =>
    obtain rfl : r = false := HRR.out.symm.trans (by simp)
    go_wp2
    go_ret
    exact ⟨rfl, gT aM eT⟩
   | true =>
    have Kh : Hid (cl.all (bH Q) = true) := aa (jA (by have h9 := JR.out; rw [wE, Bool.and_eq_true] at h9; exact h9.1)).2.2.2.2.1
    go_wp2_with fail
    clear zc
    refine iB kC eT (zO P Q G C cl nc cc V Uz hcn hnc Kh (by omega) (by omega) _ (Az.out _ eT)) fun w4 wM zc => ?_
    have Tm := Uu.out
    obtain rfl : r = t := HRR.out.symm.trans (by simp)
    go_wp2
    go_ret
    exact ⟨by first | rfl | rw [Tm], gT aM wM⟩
theorem o_ {h : List Int} {q m : Int} : ∀ (k : Nat) (c x : Int), c + k ≤ 1099511627776 → (fE h q m k c x).2.2 = false ∧ (fE h q m k c x).2.1 ≤ c + k
 | 0, c, x, hc => ⟨rfl, by show c ≤ c + 0; omega⟩
 | k + 1, c, x, hc => by
  simp only [fE]
  rw [if_neg (show ¬ c = 1099511627776 by omega)]
  by_cases hy : bits BinOp.and IntKind.u64 (iL (ja h c)) m < q
  · rw [if_pos hy]; exact ⟨rfl, by show c + 1 ≤ c + ((k + 1 : Nat) : Int); omega⟩
  ·
   rw [if_neg hy]
   have h1 := o_ (h := h) (q := q) (m := m) k (c + 1) (bits BinOp.and IntKind.u64 (iL (ja h c)) m) (by omega)
   exact ⟨h1.1, by omega⟩
def tL (h : List Int) (q c : Int) : Int := (fE h q (gI q) 256 c 0).1
def qB (h : List Int) (q c : Int) : Int := (fE h q (gI q) 256 c 0).2.1
theorem Dp {h : List Int} {q c : Int} (hc : c + 256 ≤ 1099511627776) : fE h q (gI q) 256 c 0 = (tL h q c, qB h q c, false) := by
 have h1 := (o_ (h := h) (q := q) (m := gI q) 256 c 0 (by omega)).1
 rw [tL, qB, ← h1]
theorem gN {h : List Int} {q c : Int} (hq : 1 ≤ q) : 0 ≤ tL h q c ∧ tL h q c < q := zD hq 256 c 0 (Int.le_refl 0)
theorem kK {h : List Int} {q c : Int} (hc : c + 256 ≤ 1099511627776) : c < qB h q c ∧ qB h q c ≤ c + 256 :=
 ⟨Ay (by omega) (Dp hc), (o_ (h := h) (q := q) (m := gI q) 256 c 0 (by omega)).2⟩
def iQ (h : List Int) (q c : Int) (wh : Nat) : Nat → Int
 | 0 => c
 | i + 1 => if i = wh then qB h q (iQ h q c wh i) else qB h q (qB h q (iQ h q c wh i))
theorem pV {h : List Int} {q c : Int} {wh : Nat} : ∀ i : Nat, c + 512 * i ≤ 1099511627776 → c ≤ iQ h q c wh i ∧ iQ h q c wh i ≤ c + 512 * i
 | 0, _ => ⟨Int.le_refl _, by show c ≤ c + 512 * 0; omega⟩
 | i + 1, hc => by
  obtain ⟨a, b⟩ := pV (h := h) (q := q) (c := c) (wh := wh) i (by omega)
  have d1 := kK (h := h) (q := q) (c := iQ h q c wh i) (by omega)
  have d2 := kK (h := h) (q := q) (c := qB h q (iQ h q c wh i)) (by omega)
  rw [iQ]
  by_cases e : i = wh
  · rw [if_pos e]; omega
  · rw [if_neg e]; omega
def tO (h : List Int) (q c : Int) (wh i : Nat) : Int := if i = wh then 0 else tL h q (iQ h q c wh i)
def tN (h : List Int) (q c : Int) (wh i : Nat) : Int := if i = wh then 0 else tL h q (qB h q (iQ h q c wh i))
def Es (h : List Int) (q c : Int) (wh : Nat) : Int := tL h q (iQ h q c wh wh)
def Jb (P Q b : Int) (ys : List Int) (h : List Int) (c : Int) (wh i : Nat) : Int :=
 if i = wh then gp P Q b (ys.getD i 0) 0 (Es h Q c wh) else gp P Q b (ys.getD i 0) (tO h Q c wh i) (tN h Q c wh i)
def qE (P Q b : Int) (ys : List Int) (h : List Int) (c : Int) (wh n : Nat) : List Int := (List.range n).map (Jb P Q b ys h c wh)
def vR (h : List Int) (q c : Int) (wh n : Nat) : List Int := (List.range n).map (tO h q c wh)
def GG (h : List Int) (q c : Int) (wh n : Nat) : List Int := (List.range n).map (tN h q c wh)
def mW (h : List Int) (q c : Int) (wh n : Nat) (ch : Int) : Int := (ch - gW q 0 (vR h q c wh n)) % q
def rR (h : List Int) (q c : Int) (wh n : Nat) (ch x : Int) : Int := (Es h q c wh + mW h q c wh n ch * x % q) % q
theorem DC {h : List Int} {q c : Int} {wh i : Nat} (hq : 1 ≤ q) : bH q (tO h q c wh i) = true := by
 rw [tO]
 by_cases e : i = wh
 · rw [if_pos e]; simp [bH]; omega
 · rw [if_neg e]; have := gN (h := h) (q := q) (c := iQ h q c wh i) hq; simp [bH]; omega
theorem Dy {h : List Int} {q c : Int} {wh i : Nat} (hq : 1 ≤ q) : bH q (tN h q c wh i) = true := by
 rw [tN]
 by_cases e : i = wh
 · rw [if_pos e]; simp [bH]; omega
 · rw [if_neg e]; have := gN (h := h) (q := q) (c := qB h q (iQ h q c wh i)) hq; simp [bH]; omega
theorem jO {P Q b y c z : Int} (hP : 2 ≤ P) (hQ : 1 ≤ Q) (hb : av P Q b = true) (hy : av P Q y = true) (hz : 0 ≤ z) : av P Q (gp P Q b y c z) = true :=
 jI hP hQ (fI hP hQ hz hb) (fI hP hQ (Int.emod_nonneg _ (by omega)) hy)
theorem Dq {P Q b x k cc : Int} (hP : 2 ≤ P) (hQ : 1 ≤ Q) (hb : av P Q b = true) (x0 : 0 ≤ x) (k0 : 0 ≤ k) (c0 : 0 ≤ cc) : gp P Q b (pw b x P) cc ((k + cc * x % Q) % Q) = gp P Q b (pw b x P) 0 k := by
 have hm : av P Q (pw b x P) = true := fI hP hQ x0 hb
 have n1 : 0 ≤ (Q - cc) % Q := Int.emod_nonneg _ (by omega)
 have n2 : 0 ≤ (k + cc * x % Q) % Q := Int.emod_nonneg _ (by omega)
 rw [gp, gp, qR b x _ P x0 n1, Int.sub_zero, Int.emod_self, lG _ P hP, Int.mul_one, ← rZ b _ _ P n2 (Int.mul_nonneg x0 n1), bV b k P, Int.emod_emod_of_dvd _ (Int.dvd_refl P), ← bV]
 refine rY hP hQ hb (Int.add_nonneg n2 (Int.mul_nonneg x0 n1)) k0 ?_
 apply Int.emod_eq_emod_iff_emod_sub_eq_zero.2
 apply Int.emod_eq_zero_of_dvd
 have e1 := Int.emod_add_mul_ediv (k + cc * x % Q) Q
 have e2 := Int.emod_add_mul_ediv (cc * x) Q
 have e3 := Int.emod_add_mul_ediv (Q - cc) Q
 refine ⟨x - (k + cc * x % Q) / Q - cc * x / Q - x * ((Q - cc) / Q), ?_⟩
 generalize (k + cc * x % Q) / Q = u1 at *
 generalize (k + cc * x % Q) % Q = v1 at *
 generalize cc * x / Q = u2 at *
 generalize cc * x % Q = v2 at *
 generalize (Q - cc) / Q = u3 at *
 generalize (Q - cc) % Q = v3 at *
 grind
theorem BZ {Q x : Int} (h : 1 ≤ Q) : bH Q (x % Q) = true := by
 have h1 := Int.emod_nonneg x (show Q ≠ 0 by omega)
 have h2 := Int.emod_lt_of_pos x (show 0 < Q by omega)
 simp [bH]; omega
theorem rG {P Q G b y0 y1 ch A0 A1 C0 C1 Z0 Z1 : Int} (eg : iJ P Q G b [y0, y1] = 0) (hc : bH Q ch = true) (a0 : av P Q A0 = true) (a1 : av P Q A1 = true) (c0 : bH Q C0 = true) (c1 : bH Q C1 = true) (z0 : bH Q Z0 = true) (z1 : bH Q Z1 = true) (e0 : gp P Q b y0 C0 Z0 = A0) (e1 : gp P Q b y1 C1 Z1 = A1) (es : gW Q 0 [C0, C1] = ch) :
  iP P Q G b [y0, y1] ch [A0, A1] [C0, C1] [Z0, Z1] = true := by
 have hf : j5 P Q 2 [A0, A1] [C0, C1] [Z0, Z1] = true := by simp [j5, jy, a0, a1, c0, c1, z0, z1]
 have hl : qG P Q b [y0, y1] [A0, A1] [C0, C1] [Z0, Z1] 2 0 = true := by
  show ((gp P Q b y0 C0 Z0 == A0) && ((gp P Q b y1 C1 Z1 == A1) && true)) = true
  rw [e0, e1]
  simp
 rw [iP, eg, hc, es, wE, show ([y0, y1] : List Int).length = 2 from rfl, hf, hl]
 simp
theorem BM {Q a c : Int} (hQ : 1 ≤ Q) (c0 : 0 ≤ c) (c1 : c < Q) : gW Q 0 [(c - gW Q 0 [0, a]) % Q, a] = c := by
 show ((0 + (c - ((0 + 0) % Q + a) % Q) % Q) % Q + a) % Q = c
 rw [Int.zero_add, Int.zero_add, Int.zero_emod, Int.zero_add, Int.emod_emod_of_dvd _ (Int.dvd_refl Q), Int.emod_add_emod]
 have h1 := Int.emod_add_mul_ediv a Q
 rw [show c - a % Q + a = c + Q * (a / Q) by omega, Int.add_mul_emod_self_left, Int.emod_eq_of_lt c0 c1]
theorem Ag {Q a c : Int} (hQ : 1 ≤ Q) (c0 : 0 ≤ c) (c1 : c < Q) : gW Q 0 [a, (c - gW Q 0 [a, 0]) % Q] = c := by
 show ((0 + a) % Q + (c - ((0 + a) % Q + 0) % Q) % Q) % Q = c
 rw [Int.zero_add, Int.add_zero, Int.emod_emod_of_dvd _ (Int.dvd_refl Q), Int.add_comm, Int.emod_add_emod, Int.sub_add_cancel, Int.emod_eq_of_lt c0 c1]
theorem qC {P Q G b y0 y1 x ch : Int} {h : List Int} {c : Int} {wh : Nat} (hv : aC P Q G = true) (hb : av P Q b = true) (h0 : av P Q y0 = true) (h1 : av P Q y1 = true) (hw : wh < 2) (x0 : 0 ≤ x) (hx : [y0, y1].getD wh 0 = pw b x P) (c0 : 0 ≤ ch) (c1 : ch < Q) :
  iP P Q G b [y0, y1] ch (qE P Q b [y0, y1] h c wh 2) ((vR h Q c wh 2).set wh (mW h Q c wh 2 ch)) ((GG h Q c wh 2).set wh (rR h Q c wh 2 ch x)) = true := by
 obtain ⟨hP, hP2, Nc, De⟩ := aJ hv
 have hQ : 1 ≤ Q := by omega
 have k0 := (gN (h := h) (q := Q) (c := iQ h Q c wh wh) hQ).1
 have eg : iJ P Q G b [y0, y1] = 0 := FI hv (by simp) (by simp) hb (by simp [h0, h1])
 have hch : bH Q ch = true := by simp [bH]; omega
 have f0 : 0 ≤ mW h Q c wh 2 ch := Int.emod_nonneg _ (by omega)
 have GD := Dq (cc := mW h Q c wh 2 ch) (k := Es h Q c wh) hP hQ hb x0 k0 f0
 have sf : bH Q (mW h Q c wh 2 ch) = true := BZ hQ
 have sz : bH Q (rR h Q c wh 2 ch x) = true := BZ hQ
 obtain rfl | rfl : wh = 0 ∨ wh = 1 := by omega
 ·
  have hy : y0 = pw b x P := hx
  have s1 := DC (h := h) (c := c) (wh := 0) (i := 1) hQ
  have s2 := Dy (h := h) (c := c) (wh := 0) (i := 1) hQ
  refine rG (A0 := gp P Q b y0 0 (Es h Q c 0)) (A1 := gp P Q b y1 (tO h Q c 0 1) (tN h Q c 0 1)) (C0 := mW h Q c 0 2 ch) (C1 := tO h Q c 0 1) (Z0 := rR h Q c 0 2 ch x) (Z1 := tN h Q c 0 1) eg hch (jO hP hQ hb h0 k0) (jO hP hQ hb h1 (je s2)) sf s1 sz s2 ?_ rfl ?_
  · rw [hy]; exact GD
  · exact BM hQ c0 c1
 ·
  have hy : y1 = pw b x P := hx
  have s1 := DC (h := h) (c := c) (wh := 1) (i := 0) hQ
  have s2 := Dy (h := h) (c := c) (wh := 1) (i := 0) hQ
  refine rG (A0 := gp P Q b y0 (tO h Q c 1 0) (tN h Q c 1 0)) (A1 := gp P Q b y1 0 (Es h Q c 1)) (C0 := tO h Q c 1 0) (C1 := mW h Q c 1 2 ch) (Z0 := tN h Q c 1 0) (Z1 := rR h Q c 1 2 ch x) eg hch (jO hP hQ hb h0 (je s2)) (jO hP hQ hb h1 k0) s1 sf s2 sz rfl ?_ ?_
  · rw [hy]; exact GD
  · exact Ag hQ c0 c1
def BV (C : Array Value) : Nat → List Value → Array Value
 | _, [] => C
 | o, v :: r => BV (C.setIfInBounds o v) (o + 1) r
theorem ru {b : Nat} {T : TypeId} : ∀ (vs : List Value) (o : Nat) (w : World) (C : Array Value), w.heap[b]? = some (.cells C T (0, 0)) → (w.setCells b o vs).heap[b]? = some (.cells (BV C o vs) T (0, 0))
 | [], _, _, _, h => h
 | v :: r, o, w, C, h => ru r (o + 1) _ _ (heap_setCell_same w b o _ _ v h)
theorem uo : ∀ (vs old pre post : List Value), old.length = vs.length → BV (pre ++ old ++ post).toArray pre.length vs = (pre ++ vs ++ post).toArray
 | [], [], pre, post, _ => rfl
 | v :: r, x :: old, pre, post, h => by
  have h2 := uo r old (pre ++ [v]) post (by simpa using h)
  rw [BV]
  have e : (pre ++ x :: old ++ post).toArray.setIfInBounds pre.length v = (pre ++ [v] ++ old ++ post).toArray := by
   apply Array.ext'
   simp [List.set_append]
  rw [e]
  simpa using h2
def wN (h : List Int) (c q e : Int) : Array Value := arr .u8 h ++ #[.int .i64 c, .int .i64 q, .int .i64 e]
theorem w_ (h : List Int) (c q e : Int) : wN h c q e = (([] : List Value) ++ (ak h c).toList ++ [Value.int .i64 q, Value.int .i64 e]).toArray := by
 apply Array.ext'
 simp [wN, ak]
theorem EY {h h' : List Int} {c c' q e : Int} (hl : h.length = 32) (hl' : h'.length = 32) : BV (wN h c q e) 0 (ak h' c').toList = wN h' c' q e := by
 rw [w_, w_]
 exact uo (ak h' c').toList (ak h c).toList [] [.int .i64 q, .int .i64 e] (by rw [Array.length_toList, Array.length_toList, aH hl hl'])
theorem Cu {h : List Int} {c q e : Int} (hl : h.length = 32) : (wN h c q e).size = 35 := by simp [wN, aK, hl]
theorem Cv {h : List Int} {c q e : Int} (hl : h.length = 32) : (wN h c q e)[32]? = some (.int .i64 c) ∧ (wN h c q e)[33]? = some (.int .i64 q) ∧ (wN h c q e)[34]? = some (.int .i64 e) := by
 refine ⟨?_, ?_, ?_⟩ <;> rw [wN, Array.getElem?_append_right (by rw [aK, hl]; decide), aK, hl] <;> rfl
theorem Aq {h : List Int} {c q e : Int} (hl : h.length = 32) (x : Int) : (wN h c q e).setIfInBounds 34 (.int .i64 x) = wN h c q x := by
 apply Array.ext'
 simp [wN, arr, List.set_append, hl]
def m_ (w : World) (b : Nat) (h : List Int) (c q e : Int) : Prop := w.heap[b]? = some (.cells (wN h c q e) 96 (0, 0))
section
variable {w w' : World} {b : Nat} {h : List Int} {c q e : Int}
theorem m_.lt (H : m_ w b h c q e) : b < w.heap.size := (Array.getElem?_eq_some_iff.1 H).1
theorem m_.below (H : m_ w b h c q e) (hb : Below w.heap.size w w') : m_ w' b h c q e := (hb.block b H.lt).trans H
theorem m_.range (H : m_ w b h c q e) (hl : h.length = 32) : w.rangeAt b 0 (ak h c).toList := fun j v hj => by
 rw [Nat.zero_add, aj H, w_, ← hj, List.getElem?_toArray, List.nil_append, List.getElem?_append_left (List.getElem?_eq_some_iff.1 hj).1]
theorem m_.there (H : m_ w b h c q e) (hl : h.length = 32) : w.there b 0 33 := fun j hj => by
 refine ⟨?_, by rw [Nat.zero_add]; exact aP H j⟩
 rw [Nat.zero_add, aj H, Array.getElem?_eq_getElem (by rw [Cu hl]; omega)]
 rfl
theorem m_.cq (H : m_ w b h c q e) (hl : h.length = 32) : Own w ⟨b, 33, none⟩ (.int .i64 q) := ⟨(aj H 33).trans (Cv hl).2.1, aP H 33⟩
theorem m_.ce (H : m_ w b h c q e) (hl : h.length = 32) : Own w ⟨b, 34, none⟩ (.int .i64 e) := ⟨(aj H 34).trans (Cv hl).2.2, aP H 34⟩
theorem m_.put (H : m_ w b h c q e) (hl : h.length = 32) {h' : List Int} {c' : Int} (hl' : h'.length = 32) : m_ (w.setCells b 0 (ak h' c').toList) b h' c' q e := by
 have h2 := ru (ak h' c').toList 0 w _ H
 rw [EY hl hl'] at h2
 exact h2
theorem m_.setE (H : m_ w b h c q e) (hl : h.length = 32) (x : Int) : m_ (w.setCell ⟨b, 34, none⟩ (.int .i64 x)) b h c q x := by
 unfold m_
 rw [heap_setCell_same w b 34 _ _ _ H, Aq hl]
end
theorem nD {w w1 : World} {b : Nat} (h : w.grownBy w1 (some b)) : ∀ (vs : List Value) (o : Nat), w.grownBy (w1.setCells b o vs) (some b) := fun vs => by
 induction vs generalizing w1 with
 | nil => exact fun _ => h
 | cons v r ih => exact fun o => ih (dZ h (aZ b o v)) (o + 1)
theorem gB {P : Program} {S : World → Prop} {o : Oper} {a : Act} (ty : TypeId) (x : Operand) (ho : o.op = .load ty x)
  (b f : Nat) (hx : a.eval x = .pointer (some ⟨b, f, none⟩)) (cs : List Value) (d : TypeDesc) (hS : ∀ w, S w → w.rangeAt b f cs)
  (hu : P.underlying ty = some d) (hd : d.isRow = true) (hi : (P.info? ty).map (·.size) = some cs.length) :
  ∀ w, S w → (execOp a.eval o).run P w = .ok (.value (.agg cs.toArray)) w := fun w hw => by
 unfold execOp
 simp only [ho, hx, Instr.loadAt, Instr.sureAddr, Sem.run_bind, Sem.run_pure, Result.andThen_ok, run_loadVar_mid w b f ty cs d (hS w hw) hu hd hi]
theorem oL (h : List Int) (hl : Hid (h.length = 32)) (hb : Hid (au h = true)) (c q : Int) (hc0 : 0 ≤ c) (hc1 : c + 256 ≤ 1099511627776) (hq1 : 1 ≤ q) (hq2 : q < 2305843009213693952) (b : Nat) (w : World) (hv : Hid (bu w)) (hS : Hid (m_ w b h c q 0)) :
  Calls Tryz.prog 56 #[.pointer (some ⟨b, 0, none⟩)] w fun e w' => e = .returned (.int .i64 (tL h q c)) ∧ m_ w' b h (qB h q c) q 0 ∧ w.grownBy w' (some b) := by
 have hdr : Hid (nS c = true) := aa (by simp [nS]; omega)
 have HN : Kp (fE h q (gI q) 256 c 0 = (tL h q c, qB h q c, false)) := ⟨Dp hc1⟩
 obtain ⟨n, hn⟩ : ∃ n, tL h q c = n := ⟨_, rfl⟩
 obtain ⟨rc, hrc⟩ : ∃ n, qB h q c = n := ⟨_, rfl⟩
 rw [hn, hrc] at HN ⊢
 clear hn hrc
 obtain ⟨q1, q2⟩ := hS.out.cq hl.out
 obtain ⟨e1, e2⟩ := hS.out.ce hl.out
 have hO : Hid (∀ u : World, Hid (Below w.heap.size w u) → (u.cell? ⟨b, 33, none⟩ = some (.int .i64 q) ∧ u.cell? ⟨b, 34, none⟩ = some (.int .i64 0))) := aa (fun u hu => ⟨((hS.out.below hu.out).cq hl.out).1, ((hS.out.below hu.out).ce hl.out).1⟩)
 go_in
 go_upto_region 3 with (fail)
 clear q1 q2 e1 e2
 refine uB [] (jQ w) (fun hHeld => ?_)
 refine dY 0 ?_
 refine dY 1 ?_
 refine dY 2 ?_
 refine ql 3 (.agg (ak h c)) rfl (gB 29 _ rfl b 0 rfl (ak h c).toList _ (fun u hu => (hS.out.below hu.out).range hl.out) Tryz.underlying29 rfl (lX hl.out)) ?_
 refine dN 4 5 6 7 ?_
 refine rU (i1 := 8) (i2 := 13) (by kernel_rfl) rfl rfl (fun K hK => ?_) (fun K hK => ?_)
 ·
  go_simp
  refine (mR h hl hb c hdr q hq1 hq2 n rc false HN h rc 0 (aa rfl) hl _ (aa (hv.out.below hHeld.out))).mono ?_
  rintro e w1 ⟨rfl, hb1⟩
  rw [show Hf h rc n 0 = .tuple #[.agg (ak h rc), .int .i64 n, .int .i64 0] from rfl]
  have hs1 := hb1.size
  have hs0 := hHeld.out.size
  refine hK.out _ _ (vT hHeld hb1) (fun hHeld => ?_)
  clear hK K
  refine dN 9 10 11 12 ?_
  refine dK 13 fun K hK => ?_
  go_simp
  have hb2 := af w1 (.cells #[.int .u8 0, .int .u8 0, .int .u8 0, .int .u8 0, .int .u8 0, .int .u8 0, .int .u8 0, .int .u8 0, .int .u8 0, .int .u8 0, .int .u8 0, .int .u8 0, .int .u8 0, .int .u8 0, .int .u8 0, .int .u8 0, .int .u8 0, .int .u8 0, .int .u8 0, .int .u8 0, .int .u8 0, .int .u8 0, .int .u8 0, .int .u8 0, .int .u8 0, .int .u8 0, .int .u8 0, .int .u8 0, .int .u8 0, .int .u8 0, .int .u8 0, .int .u8 0, .int .i64 0] 29)
  have hd2 : aD (w1.alloc (.cells #[.int .u8 0, .int .u8 0, .int .u8 0, .int .u8 0, .int .u8 0, .int .u8 0, .int .u8 0, .int .u8 0, .int .u8 0, .int .u8 0, .int .u8 0, .int .u8 0, .int .u8 0, .int .u8 0, .int .u8 0, .int .u8 0, .int .u8 0, .int .u8 0, .int .u8 0, .int .u8 0, .int .u8 0, .int .u8 0, .int .u8 0, .int .u8 0, .int .u8 0, .int .u8 0, .int .u8 0, .int .u8 0, .int .u8 0, .int .u8 0, .int .u8 0, .int .u8 0, .int .i64 0] 29)) w1.heap.size (aR 32) 0 := by rw [nO]; exact aD.new w1 (aR 32) 0
  have JI := aa hd2
  refine hK.out _ _ (vT hHeld hb2) (fun hHeld => ?_)
  clear hK K hd2 hb2
  obtain ⟨GB, Nh⟩ : ∃ g, g = w1.heap.size := ⟨_, rfl⟩
  obtain ⟨U, hU⟩ : ∃ u, u = w1.alloc (.cells #[.int .u8 0, .int .u8 0, .int .u8 0, .int .u8 0, .int .u8 0, .int .u8 0, .int .u8 0, .int .u8 0, .int .u8 0, .int .u8 0, .int .u8 0, .int .u8 0, .int .u8 0, .int .u8 0, .int .u8 0, .int .u8 0, .int .u8 0, .int .u8 0, .int .u8 0, .int .u8 0, .int .u8 0, .int .u8 0, .int .u8 0, .int .u8 0, .int .u8 0, .int .u8 0, .int .u8 0, .int .u8 0, .int .u8 0, .int .u8 0, .int .u8 0, .int .u8 0, .int .i64 0] 29) := ⟨_, rfl⟩
  rw [← hU] at hHeld
  rw [← Nh, ← hU] at JI
  rw [← Nh, ← hU]
  have hgb : w.heap.size ≤ GB := by rw [Nh]; exact by omega
  clear hU
  refine dK 14 fun K hK => ?_
  rw [show (if Region.wanted _ _ = true then _ else _ : Prop) = _ from if_pos rfl]
  refine wp_store_row 29 _ _ rfl GB (ak h rc) rfl rfl 29 _ JI.out (ai hl.out) (aH rfl hl.out) (ay _ _) ?_
  refine hK.out _ _ (aa (ah hHeld.out hgb)) (fun hHeld => ?_)
  clear hK K
  have Ee : Hid (aD (U.setRow GB (ak h rc)) GB h rc) := aa JI.out.setRow
  refine dY 15 ?_
  refine dY 16 ?_
  refine kT ?_
  clear hO
  obtain ⟨U3, Ll⟩ : ∃ u, U.setRow GB (ak h rc) = u := ⟨_, rfl⟩
  rw [Ll] at Ee hHeld ⊢
  have rM := aa (hS.out.below hHeld.out)
  have Mc := aa (rM.out.put hl.out (h' := h) (c' := rc) hl.out)
  have wK := aa (nD (b := b) (d_ hHeld.out (some b)) (ak h rc).toList 0)
  obtain ⟨p1, p2⟩ := Mc.out.ce hl.out
  have PE := aa (Mc.out.setE hl.out 0)
  have P7 := aa (dZ wK.out (aZ b 34 (.int .i64 0)))
  clear Ll Nh
  go_wp2_with (first
   | ((with_reducible show wpList _ _ _ (⟨some 26, _, _, _, _, _⟩ :: _) _ _); refine wpList_load_row rfl 29 _ rfl GB rfl _ _ _ _ Ee.out Tryz.underlying29 rfl (ai hl.out) ?_)
   | ((with_reducible show wpList _ _ _ (⟨none, Op.store _ (Operand.tmp 29) _, _, _, _, _⟩ :: _) _ _); refine wpList_store_mid rfl 29 _ _ rfl b 0 (ak h rc) rfl rfl (by rw [fQ hl.out]; exact rM.out.there hl.out) (ai hl.out) (ay _ _) ?_))
  go_ret
  exact ⟨rfl, PE.out, P7.out⟩
 ·
  go_simp
  have hb2 := af w.drew (.cells #[.int .u8 0, .int .u8 0, .int .u8 0, .int .u8 0, .int .u8 0, .int .u8 0, .int .u8 0, .int .u8 0, .int .u8 0, .int .u8 0, .int .u8 0, .int .u8 0, .int .u8 0, .int .u8 0, .int .u8 0, .int .u8 0, .int .u8 0, .int .u8 0, .int .u8 0, .int .u8 0, .int .u8 0, .int .u8 0, .int .u8 0, .int .u8 0, .int .u8 0, .int .u8 0, .int .u8 0, .int .u8 0, .int .u8 0, .int .u8 0, .int .u8 0, .int .u8 0, .int .i64 0] 29)
  have hd2 : aD (w.drew.alloc (.cells #[.int .u8 0, .int .u8 0, .int .u8 0, .int .u8 0, .int .u8 0, .int .u8 0, .int .u8 0, .int .u8 0, .int .u8 0, .int .u8 0, .int .u8 0, .int .u8 0, .int .u8 0, .int .u8 0, .int .u8 0, .int .u8 0, .int .u8 0, .int .u8 0, .int .u8 0, .int .u8 0, .int .u8 0, .int .u8 0, .int .u8 0, .int .u8 0, .int .u8 0, .int .u8 0, .int .u8 0, .int .u8 0, .int .u8 0, .int .u8 0, .int .u8 0, .int .u8 0, .int .i64 0] 29)) w.heap.size (aR 32) 0 := by rw [nO]; exact aD.new w.drew (aR 32) 0
  have hs0 := hHeld.out.size
  refine hK.out _ _ (vT hHeld hb2) (fun hHeld => ?_)
  clear hK K
  refine dK 8 fun K hK => ?_
  go_simp
  refine (mR h hl hb c hdr q hq1 hq2 n rc false HN h rc 0 (aa rfl) hl _ (aa (hv.out.below hHeld.out))).mono ?_
  rintro e w1 ⟨rfl, hb1⟩
  rw [show Hf h rc n 0 = .tuple #[.agg (ak h rc), .int .i64 n, .int .i64 0] from rfl]
  have JI := aa (hd2.below hb1)
  refine hK.out _ _ (vT hHeld hb1) (fun hHeld => ?_)
  clear hK K hd2 hb2
  refine dN 9 10 11 12 ?_
  obtain ⟨U, hU⟩ : ∃ u, u = w1 := ⟨_, rfl⟩
  rw [← hU] at hHeld
  rw [← hU] at JI
  rw [← hU]
  have hgb : w.heap.size ≤ w.heap.size := by exact Nat.le_refl _
  clear hU
  refine dK 14 fun K hK => ?_
  rw [show (if Region.wanted _ _ = true then _ else _ : Prop) = _ from if_pos rfl]
  refine wp_store_row 29 _ _ rfl w.heap.size (ak h rc) rfl rfl 29 _ JI.out (ai hl.out) (aH rfl hl.out) (ay _ _) ?_
  refine hK.out _ _ (aa (ah hHeld.out hgb)) (fun hHeld => ?_)
  clear hK K
  have Ee : Hid (aD (U.setRow w.heap.size (ak h rc)) w.heap.size h rc) := aa JI.out.setRow
  refine dY 15 ?_
  refine dY 16 ?_
  refine kT ?_
  clear hO
  obtain ⟨U3, Ll⟩ : ∃ u, U.setRow w.heap.size (ak h rc) = u := ⟨_, rfl⟩
  rw [Ll] at Ee hHeld ⊢
  have rM := aa (hS.out.below hHeld.out)
  have Mc := aa (rM.out.put hl.out (h' := h) (c' := rc) hl.out)
  have UC := aa (nD (b := b) (d_ hHeld.out (some b)) (ak h rc).toList 0)
  obtain ⟨p1, p2⟩ := Mc.out.ce hl.out
  have PE := aa (Mc.out.setE hl.out 0)
  have Px := aa (dZ UC.out (aZ b 34 (.int .i64 0)))
  clear Ll
  go_wp2_with (first
   | ((with_reducible show wpList _ _ _ (⟨some 26, _, _, _, _, _⟩ :: _) _ _); refine wpList_load_row rfl 29 _ rfl w.heap.size rfl _ _ _ _ Ee.out Tryz.underlying29 rfl (ai hl.out) ?_)
   | ((with_reducible show wpList _ _ _ (⟨none, Op.store _ (Operand.tmp 29) _, _, _, _, _⟩ :: _) _ _); refine wpList_store_mid rfl 29 _ _ rfl b 0 (ak h rc) rfl rfl (by rw [fQ hl.out]; exact rM.out.there hl.out) (ai hl.out) (ay _ _) ?_))
  go_ret
  exact ⟨rfl, PE.out, Px.out⟩
theorem iH {w : World} {p : Addr} {v : Value} {a : Nat} {cs : Array Value} (h : Own w p v) (hne : p.block ≠ a) : Own (w.setRow a cs) p v := by
 have hb := setRow_other w a p.block cs hne
 exact ⟨(World.cell?_of_block hb).trans h.1, by
  have h2 := h.2
  simp only [World.frozen?] at h2 ⊢
  rw [hb]
  exact h2⟩
def xC (l : List Int) : Prop := l.length ≤ 1000 ∧ ∀ x ∈ l, -9223372036854775808 ≤ x ∧ x < 9223372036854775808
theorem xC.fits {l : List Int} (h : xC l) : Hid (fits 7 (.lst (l.map .int))) := aa (by
 refine ⟨by rw [List.length_map]; exact h.1, fun x hx => ?_⟩
 obtain ⟨y, hy, rfl⟩ := List.mem_map.1 hx
 exact h.2 y hy)
theorem AV (l : List Int) : (eF (l.map .int)).length = 9 * l.length := by
 induction l with
 | nil => rfl
 | cons x l ih => rw [List.map_cons, eF, List.length_append, ih, om, List.length_cons, fo, List.length_cons]; omega
theorem xC.len {l : List Int} (h : xC l) : Hid ((enc (.lst (l.map .int))).length ≤ 14000) := aa (by
 rw [iN, List.length_cons, List.length_append, iU, AV]
 have := h.1
 omega)
def jc (h s l : List Int) : List Int := Eu h s (.lst (l.map .int))
theorem DR (h s l : List Int) : (jc h s l).length = 32 := mo _ _ _
theorem yN (h s l : List Int) : au (jc h s l) = true := gY _
def lM : ByteArray := { data := #[103, 114, 111, 117, 112] }
def uS : ByteArray := { data := #[99, 104, 97, 108, 108, 101, 110, 103, 101] }
theorem CX : Hid (cZ (aO lM) = true) := aa (by kernel_rfl)
theorem KD : Hid (cZ (aO uS) = true) := aa (by kernel_rfl)
def yO (h : List Int) : Prop := h.length = 32 ∧ au h = true
theorem wW (h s l : List Int) : yO (jc h s l) := ⟨DR _ _ _, yN _ _ _⟩
theorem BQ (l : List Int) : yO (newL l) := ⟨dO _ _, gY _⟩
def Ew (W : World) (a : Nat) (h : List Int) (c : Int) (x : Int) (u : World) : Prop := bX u a h c ∧ Own u ⟨a + 1, 0, none⟩ (.int .i64 x) ∧ Below W.heap.size W u
theorem Ew.alloc {W : World} {a : Nat} {h : List Int} {c x : Int} {u : World} (hI : Ew W a h c x u) (o : Obj) : Ew W a h c x (u.alloc o) :=
 ⟨hI.1.below (af _ _), hI.2.1.below (af _ _), ag hI.2.2 (af _ _)⟩
theorem Ew.below {W : World} {a : Nat} {h : List Int} {c x : Int} {u u' : World} (hI : Ew W a h c x u) (hb : Below u.heap.size u u') : Ew W a h c x u' :=
 ⟨hI.1.below hb, hI.2.1.below hb, ag hI.2.2 hb⟩
theorem FQ (w : World) (T : TypeId) (a b c : Int) : Cells (w.alloc (.cells #[.int .i64 a, .int .i64 b, .int .i64 c] T)) w.heap.size [a, b, c] := by
 intro k hk
 rw [World.cell?_alloc_at _ _ _ _ rfl]
 match k, hk with
 | 0, _ => rfl
 | 1, _ => rfl
 | 2, _ => rfl
theorem Ae {w1 : World} {S0 : List Int} {c x : Int} (hl : S0.length = 32) :
  Ew w1 w1.heap.size S0 c x ((((w1.alloc (.cells #[.int .u8 0, .int .u8 0, .int .u8 0, .int .u8 0, .int .u8 0, .int .u8 0, .int .u8 0, .int .u8 0, .int .u8 0, .int .u8 0, .int .u8 0, .int .u8 0, .int .u8 0, .int .u8 0, .int .u8 0, .int .u8 0, .int .u8 0, .int .u8 0, .int .u8 0, .int .u8 0, .int .u8 0, .int .u8 0, .int .u8 0, .int .u8 0, .int .u8 0, .int .u8 0, .int .u8 0, .int .u8 0, .int .u8 0, .int .u8 0, .int .u8 0, .int .u8 0, .int .i64 0] 90)).alloc (.cells #[.int .i64 0] 34)).setRow w1.heap.size (ak S0 c)).setCell ⟨w1.heap.size + 1, 0, none⟩ (.int .i64 x)) := by
 have hT : bX ((w1.alloc (.cells #[.int .u8 0, .int .u8 0, .int .u8 0, .int .u8 0, .int .u8 0, .int .u8 0, .int .u8 0, .int .u8 0, .int .u8 0, .int .u8 0, .int .u8 0, .int .u8 0, .int .u8 0, .int .u8 0, .int .u8 0, .int .u8 0, .int .u8 0, .int .u8 0, .int .u8 0, .int .u8 0, .int .u8 0, .int .u8 0, .int .u8 0, .int .u8 0, .int .u8 0, .int .u8 0, .int .u8 0, .int .u8 0, .int .u8 0, .int .u8 0, .int .u8 0, .int .u8 0, .int .i64 0] 90)).alloc (.cells #[.int .i64 0] 34)) w1.heap.size (aR 32) 0 := by rw [nO]; exact heap_alloc2_old _ _ _
 have hE : Own ((w1.alloc (.cells #[.int .u8 0, .int .u8 0, .int .u8 0, .int .u8 0, .int .u8 0, .int .u8 0, .int .u8 0, .int .u8 0, .int .u8 0, .int .u8 0, .int .u8 0, .int .u8 0, .int .u8 0, .int .u8 0, .int .u8 0, .int .u8 0, .int .u8 0, .int .u8 0, .int .u8 0, .int .u8 0, .int .u8 0, .int .u8 0, .int .u8 0, .int .u8 0, .int .u8 0, .int .u8 0, .int .u8 0, .int .u8 0, .int .u8 0, .int .u8 0, .int .u8 0, .int .u8 0, .int .i64 0] 90)).alloc (.cells #[.int .i64 0] 34)) ⟨w1.heap.size + 1, 0, none⟩ (.int .i64 0) := ⟨aj (heap_alloc2_new _ _ _) 0, aP (heap_alloc2_new _ _ _) 0⟩
 have hb : Below w1.heap.size w1 ((w1.alloc (.cells #[.int .u8 0, .int .u8 0, .int .u8 0, .int .u8 0, .int .u8 0, .int .u8 0, .int .u8 0, .int .u8 0, .int .u8 0, .int .u8 0, .int .u8 0, .int .u8 0, .int .u8 0, .int .u8 0, .int .u8 0, .int .u8 0, .int .u8 0, .int .u8 0, .int .u8 0, .int .u8 0, .int .u8 0, .int .u8 0, .int .u8 0, .int .u8 0, .int .u8 0, .int .u8 0, .int .u8 0, .int .u8 0, .int .u8 0, .int .u8 0, .int .u8 0, .int .u8 0, .int .i64 0] 90)).alloc (.cells #[.int .i64 0] 34)) := aB (Below.refl _ _)
 refine ⟨(heap_setCell_other _ _ _ _ (show w1.heap.size ≠ w1.heap.size + 1 by omega)).trans hT.setRow, gG (iH hE (show w1.heap.size + 1 ≠ w1.heap.size by omega)), (ah hb (Nat.le_refl _)).setCell (Nat.le_succ _) _⟩
theorem yB (h : List Int) (hl : Hid (h.length = 32)) (hb : Hid (au h = true)) (c : Int) (hc0 : 0 ≤ c) (hc1 : c < 1000) (s : ByteArray) (hs : s.size ≤ 1000) (hr : Hid (cZ (aO s) = true)) (A : Option Addr) (l : List Int) (n cA : Nat) (hn : Hid (l.length = n)) (hok : Hid (xC l)) (a e0 B : Nat) (w : World) (hv : Hid (bu w)) (hS : Hid (Sl w A l))
  (hT : Hid (bX w a h c)) (hE : Hid (Own w ⟨e0, 0, none⟩ (.int .i64 0))) (hne : e0 ≠ a) (hBa : B ≤ a) (TT : B ≤ e0) :
  Calls Tryz.prog 87 #[.string s, .slice A n cA, .pointer (some ⟨e0, 0, none⟩), .pointer (some ⟨a, 0, none⟩)] w fun e w' => (∃ v, e = .returned v) ∧ bX w' a (jc h (aO s) l) (c + 1) ∧ Own w' ⟨e0, 0, none⟩ (.int .i64 0) ∧ Below B w w' := by
 have hbig : n ≤ 1000 := by rw [← hn.out]; exact hok.out.1
 have HF := hok.out.fits
 have wI := hok.out.len
 obtain ⟨hc, hf⟩ := hE.out
 have U4 : Hid (B ≤ w.heap.size) := aa (by have := hT.out.lt; omega)
 go_in
 go_wp2_with ((with_reducible show wpList _ _ _ (⟨some 9, _, _, _, _, _⟩ :: _) _ _); refine wpList_load_row rfl 90 _ rfl a rfl _ _ _ _ hT.out Tryz.underlying90 rfl (aY hl.out) ?_)
 refine (BI h hl hb c hc0 hc1 s hs hr A l n cA hn hbig _ hv hS HF wI).mono ?_
 rintro e w1 ⟨rfl, hb1⟩
 have HT1 := aa (hT.out.below hb1)
 have MB := aa (hE.out.below hb1)
 have HB1 : Hid (Below B w w1) := aa (hb1.mono U4.out)
 obtain ⟨R, hR⟩ : ∃ R, Eu h (aO s) (.lst (l.map .int)) = R := ⟨_, rfl⟩
 have hRl : R.length = 32 := by rw [← hR]; exact mo _ _ _
 have HN : Kp (jc h (aO s) l = R) := ⟨hR⟩
 have gy := aa hRl
 rw [hR, show DT R (c + 1) 0 = .tuple #[.agg (ak R (c + 1)), .int .i64 0] from rfl]
 have HE2 := aa (iH (cs := ak R (c + 1)) MB.out (show (⟨e0, 0, none⟩ : Addr).block ≠ a from hne))
 clear hb1 hc hf hR hRl
 obtain ⟨q1, q2⟩ := HE2.out
 go_wp2_with ((with_reducible show wpList _ _ _ (⟨none, _, _, _, _, _⟩ :: _) _ _); refine wpList_store_row rfl 90 _ _ rfl a (ak R (c + 1)) rfl rfl _ _ HT1.out (aY gy.out) (aH hl.out gy.out) (ay _ _) ?_)
 have HT2 : Hid (bX (w1.setRow a (ak R (c + 1))) a R (c + 1)) := aa HT1.out.setRow
 have Q6 : bX ((w1.setRow a (ak R (c + 1))).setCell ⟨e0, 0, none⟩ (.int .i64 0)) a R (c + 1) := (heap_setCell_other _ _ _ _ (Ne.symm hne)).trans HT2.out
 have TR := gG (u := .int .i64 0) HE2.out
 have hB3 : Below B w ((w1.setRow a (ak R (c + 1))).setCell ⟨e0, 0, none⟩ (.int .i64 0)) := (ah HB1.out hBa).setCell TT _
 go_end0
 exact ⟨⟨_, rfl⟩, by rw [HN.out]; exact Q6, TR, hB3⟩
theorem kN (W : World) (a : Nat) (hWa : W.heap.size ≤ a) (h : List Int) (hst : Hid (yO h)) (c : Int) (hc0 : 0 ≤ c) (hc1 : c < 1000) (s : ByteArray) (hs : s.size ≤ 1000) (hr : Hid (cZ (aO s) = true)) (A : Option Addr) (l : List Int) (n cA : Nat) (hn : Hid (l.length = n)) (hok : Hid (xC l)) (u : World) (hv : Hid (bu W)) (hS : Hid (Sl u A l)) (hI : Hid (Ew W a h c 0 u)) :
  Calls Tryz.prog 87 #[.string s, .slice A n cA, .pointer (some ⟨a + 1, 0, none⟩), .pointer (some ⟨a, 0, none⟩)] u fun e u' => (∃ v, e = .returned v) ∧ Ew W a (jc h (aO s) l) (c + 1) 0 u' := by
 refine (yB h (aa hst.out.1) (aa hst.out.2) c hc0 hc1 s hs hr A l n cA hn hok a (a + 1) a u (aa (hv.out.below hI.out.2.2)) hS (aa hI.out.1) (aa hI.out.2.1) (by omega) (Nat.le_refl _) (by omega)).mono ?_
 rintro e u' ⟨he, hT, hE, hb⟩
 exact ⟨he, hT, hE, hI.out.2.2.trans (hb.mono hWa)⟩
def mO : ByteArray := { data := #[115, 116, 97, 116, 101, 109, 101, 110, 116] }
def pE : ByteArray := { data := #[99, 111, 109, 109, 105, 116, 109, 101, 110, 116] }
theorem Fj : Hid (cZ (aO mO) = true) := aa (by kernel_rfl)
theorem Ig : Hid (cZ (aO pE) = true) := aa (by kernel_rfl)
def nE (P Q G b : Int) (lb : List Int) (ys al : List Int) : Int :=
 Dr Q (jc (jc (jc (newL lb) (aO lM) [P, Q, G]) (aO mO) (b :: ys)) (aO pE) al) (aO uS)
theorem vK {P Q G b : Int} (hq : 1 ≤ Q) (lb ys al : List Int) : 0 ≤ nE P Q G b lb ys al ∧ nE P Q G b lb ys al < Q := I4 hq _ _
theorem vP (P Q G b : Int) (Y : Option Addr) (ys : List Int) (yn yc : Nat) (A : Option Addr) (al : List Int) (na ca : Nat) (s : ByteArray) (hs : s.size ≤ 1000) (hr : Hid (cZ (aO s) = true))
  (hyn : Hid (ys.length = yn)) (hy1 : 1 ≤ yn) (hyb : yn ≤ 100) (hna : Hid (al.length = na)) (JX : Hid (xC [P, Q, G])) (JW : Hid (xC (b :: ys))) (JY : Hid (xC al))
  (Q_ : 2 ≤ Q) (Q9 : Q < 2305843009213693952) (V : Int) (hV : Kp (nE P Q G b (aO s) ys al = V)) (w : World) (hv : Hid (bu w)) (hY : Hid (Sl w Y ys)) (hA : Hid (Sl w A al)) :
  Calls Tryz.prog 58 #[gv P Q G, .int .i64 b, .slice Y yn yc, .string s, .slice A na ca] w (Rt w (.tuple #[.int .i64 V, .bool true])) := by
 obtain ⟨W, hW⟩ : ∃ W, w.alloc (bA P Q G) = W := ⟨_, rfl⟩
 have cK : Hid (Below w.heap.size w W) := aa (by rw [← hW]; exact af _ _)
 have Sm : Hid (kR W w.heap.size P Q G) := aa (by rw [← hW]; exact bD w P Q G)
 have HV := aa (hv.out.below cK.out)
 have Rw := aa (hY.out.below cK.out)
 have U7 := aa (hA.out.below cK.out)
 have HW := aa hW
 obtain ⟨i0, hi, hz0, hz1, hz2⟩ := info_parts jM
 clear hW hv hY hA
 go_in
 go_upto_region 1 with (fail)
 rw [HW.out]
 clear HW
 go_wp2_with fail
 refine (zi s hs hr _ HV).mono ?_
 rintro e w1 ⟨rfl, hb1⟩
 obtain ⟨S0, hS0⟩ : ∃ S, newL (aO s) = S := ⟨_, rfl⟩
 have F7 : Hid (yO S0) := aa (by rw [← hS0]; exact BQ _)
 have sV : Kp (Dr Q (jc (jc (jc S0 (aO lM) [P, Q, G]) (aO mO) (b :: ys)) (aO pE) al) (aO uS) = V) := ⟨by rw [← hS0]; exact hV.1⟩
 rw [hS0, show DT S0 0 0 = .tuple #[.agg (ak S0 0), .int .i64 0] from rfl]
 have HB1 := aa hb1
 have Kc := aa F7.out.1
 clear hb1 hS0 hV
 have LJ : Hid (bX ((w1.alloc (.cells #[.int .u8 0, .int .u8 0, .int .u8 0, .int .u8 0, .int .u8 0, .int .u8 0, .int .u8 0, .int .u8 0, .int .u8 0, .int .u8 0, .int .u8 0, .int .u8 0, .int .u8 0, .int .u8 0, .int .u8 0, .int .u8 0, .int .u8 0, .int .u8 0, .int .u8 0, .int .u8 0, .int .u8 0, .int .u8 0, .int .u8 0, .int .u8 0, .int .u8 0, .int .u8 0, .int .u8 0, .int .u8 0, .int .u8 0, .int .u8 0, .int .u8 0, .int .u8 0, .int .i64 0] 90)).alloc (.cells #[.int .i64 0] 34)) w1.heap.size (aR 32) 0) := aa (by rw [nO]; exact heap_alloc2_old _ _ _)
 have Sv : Hid (Own ((w1.alloc (.cells #[.int .u8 0, .int .u8 0, .int .u8 0, .int .u8 0, .int .u8 0, .int .u8 0, .int .u8 0, .int .u8 0, .int .u8 0, .int .u8 0, .int .u8 0, .int .u8 0, .int .u8 0, .int .u8 0, .int .u8 0, .int .u8 0, .int .u8 0, .int .u8 0, .int .u8 0, .int .u8 0, .int .u8 0, .int .u8 0, .int .u8 0, .int .u8 0, .int .u8 0, .int .u8 0, .int .u8 0, .int .u8 0, .int .u8 0, .int .u8 0, .int .u8 0, .int .u8 0, .int .i64 0] 90)).alloc (.cells #[.int .i64 0] 34)) ⟨w1.heap.size + 1, 0, none⟩ (.int .i64 0)) := aa ⟨aj (heap_alloc2_new _ _ _) 0, aP (heap_alloc2_new _ _ _) 0⟩
 have Sw := aa (iH (a := w1.heap.size) (cs := ak S0 0) Sv.out (show w1.heap.size + 1 ≠ w1.heap.size by omega))
 obtain ⟨q1, q2⟩ := Sw.out
 go_upto_region 2 with ((with_reducible show wpList _ _ _ (⟨none, _, _, _, _, _⟩ :: _) _ _); refine wpList_store_row rfl 90 _ _ rfl w1.heap.size (ak S0 0) rfl rfl _ _ LJ.out (aY Kc.out) (aH (h := aR 32) (c := 0) rfl Kc.out) (ay _ _) ?_)
 clear q1 q2 LJ Sv Sw
 have hI2 := Ae (w1 := w1) (c := 0) (x := 0) Kc.out
 obtain ⟨W2, hW2⟩ : ∃ u, ((((w1.alloc (.cells #[.int .u8 0, .int .u8 0, .int .u8 0, .int .u8 0, .int .u8 0, .int .u8 0, .int .u8 0, .int .u8 0, .int .u8 0, .int .u8 0, .int .u8 0, .int .u8 0, .int .u8 0, .int .u8 0, .int .u8 0, .int .u8 0, .int .u8 0, .int .u8 0, .int .u8 0, .int .u8 0, .int .u8 0, .int .u8 0, .int .u8 0, .int .u8 0, .int .u8 0, .int .u8 0, .int .u8 0, .int .u8 0, .int .u8 0, .int .u8 0, .int .u8 0, .int .u8 0, .int .i64 0] 90)).alloc (.cells #[.int .i64 0] 34)).setRow w1.heap.size (ak S0 0)).setCell ⟨w1.heap.size + 1, 0, none⟩ (.int .i64 0)) = u := ⟨_, rfl⟩
 rw [hW2] at hI2 ⊢
 obtain ⟨a, ha⟩ : ∃ a, w1.heap.size = a := ⟨_, rfl⟩
 have hWa : W.heap.size ≤ a := by rw [← ha]; exact HB1.out.size
 have Lm : Ew W a S0 0 0 W2 := ⟨by rw [← ha]; exact hI2.1, by rw [← ha]; exact hI2.2.1, ag HB1.out hI2.2.2⟩
 rw [ha]
 have HI2 := aa Lm
 clear hW2 hI2 Lm ha HB1
 obtain ⟨c0, c1, c2⟩ := Sm.out.below HI2.out.2.2
 go_wp2_with fail
 refine (kN W a hWa S0 F7 0 (by omega) (by omega) lM (by decide) CX (some ⟨W2.heap.size, 0, none⟩) [P, Q, G] 3 3 (aa rfl) JX _ HV (aa (fA (FQ W2 _ P Q G))) (aa (HI2.out.alloc _))).mono ?_
 rintro e w3 ⟨⟨v3, rfl⟩, OO⟩
 clear c0 c1 c2 HI2
 obtain ⟨S1, hS1⟩ : ∃ S, jc S0 (aO lM) [P, Q, G] = S := ⟨_, rfl⟩
 have z_ : Hid (yO S1) := aa (by rw [← hS1]; exact wW _ _ _)
 have jV : Kp (Dr Q (jc (jc S1 (aO mO) (b :: ys)) (aO pE) al) (aO uS) = V) := ⟨by rw [← hS1]; exact sV.1⟩
 rw [hS1] at OO
 have HI3 := aa OO
 clear OO hS1 sV
 have NZ := hyn.out
 obtain ⟨yb, yo, IM, _⟩ := (Rw.out.below HI3.out.2.2) 0 (by omega)
 have Rv : Hid (Sk .i64 w3 (some ⟨yb, yo, none⟩) ys) := aa (by rw [← IM]; exact Rw.out.below HI3.out.2.2)
 rw [IM]
 have hrow : (w3.alloc (.cells #[.int .i64 b] 3)).ownsRow w3.heap.size 3 1 (.slice (some ⟨w3.heap.size, 0, none⟩) 1 1) 1 [.int .i64 b] := ⟨rfl, .inr ⟨w3.heap.size, 1, #[.int .i64 b], rfl, Nat.le_refl _, heap_alloc_new _ _, by omega, by unfold maxLen; omega, rfl, rfl⟩⟩
 have RV := aa hrow
 have C_ : (w3.alloc (.cells #[.int .i64 b] 3)).heap.size = w3.heap.size + 1 := by simp
 clear hrow
 go_wp2_with (at_builtin; refine _root_.Go.wpList_append_lies _ rfl _ _ 37 rfl w3.heap.size 3 i0 (.int .i64 0) 1 8 Tryz.underlying37 hi hz0 hz1 hz2 rfl (by decide) (.slice (some ⟨w3.heap.size, 0, none⟩) 1 1) 1 [.int .i64 b] rfl RV.out ⟨yb, yo, none⟩ yn yc (ys.map (Value.int .i64)) rfl (by rw [List.length_map]; omega) ((Rv.out.below (af _ _)).news) (ints_oneCell .i64 ys) (by omega) (by unfold maxLen; omega) (by omega) (by omega) (w3.heap.size + 1) (by simp) ?_; intro gs cs w9 nC jv AL Db)
 have ry : Below w3.heap.size w3 w9 := ((Below.refl w3.heap.size w3).alloc (Nat.le_refl _) (.cells #[.int .i64 b] 3)).grown jv (by simp) (fun j hj => by simp [Value.ownBlock] at hj; omega)
 have Nw : Hid (Sl w9 (some ⟨gs, 0, none⟩) (b :: ys)) := aa (by
  have ho : sQ w9 w3.heap.size (.slice (some ⟨gs, 0, none⟩) (1 + yn) cs) (b :: ys) := by
   unfold sQ
   rw [show (b :: ys).length = 1 + yn by rw [List.length_cons]; omega]
   exact nC
  obtain ⟨g, cap, he, _, hcl⟩ := ho.cells (by simp)
  injection he with he1
  injection he1 with he1
  injection he1 with he1
  subst he1
  exact fA hcl)
 have wJ := aa (HI3.out.below ry)
 have hlen : Hid ((b :: ys).length = 1 + yn) := aa (by rw [List.length_cons]; omega)
 clear nC jv AL Db ry RV C_ HI3 Rv NZ
 refine (kN W a hWa S1 z_ (0 + 1) (by omega) (by omega) mO (by decide) Fj (some ⟨gs, 0, none⟩) (b :: ys) (1 + yn) cs hlen JW _ HV Nw wJ).mono ?_
 rintro e w4 ⟨⟨v4, rfl⟩, J5⟩
 obtain ⟨S2, hS2⟩ : ∃ S, jc S1 (aO mO) (b :: ys) = S := ⟨_, rfl⟩
 have HS2 : Hid (yO S2) := aa (by rw [← hS2]; exact wW _ _ _)
 have qd : Kp (Dr Q (jc S2 (aO pE) al) (aO uS) = V) := ⟨by rw [← hS2]; exact jV.1⟩
 rw [hS2] at J5
 have HI4 := aa J5
 clear J5 hS2 jV wJ Nw
 go_wp2_with fail
 refine (kN W a hWa S2 HS2 (0 + 1 + 1) (by omega) (by omega) pE (by decide) Ig A al na ca hna JY _ HV (aa (U7.out.below HI4.out.2.2)) HI4).mono ?_
 rintro e w6 ⟨⟨v6, rfl⟩, Ng⟩
 obtain ⟨cc, hcc⟩ : ∃ c : Int, (0 + 1 + 1 + 1 : Int) = c := ⟨_, rfl⟩
 rw [hcc] at Ng
 have TC : 0 ≤ cc ∧ cc < 900 := by omega
 clear hcc
 obtain ⟨S4, IP⟩ : ∃ S', jc S2 (aO pE) al = S' := ⟨_, rfl⟩
 have wH : Hid (yO S4) := aa (by rw [← IP]; exact wW _ _ _)
 have HV5 : Kp (Dr Q S4 (aO uS) = V) := ⟨by rw [← IP]; exact qd.1⟩
 rw [IP] at Ng
 have tu := aa Ng
 have Sa := aa wH.out.1
 clear Ng IP qd HI4
 obtain ⟨z0, z1⟩ := tu.out.2.1
 obtain ⟨c0, c1, c2⟩ := Sm.out.below tu.out.2.2
 have J8 := aa tu.out.1
 go_wp2_with ((with_reducible show wpList _ _ _ (⟨some 44, _, _, _, _, _⟩ :: _) _ _); refine wpList_load_row rfl 90 _ rfl a rfl _ _ _ _ J8.out Tryz.underlying90 rfl (aY Sa.out) ?_)
 refine (BJ S4 Sa (aa wH.out.2) cc (by omega) (by omega) uS (by decide) KD Q Q_ Q9 _ (aa (HV.out.below tu.out.2.2))).mono ?_
 rintro e w7 ⟨rfl, rz⟩
 obtain ⟨G4, hG4⟩ : ∃ G4, Nn Q S4 (aO uS) = G4 := ⟨_, rfl⟩
 have Mt : Hid (G4.length = 32) := aa (by rw [← hG4]; exact mo _ _ _)
 rw [hG4, HV5.1, show Hf G4 (cc + 1) V 0 = .tuple #[.agg (ak G4 (cc + 1)), .int .i64 V, .int .i64 0] from rfl]
 have tq := aa (tu.out.below rz)
 obtain ⟨y0, y1⟩ := tq.out.2.1
 clear rz hG4 z0 z1 c0 c1 c2
 have RN : Hid (bX (w7.alloc (.cells #[.int .u8 0, .int .u8 0, .int .u8 0, .int .u8 0, .int .u8 0, .int .u8 0, .int .u8 0, .int .u8 0, .int .u8 0, .int .u8 0, .int .u8 0, .int .u8 0, .int .u8 0, .int .u8 0, .int .u8 0, .int .u8 0, .int .u8 0, .int .u8 0, .int .u8 0, .int .u8 0, .int .u8 0, .int .u8 0, .int .u8 0, .int .u8 0, .int .u8 0, .int .u8 0, .int .u8 0, .int .u8 0, .int .u8 0, .int .u8 0, .int .u8 0, .int .u8 0, .int .i64 0] 90)) w7.heap.size (aR 32) 0) := aa (by rw [nO]; exact heap_alloc_new _ _)
 have P9 := aa (iH (a := w7.heap.size) (cs := ak G4 (cc + 1)) (tq.out.2.1.below (af w7 (.cells #[.int .u8 0, .int .u8 0, .int .u8 0, .int .u8 0, .int .u8 0, .int .u8 0, .int .u8 0, .int .u8 0, .int .u8 0, .int .u8 0, .int .u8 0, .int .u8 0, .int .u8 0, .int .u8 0, .int .u8 0, .int .u8 0, .int .u8 0, .int .u8 0, .int .u8 0, .int .u8 0, .int .u8 0, .int .u8 0, .int .u8 0, .int .u8 0, .int .u8 0, .int .u8 0, .int .u8 0, .int .u8 0, .int .u8 0, .int .u8 0, .int .u8 0, .int .u8 0, .int .i64 0] 90))) (show a + 1 ≠ w7.heap.size by have := tq.out.1.lt; have := World.block_lt_of_cell? _ _ y0; simp at this; omega))
 obtain ⟨x0, x1⟩ := P9.out
 go_wp2_with ((with_reducible show wpList _ _ _ (⟨none, _, _, _, _, _⟩ :: _) _ _); refine wpList_store_row rfl 90 _ _ rfl w7.heap.size (ak G4 (cc + 1)) rfl rfl _ _ RN.out (aY Mt.out) (aH (h := aR 32) (c := 0) rfl Mt.out) (ay _ _) ?_)
 have hZ := gG (u := .int .i64 0) P9.out
 have Ni : Below w.heap.size w (((w7.alloc (.cells #[.int .u8 0, .int .u8 0, .int .u8 0, .int .u8 0, .int .u8 0, .int .u8 0, .int .u8 0, .int .u8 0, .int .u8 0, .int .u8 0, .int .u8 0, .int .u8 0, .int .u8 0, .int .u8 0, .int .u8 0, .int .u8 0, .int .u8 0, .int .u8 0, .int .u8 0, .int .u8 0, .int .u8 0, .int .u8 0, .int .u8 0, .int .u8 0, .int .u8 0, .int .u8 0, .int .u8 0, .int .u8 0, .int .u8 0, .int .u8 0, .int .u8 0, .int .u8 0, .int .i64 0] 90)).setRow w7.heap.size (ak G4 (cc + 1))).setCell ⟨a + 1, 0, none⟩ (.int .i64 0)) := by
  have h1 := ag tq.out.2.2 (ah (cs := ak G4 (cc + 1)) (af w7 (.cells #[.int .u8 0, .int .u8 0, .int .u8 0, .int .u8 0, .int .u8 0, .int .u8 0, .int .u8 0, .int .u8 0, .int .u8 0, .int .u8 0, .int .u8 0, .int .u8 0, .int .u8 0, .int .u8 0, .int .u8 0, .int .u8 0, .int .u8 0, .int .u8 0, .int .u8 0, .int .u8 0, .int .u8 0, .int .u8 0, .int .u8 0, .int .u8 0, .int .u8 0, .int .u8 0, .int .u8 0, .int .u8 0, .int .u8 0, .int .u8 0, .int .u8 0, .int .u8 0, .int .i64 0] 90)) (Nat.le_refl _))
  exact ag cK.out (h1.setCell (by show W.heap.size ≤ a + 1; omega) _)
 have fO := aa Ni
 have hz0 := hZ.1
 obtain ⟨W8, Li⟩ : ∃ u, (((w7.alloc (.cells #[.int .u8 0, .int .u8 0, .int .u8 0, .int .u8 0, .int .u8 0, .int .u8 0, .int .u8 0, .int .u8 0, .int .u8 0, .int .u8 0, .int .u8 0, .int .u8 0, .int .u8 0, .int .u8 0, .int .u8 0, .int .u8 0, .int .u8 0, .int .u8 0, .int .u8 0, .int .u8 0, .int .u8 0, .int .u8 0, .int .u8 0, .int .u8 0, .int .u8 0, .int .u8 0, .int .u8 0, .int .u8 0, .int .u8 0, .int .u8 0, .int .u8 0, .int .u8 0, .int .i64 0] 90)).setRow w7.heap.size (ak G4 (cc + 1))).setCell ⟨a + 1, 0, none⟩ (.int .i64 0)) = u := ⟨_, rfl⟩
 rw [Li] at hz0 fO ⊢
 clear hZ Ni Li x0 x1 P9 RN y0 y1
 go_region
 go_wp2
 go_ret2
 exact ⟨rfl, ax fO.out _⟩
theorem nX {P Q : Int} {l : List Int} (hP : P < 2305843009213693952) (hl : l.length ≤ 1000) (h : l.all (av P Q) = true) : xC l := by
 refine ⟨hl, fun x hx => ?_⟩
 have h1 := List.all_eq_true.1 h x hx
 have h2 := jK h1
 have h3 := jL h1
 omega
theorem zB {P Q G : Int} (h : aC P Q G = true) : xC [P, Q, G] := by
 obtain ⟨h1, h2, h3, h4⟩ := aJ h
 have h5 := dA h
 have h6 := jK h5
 have h7 := jL h5
 refine ⟨by simp, fun x hx => ?_⟩
 simp at hx
 rcases hx with rfl | rfl | rfl <;> omega
theorem sJ {P Q G b c : Int} {ys al cl zl : List Int} (h : iP P Q G b ys c al cl zl = true) : iJ P Q G b ys = 0 ∧ j5 P Q ys.length al cl zl = true := by
 simp only [iP, wE, Bool.and_eq_true, beq_iff_eq] at h
 exact ⟨h.1, h.2.2.1.1⟩
theorem x_ (P Q G b : Int) (Y : Option Addr) (ys : List Int) (yn yc : Nat) (s : ByteArray) (hs : s.size ≤ 1000) (hr : Hid (cZ (aO s) = true)) (A : Option Addr) (al : List Int) (ca : Nat) (C : Option Addr) (cl : List Int) (cc : Nat) (Z : Option Addr) (zl : List Int) (cz : Nat)
  (hyn : Hid (ys.length = yn)) (ch : Int) (hch : Kp (nE P Q G b (aO s) ys al = ch)) (hck : Hid (iP P Q G b ys ch al cl zl = true)) (hQ : Q < 9223372036854775808) (w : World) (hv : Hid (Vars w)) (hd : Hid (bu w)) (hY : Hid (Sl w Y ys)) (hA : Hid (Sl w A al)) (hC : Hid (Sl w C cl)) (hZ : Hid (Sl w Z zl)) :
  Calls Tryz.prog 32 #[gv P Q G, .int .i64 b, .slice Y yn yc, .string s, yl A yn ca C yn cc Z yn cz] w (Rt w (.bool true)) := by
 obtain ⟨hg0, hf0⟩ := sJ hck.out
 obtain ⟨GL, hy1, Im, Ld, hym⟩ := xN hg0
 obtain ⟨hal, hcl, hzl, hma, hsc, hsz⟩ := jA hf0
 obtain ⟨p1, p2, p3, p4⟩ := aJ GL
 rw [hyn.out] at hy1 Im hf0 hal hcl hzl
 have F_ := aa hg0
 have Mw := aa hf0
 have sU := aa GL
 have ED := aa hal
 have ME := aa hcl
 have LF := aa hzl
 have JX := aa (zB GL)
 have JW : Hid (xC (b :: ys)) := aa (nX (Q := Q) p2 (by rw [List.length_cons, hyn.out]; omega) (by rw [List.all_cons, Ld, hym]; rfl))
 have JY : Hid (xC al) := aa (nX (Q := Q) p2 (by rw [hal]; omega) hma)
 obtain ⟨w0, HW, aM, kC⟩ := st2 (bA P Q G) Jh (.cells #[.slice A yn ca, .slice C yn cc, .slice Z yn cz] 63) Bg w
 have kV := mkV aM hv
 have kD := NV aM hd
 have kY := mkS aM hY
 have kA := mkS aM hA
 have Az := mkS aM hC
 have kZ := mkS aM hZ
 have aA := jQ w0
 clear hv hd hY hA hC hZ hg0 hf0 GL Ld hym hal hcl hzl hma hsc hsz
 go_in
 go_upto_region 1 with (fail)
 rw [HW.out]
 have zc := kC.out _ aA
 go_wp2_with fail
 clear zc
 refine iB kC aA (kM P Q G b Y ys yn yc 0 F_ hyn (by omega) hQ _ (kV.out _ aA) (kY.out _ aA)) fun w1 bJ zc => ?_
 go_wp2_with fail
 clear zc
 refine iB kC bJ (nG P Q G yn A al yn ca C cl yn cc Z zl yn cz true Mw sU ED ME LF (by omega) (by omega) (by omega) (by omega) hQ _ (kV.out _ bJ) (kA.out _ bJ) (Az.out _ bJ) (kZ.out _ bJ)) fun w2 bM zc => ?_
 go_wp2_with fail
 clear zc
 refine iB kC bM (vP P Q G b Y ys yn yc A al yn ca s hs hr hyn hy1 (by omega) ED JX JW JY (by omega) (by omega) ch hch _ (kD.out _ bM) (kY.out _ bM) (kA.out _ bM)) fun w3 eT zc => ?_
 go_wp2_with fail
 clear zc
 refine iB kC eT (vQ P Q G b Y ys yn yc ch A al yn ca C cl yn cc Z zl yn cz true hck hyn (by omega) ED ME LF (by omega) (by omega) (by omega) hQ _ (kV.out _ eT) (kY.out _ eT) (kA.out _ eT) (Az.out _ eT) (kZ.out _ eT)) fun w4 wM zc => ?_
 go_wp2
 go_ret
 exact ⟨rfl, gT aM wM⟩
def DI : Nat → (List Bool → Bool) → Bool
 | 0, p => p []
 | n + 1, p => DI n (fun l => p (true :: l)) && DI n (fun l => p (false :: l))
theorem jS : ∀ {n : Nat} {p : List Bool → Bool}, DI n p = true → ∀ l, l.length = n → p l = true
 | 0, p, h, l, hl => by
  obtain rfl : l = [] := List.eq_nil_of_length_eq_zero hl
  exact h
 | n + 1, p, h, l, hl => by
  cases l with
  | nil => simp at hl
  | cons b l =>
   simp only [DI, Bool.and_eq_true] at h
   cases b
   · exact jS h.2 l (by simpa using hl)
   · exact jS h.1 l (by simpa using hl)
def cntF (l : Array Bool) : Nat := l.toList.count false
theorem count_set {l : List Bool} : ∀ {i : Nat}, l[i]? = some false → (l.set i true).count false + 1 = l.count false := by
 induction l with
 | nil => intro i h; simp at h
 | cons b l ih =>
  intro i h
  cases i with
  | zero => simp only [List.getElem?_cons_zero, Option.some.injEq] at h; subst h; simp
  | succ i =>
   have := ih (i := i) (by simpa using h)
   rw [List.set_cons_succ, List.count_cons, List.count_cons]
   omega
theorem vJ {l : Array Bool} {i : Nat} (h : l.getD i true = false) : cntF (l.setIfInBounds i true) + 1 = cntF l := by
 have h2 : l.toList[i]? = some false := by
  rcases Nat.lt_or_ge i l.size with h' | h'
  · simp [h'] at h; simp [h', h]
  · simp [Array.getD, Nat.not_lt.2 h'] at h
 rw [cntF, cntF, Array.toList_setIfInBounds]
 exact count_set h2
def Er (l0 : Array Bool) (OP : List Nat) (bs : List Bool) : Array Bool := (OP.zip bs).foldl (fun a p => a.setIfInBounds p.1 p.2) l0
def uC (D N : List (List Nat)) (bs : List Bool) (j : Nat) : Bool := !(bs.getD j true) && ((D.getD j []).all (fun d => bs.getD d false) && (N.getD j []).all (fun d => !(bs.getD d true)))
def Fe (D : List (List Nat)) (bs : List Bool) : Bool := (List.range bs.length).all fun j => !(bs.getD j false) || (D.getD j []).all (fun d => bs.getD d false)
def KC (md : Region.Mode) (ops : Array Oper) (OP : List Nat) (D N : List (List Nat)) (rest fuel : Nat) (l0 full : Array Bool) : Bool :=
 Er l0 OP (List.replicate OP.length false) == l0 && (Er l0 OP (List.replicate OP.length true) == full && (cntF full == rest && (cntF l0 == fuel && (Fe D (List.replicate OP.length false) &&
 DI OP.length fun bs => !(Fe D bs) || (bs == List.replicate OP.length true || (!(Region.ready md ops (Er l0 OP bs)).isEmpty && (Region.ready md ops (Er l0 OP bs)).all fun i => (List.range OP.length).any fun j =>
  OP[j]? == some i && (uC D N bs j && (Fe D (bs.set j true) && (Er l0 OP (bs.set j true) == (Er l0 OP bs).setIfInBounds i true)))))))))
section
variable {P : Program} {ops : Array Oper} {Q : Exit → Act → World → Prop} {md : Region.Mode} {S : World → Prop} {E : List Nat}
def Qv (P : Program) (ops : Array Oper) (Q : Exit → Act → World → Prop) (S : World → Prop) (D N : List (List Nat)) (I : List Bool → Act → World → Prop) (j i : Nat) : Prop :=
 ∀ bs a w, I bs a w → uC D N bs j = true → ∃ o, ops[i]? = some o ∧ ∀ K' : Act → World → Prop, Shut (∀ a' w', S w' → I (bs.set j true) a' w' → K' a' w') → if Region.wanted o (yielded ops a.tmps) = true then Oper.wp P o a w K' Q else K' (a.put o.dst undef) w
def Hu (P : Program) (ops : Array Oper) (Q : Exit → Act → World → Prop) (S : World → Prop) (D N : List (List Nat)) (I : List Bool → Act → World → Prop) : Nat → List Nat → Prop
 | _, [] => True
 | j, i :: l => Qv P ops Q S D N I j i ∧ Hu P ops Q S D N I (j + 1) l
theorem uj {D N : List (List Nat)} {I : List Bool → Act → World → Prop} : ∀ {l : List Nat} {k j i : Nat}, Hu P ops Q S D N I k l → l[j]? = some i → Qv P ops Q S D N I (k + j) i
 | [], _, _, _, _, h => by simp at h
 | x :: l, k, 0, i, h, hj => by
  simp only [List.getElem?_cons_zero, Option.some.injEq] at hj
  subst hj
  exact h.1
 | x :: l, k, j + 1, i, h, hj => by
  have := uj (j := j) (i := i) h.2 (by simpa using hj)
  rw [show k + (j + 1) = k + 1 + j by omega]
  exact this
theorem Kr {fuel : Nat} {l0 : Array Bool} {a0 : Act} {w0 : World} (OP : List Nat) (D N : List (List Nat)) (rest : Nat) (full : Array Bool) (I : List Bool → Act → World → Prop)
  (h0 : I (List.replicate OP.length false) a0 w0) (hfin : ∀ bs a w, bs.all (fun b => b) = true → I bs a w → fG P md ops Q S E rest full a w) (hgo : Hu P ops Q S D N I 0 OP)
  (hck : KC md ops OP D N rest fuel l0 full = true := by kernel_rfl) : fG P md ops Q S E fuel l0 a0 w0 := by
 simp only [KC, Bool.and_eq_true, beq_iff_eq] at hck
 obtain ⟨c1, c2, c3, c4, c5, c6⟩ := hck
 have main : ∀ (n : Nat) (bs : List Bool) (a : Act) (w : World), bs.length = OP.length → Fe D bs = true → I bs a w → cntF (Er l0 OP bs) = n → fG P md ops Q S E n (Er l0 OP bs) a w := by
  intro n
  induction n with
  | zero =>
   intro bs a w hl hok hI hn
   have h := jS c6 bs hl
   simp only [hok, Bool.not_true, Bool.false_or, Bool.or_eq_true, beq_iff_eq, Bool.and_eq_true] at h
   rcases h with rfl | ⟨h1, h2⟩
   ·
    rw [c2] at hn ⊢
    have := hfin _ a w (by simp) hI
    rw [← c3, hn] at this
    exact this
   ·
    exfalso
    cases hr : Region.ready md ops (Er l0 OP bs) with
    | nil => rw [hr] at h1; simp at h1
    | cons i l =>
     have hi := (mem_ready.1 (show i ∈ Region.ready md ops (Er l0 OP bs) by rw [hr]; simp)).1
     have := vJ hi
     omega
  | succ n ih =>
   intro bs a w hl hok hI hn
   have h := jS c6 bs hl
   simp only [hok, Bool.not_true, Bool.false_or, Bool.or_eq_true, beq_iff_eq, Bool.and_eq_true] at h
   rcases h with rfl | ⟨h1, h2⟩
   ·
    rw [c2] at hn ⊢
    have := hfin _ a w (by simp) hI
    rw [← c3, hn] at this
    exact this
   ·
    refine ⟨fun e => by rw [e] at h1; simp at h1, fun i hi => ?_⟩
    have h3 := List.all_eq_true.1 h2 i hi
    obtain ⟨j, hj, h4⟩ := List.any_eq_true.1 h3
    simp only [Bool.and_eq_true, beq_iff_eq] at h4
    obtain ⟨e1, e2, e3, e4⟩ := h4
    have hs := uj hgo e1
    rw [Nat.zero_add] at hs
    obtain ⟨o, ho, hstep⟩ := hs bs a w hI e2
    refine wpOp_step ho (fun K' hK => hstep K' (fun a' w' hS hI' => hK a' w' ⟨fun _ => hS, ?_⟩))
    rw [← e4]
    have hc := vJ (mem_ready.1 hi).1
    exact ih (bs.set j true) a' w' (by rw [List.length_set]; exact hl) e3 hI' (by rw [e4]; omega)
 have := main fuel (List.replicate OP.length false) a0 w0 (by simp) c5 h0 (by rw [c1, c4])
 rw [c1] at this
 exact this
theorem Qu {fuel : Nat} {listed : Array Bool} {a : Act} {w : World} (h : ∀ a0 : Act, a0 = a → fG P md ops Q S E fuel listed a0 w) : fG P md ops Q S E fuel listed a w := h _ rfl
end
theorem az {P : Program} {ops : Array Oper} {rest : List Oper} {o : Oper} {a : Act} {w : World} {Q : Exit → Act → World → Prop} (hw : Region.wanted o (yielded ops a.tmps) = true) (ty : TypeId) (x : Operand) (ho : o.op = .load ty x)
  (g : Nat) (hx : a.eval x = .pointer (some ⟨g, 0, none⟩)) (t : TypeId) (cs : Array Value) (fr : Nat × Nat) (d : TypeDesc) (hg : w.heap[g]? = some (.cells cs t fr))
  (hu : P.underlying ty = some d) (hd : (match d with | .struct _ | .array _ _ => true | _ => false) = true) (hi : (P.info? ty).map (·.size) = some cs.size)
  (h : wpList P ops Q rest (a.put o.dst (.agg cs)) w) : wpList P ops Q (o :: rest) a w :=
 wpList_step fun K hK => by
  rw [if_pos hw]
  unfold Oper.wp execOp
  simp only [ho, hx, Instr.loadAt, Instr.sureAddr, Sem.run_bind, Sem.run_pure, Result.andThen_ok, run_loadVar_row w g t ty cs fr d hg hu hd hi]
  exact hK _ _ h
structure JS (w : World) (P Q G : Int) (h : List Int) (c : Int) (u : World) : Prop where
 g : kR u w.heap.size P Q G
 d : aD u (w.heap.size + 1) h c
 p : u.heap[w.heap.size + 2]? = some (.cells #[.slice none 0 0, .slice none 0 0, .slice none 0 0] 63 (0, 0))
 r : aD u (w.heap.size + 3) (aR 32) 0
 z : w.heap.size + 4 ≤ u.heap.size
 b : Below w.heap.size w u
theorem JS.below {w u u' : World} {P Q G : Int} {h : List Int} {c : Int} (H : JS w P Q G h c u) (hb : Below u.heap.size u u') : JS w P Q G h c u' :=
 ⟨H.g.below hb, H.d.below hb, (hb.block _ (by have := H.z; omega)).trans H.p, H.r.below hb, Nat.le_trans H.z hb.size, ag H.b hb⟩
abbrev OY (w : World) (P Q G : Int) (h : List Int) (c : Int) : World := (((w.alloc (bA P Q G)).alloc (.cells (ak h c) 29)).alloc (.cells #[.slice none 0 0, .slice none 0 0, .slice none 0 0] 63)).alloc (.cells #[.int .u8 0, .int .u8 0, .int .u8 0, .int .u8 0, .int .u8 0, .int .u8 0, .int .u8 0, .int .u8 0, .int .u8 0, .int .u8 0, .int .u8 0, .int .u8 0, .int .u8 0, .int .u8 0, .int .u8 0, .int .u8 0, .int .u8 0, .int .u8 0, .int .u8 0, .int .u8 0, .int .u8 0, .int .u8 0, .int .u8 0, .int .u8 0, .int .u8 0, .int .u8 0, .int .u8 0, .int .u8 0, .int .u8 0, .int .u8 0, .int .u8 0, .int .u8 0, .int .i64 0] 29)
theorem JS.start (w : World) (P Q G : Int) (h : List Int) (c : Int) : JS w P Q G h c (OY w P Q G h c) := by
 have e1 : (w.alloc (bA P Q G)).heap.size = w.heap.size + 1 := by simp
 have e2 : ((w.alloc (bA P Q G)).alloc (.cells (ak h c) 29)).heap.size = w.heap.size + 2 := by simp
 have e3 : (((w.alloc (bA P Q G)).alloc (.cells (ak h c) 29)).alloc (.cells #[.slice none 0 0, .slice none 0 0, .slice none 0 0] 63)).heap.size = w.heap.size + 3 := by simp
 have b1 := af (w.alloc (bA P Q G)) (.cells (ak h c) 29)
 have b2 := af ((w.alloc (bA P Q G)).alloc (.cells (ak h c) 29)) (.cells #[.slice none 0 0, .slice none 0 0, .slice none 0 0] 63)
 have b3 := af (((w.alloc (bA P Q G)).alloc (.cells (ak h c) 29)).alloc (.cells #[.slice none 0 0, .slice none 0 0, .slice none 0 0] 63)) (.cells #[.int .u8 0, .int .u8 0, .int .u8 0, .int .u8 0, .int .u8 0, .int .u8 0, .int .u8 0, .int .u8 0, .int .u8 0, .int .u8 0, .int .u8 0, .int .u8 0, .int .u8 0, .int .u8 0, .int .u8 0, .int .u8 0, .int .u8 0, .int .u8 0, .int .u8 0, .int .u8 0, .int .u8 0, .int .u8 0, .int .u8 0, .int .u8 0, .int .u8 0, .int .u8 0, .int .u8 0, .int .u8 0, .int .u8 0, .int .u8 0, .int .u8 0, .int .u8 0, .int .i64 0] 29)
 refine ⟨(((bD w P Q G).below b1).below b2).below b3, ?_, ?_, ?_, by simp, ag (ag (ag (af w (bA P Q G)) b1) b2) b3⟩
 ·
  have h1 := aD.new (w.alloc (bA P Q G)) h c
  rw [e1] at h1
  exact (h1.below b2).below b3
 ·
  rw [← e2]
  exact (b3.block _ (by simp)).trans (heap_alloc_new _ _)
 ·
  unfold OY
  rw [← e3, nO]
  exact aD.new _ _ _
theorem lq {w : World} {B n : Nat} {f : Nat → Int} (h : fF w B n f) (hn : 0 < n) : B < w.heap.size := by
 rcases Nat.lt_or_ge B w.heap.size with h1 | h1
 · exact h1
 ·
  exfalso
  have h2 := h.1 0 hn
  have h0 : w.heap[B]? = none := Array.getElem?_eq_none (by omega)
  simp [World.cell?, h0] at h2
theorem aL {w u : World} {B n : Nat} {f : Nat → Int} (h : fF w B n f) (hb : u.heap[B]? = w.heap[B]?) : fF u B n f :=
 ⟨fun j hj => (World.cell?_of_block (w := w) (w' := u) (a := ⟨B, j, none⟩) hb).trans (h.1 j hj), fun j => (World.frozen?_of_block (w := w) (w' := u) (a := ⟨B, j, none⟩) hb).trans (h.2 j)⟩
theorem dm {w u : World} {B n : Nat} {f : Nat → Int} (h : fF w B n f) (hn : 0 < n) (hb : Below w.heap.size w u) : fF u B n f := aL h (hb.block B (lq h hn))
theorem di {w : World} {B n : Nat} {f g : Nat → Int} (h : fF w B n f) (he : ∀ j, j < n → f j = g j) : fF w B n g := ⟨fun j hj => by rw [← he j hj]; exact h.1 j hj, h.2⟩
theorem Jd (h : List Int) (hl : h.length = 32) (c q : Int) : Tryz.prog.built 96 [(0, .agg (ak h c)), (1, .int .i64 q)] = some (wN h c q 0) := by
 obtain ⟨a0, a1, a2, a3, a4, a5, a6, a7, a8, a9, Jr, Jq, a12, Jp, Jo, Jn, a16, a17, Jm, Jl, a20, a21, a22, a23, a24, a25, a26, a27, a28, a29, a30, a31, rfl⟩ := sD h hl
 kernel_rfl
theorem jN : (Tryz.prog.info? 63).map (·.size) = some 3 := by kernel_rfl
structure tH (w7 : World) (n : Nat) (o2 o5 o7 : Bool) (gC gZ gP : Nat) (u : World) : Prop where
 b : Below w7.heap.size w7 u
 c : o2 = true → fF u gC n (fun _ => 0) ∧ w7.heap.size ≤ gC
 z : o5 = true → fF u gZ n (fun _ => 0) ∧ w7.heap.size ≤ gZ
 p : o7 = true → u.heap[gP]? = some (.cells #[.slice none 0 0, .slice none 0 0, .slice none 0 0] 63 (0, 0)) ∧ w7.heap.size ≤ gP
 cz : o2 = true → o5 = true → gC ≠ gZ
 cp : o2 = true → o7 = true → gC ≠ gP
 zp : o5 = true → o7 = true → gZ ≠ gP
section
variable {w7 u : World} {n gC gZ gP : Nat} {o2 o5 o7 : Bool}
theorem tH.start (w7 : World) (n : Nat) : tH w7 n false false false 0 0 0 w7.drew :=
 ⟨(Below.refl _ _).drew, fun e => absurd e (by decide), fun e => absurd e (by decide), fun e => absurd e (by decide), fun e => absurd e (by decide), fun e => absurd e (by decide), fun e => absurd e (by decide)⟩
theorem tH.ltC (H : tH w7 n o2 o5 o7 gC gZ gP u) (hn : 0 < n) (e : o2 = true) : gC < u.heap.size := lq (H.c e).1 hn
theorem tH.ltZ (H : tH w7 n o2 o5 o7 gC gZ gP u) (hn : 0 < n) (e : o5 = true) : gZ < u.heap.size := lq (H.z e).1 hn
theorem tH.ltP (H : tH w7 n o2 o5 o7 gC gZ gP u) (e : o7 = true) : gP < u.heap.size := (Array.getElem?_eq_some_iff.1 (H.p e).1).1
theorem tH.mkC (H : tH w7 n false o5 o7 gC gZ gP u) (hn : 0 < n) : tH w7 n true o5 o7 u.heap.size gZ gP (u.alloc (.cells (madeCells #[.int .i64 0] n) 3)) := by
 have hq := af u (.cells (madeCells #[.int .i64 0] n) 3)
 refine ⟨ag H.b hq, fun _ => ⟨jG u 3 n, H.b.size⟩, fun e => ⟨dm (H.z e).1 hn hq, (H.z e).2⟩, fun e => ⟨(hq.block _ (H.ltP e)).trans (H.p e).1, (H.p e).2⟩, fun _ e => by have := H.ltZ hn e; omega, fun _ e => by have := H.ltP e; omega, H.zp⟩
theorem tH.mkZ (H : tH w7 n o2 false o7 gC gZ gP u) (hn : 0 < n) : tH w7 n o2 true o7 gC u.heap.size gP (u.alloc (.cells (madeCells #[.int .i64 0] n) 3)) := by
 have hq := af u (.cells (madeCells #[.int .i64 0] n) 3)
 refine ⟨ag H.b hq, fun e => ⟨dm (H.c e).1 hn hq, (H.c e).2⟩, fun _ => ⟨jG u 3 n, H.b.size⟩, fun e => ⟨(hq.block _ (H.ltP e)).trans (H.p e).1, (H.p e).2⟩, fun e _ => by have := H.ltC hn e; omega, H.cp, fun _ e => by have := H.ltP e; omega⟩
theorem tH.mkP (H : tH w7 n o2 o5 false gC gZ gP u) (hn : 0 < n) : tH w7 n o2 o5 true gC gZ u.heap.size (u.alloc (.cells #[.slice none 0 0, .slice none 0 0, .slice none 0 0] 63)) := by
 have hq := af u (.cells #[.slice none 0 0, .slice none 0 0, .slice none 0 0] 63)
 refine ⟨ag H.b hq, fun e => ⟨dm (H.c e).1 hn hq, (H.c e).2⟩, fun e => ⟨dm (H.z e).1 hn hq, (H.z e).2⟩, fun _ => ⟨heap_alloc_new u _, H.b.size⟩, H.cz, fun e _ => by have := H.ltC hn e; omega, fun e _ => by have := H.ltZ hn e; omega⟩
end
structure Kl (W : World) (sb pb cb zb B : Nat) : Prop where
 w1 : W.heap.size ≤ sb
 w2 : W.heap.size ≤ pb
 w3 : W.heap.size ≤ cb
 w4 : W.heap.size ≤ zb
 l1 : sb < B
 l2 : pb < B
 l3 : cb < B
 l4 : zb < B
 d1 : sb ≠ pb
 d2 : sb ≠ cb
 d3 : sb ≠ zb
 d4 : pb ≠ cb
 d5 : pb ≠ zb
 d6 : cb ≠ zb
structure qH (W : World) (sb pb cb zb B : Nat) (h : List Int) (q cnt : Int) (n : Nat) (A : Option Addr) (k ca : Nat) (al : List Int) (fC fZ : Nat → Int) (u : World) : Prop where
 b : Below W.heap.size W u
 s : m_ u sb h cnt q 0
 p : u.heap[pb]? = some (.cells #[.slice A k ca, .slice (some ⟨cb, 0, none⟩) n n, .slice (some ⟨zb, 0, none⟩) n n] 63 (0, 0))
 a : u.ownsRow B 3 1 (.slice A k ca) k (al.map (Value.int .i64))
 C : fF u cb n fC
 Z : fF u zb n fZ
 z : B ≤ u.heap.size
section
variable {W u u' : World} {sb pb cb zb B : Nat} {h : List Int} {q cnt cnt' : Int} {n : Nat} {A : Option Addr} {k ca : Nat} {al : List Int} {fC fZ : Nat → Int}
theorem qH.next (H : qH W sb pb cb zb B h q cnt n A k ca al fC fZ u) (D : Kl W sb pb cb zb B) (hs : m_ u' sb h cnt' q 0) (hg : u.grownBy u' (some sb)) : qH W sb pb cb zb B h q cnt' n A k ca al fC fZ u' := by
 have hk : ∀ g, g < B → g ≠ sb → u'.heap[g]? = u.heap[g]? := fun g hl hne => hg.block g (Nat.lt_of_lt_of_le hl H.z) (fun e => by injection e with e; exact hne e)
 refine ⟨?_, hs, (hk pb D.l2 (Ne.symm D.d1)).trans H.p, ?_, aL H.C (hk cb D.l3 (Ne.symm D.d2)), aL H.Z (hk zb D.l4 (Ne.symm D.d3)), Nat.le_trans H.z hg.size⟩
 · exact H.b.trans ((iK hg D.w1 (by have := H.b.size; omega)))
 ·
  refine World.ownsRow.kept H.a hg ?_
  cases e : (Value.slice A k ca).ownBlock with
  | none => exact .inl rfl
  | some j => exact .inr (fun e2 => by
    have h1 := (World.ownsRow.lt H.a j e).1
    injection e2 with e2
    have := D.l1
    omega)
theorem qH.below (H : qH W sb pb cb zb B h q cnt n A k ca al fC fZ u) (D : Kl W sb pb cb zb B) (hb : Below u.heap.size u u') : qH W sb pb cb zb B h q cnt n A k ca al fC fZ u' := by
 have hk : ∀ g, g < B → u'.heap[g]? = u.heap[g]? := fun g hl => hb.block g (Nat.lt_of_lt_of_le hl H.z)
 refine ⟨ag H.b hb, H.s.below hb, (hk pb D.l2).trans H.p, ?_, aL H.C (hk cb D.l3), aL H.Z (hk zb D.l4), Nat.le_trans H.z hb.size⟩
 exact World.ownsRow.kept H.a (d_ hb none) (by cases (Value.slice A k ca).ownBlock with | none => exact .inl rfl | some j => exact .inr (by simp))
theorem qH.setC (H : qH W sb pb cb zb B h q cnt n A k ca al fC fZ u) (D : Kl W sb pb cb zb B) {j : Nat} (hj : j < n) (v : Int) : qH W sb pb cb zb B h q cnt n A k ca al (fun i => if i = j then v else fC i) fZ (u.setCell ⟨cb, j, none⟩ (.int .i64 v)) := by
 have hk : ∀ g, g ≠ cb → (u.setCell ⟨cb, j, none⟩ (.int .i64 v)).heap[g]? = u.heap[g]? := fun g hne => Go.Deep.blk_setCell_other _ _ _ _ hne
 refine ⟨H.b.setCell D.w3 _, (hk sb D.d2).trans H.s, (hk pb D.d4).trans H.p, ?_, g_ H.C hj v, aL H.Z (hk zb (Ne.symm D.d6)), by rw [World.size_setCell]; exact H.z⟩
 refine World.ownsRow.kept H.a (aZ cb j (.int .i64 v)) ?_
 cases e : (Value.slice A k ca).ownBlock with
 | none => exact .inl rfl
 | some j => exact .inr (fun e2 => by
   have h1 := (World.ownsRow.lt H.a j e).1
   injection e2 with e2
   have := D.l3
   omega)
theorem qH.setZ (H : qH W sb pb cb zb B h q cnt n A k ca al fC fZ u) (D : Kl W sb pb cb zb B) {j : Nat} (hj : j < n) (v : Int) : qH W sb pb cb zb B h q cnt n A k ca al fC (fun i => if i = j then v else fZ i) (u.setCell ⟨zb, j, none⟩ (.int .i64 v)) := by
 have hk : ∀ g, g ≠ zb → (u.setCell ⟨zb, j, none⟩ (.int .i64 v)).heap[g]? = u.heap[g]? := fun g hne => Go.Deep.blk_setCell_other _ _ _ _ hne
 refine ⟨H.b.setCell D.w4 _, (hk sb D.d3).trans H.s, (hk pb D.d5).trans H.p, ?_, aL H.C (hk cb D.d6), g_ H.Z hj v, by rw [World.size_setCell]; exact H.z⟩
 refine World.ownsRow.kept H.a (aZ zb j (.int .i64 v)) ?_
 cases e : (Value.slice A k ca).ownBlock with
 | none => exact .inl rfl
 | some j => exact .inr (fun e2 => by
   have h1 := (World.ownsRow.lt H.a j e).1
   injection e2 with e2
   have := D.l4
   omega)
theorem qH.app {u9 : World} {x : Int} {g cap : Nat} (H : qH W sb pb cb zb B h q cnt n A k ca al fC fZ u) (D : Kl W sb pb cb zb B) (ho : u9.ownsRow B 3 1 (.slice (some ⟨g, 0, none⟩) (k + 1) cap) (k + 1) (al.map (Value.int .i64) ++ [.int .i64 x])) (hg : u.grownBy u9 (Value.slice A k ca).ownBlock) :
  qH W sb pb cb zb B h q cnt n (some ⟨g, 0, none⟩) (k + 1) cap (al ++ [x]) fC fZ (u9.setCell ⟨pb, 0, none⟩ (.slice (some ⟨g, 0, none⟩) (k + 1) cap)) := by
 have hB : ∀ j, (Value.slice A k ca).ownBlock = some j → B ≤ j := fun j e => (World.ownsRow.lt H.a j e).1
 have xK : ∀ g, g < B → u9.heap[g]? = u.heap[g]? := fun g hl => hg.block g (Nat.lt_of_lt_of_le hl H.z) (fun e => by have := hB g e.symm; omega)
 have hk : ∀ g', g' ≠ pb → (u9.setCell ⟨pb, 0, none⟩ (.slice (some ⟨g, 0, none⟩) (k + 1) cap)).heap[g']? = u9.heap[g']? := fun g' hne => Go.Deep.blk_setCell_other _ _ _ _ hne
 have Q3 : W.heap.size ≤ B := by have := D.w1; have := D.l1; omega
 have ry : Below W.heap.size W u9 := H.b.grown hg H.b.size (fun j e => Nat.le_trans Q3 (hB j e))
 have hgB : B ≤ g := (World.ownsRow.lt ho g rfl).1
 refine ⟨ry.setCell D.w2 _, ((hk sb D.d1).trans (xK sb D.l1)).trans H.s, ?_, ?_, aL H.C ((hk cb (Ne.symm D.d4)).trans (xK cb D.l3)), aL H.Z ((hk zb (Ne.symm D.d5)).trans (xK zb D.l4)), by rw [World.size_setCell]; exact Nat.le_trans H.z hg.size⟩
 ·
  have h1 : u9.heap[pb]? = _ := (xK pb D.l2).trans H.p
  exact heap_setCell_same u9 pb 0 _ _ _ h1
 ·
  have h2 : u9.ownsRow B 3 1 (.slice (some ⟨g, 0, none⟩) (k + 1) cap) (k + 1) ((al ++ [x]).map (Value.int .i64)) := by simpa using ho
  refine World.ownsRow.kept h2 (aZ pb 0 _) (.inr (fun e2 => by
   have e3 : some g = some pb := e2
   injection e3 with e3
   have := D.l2
   omega))
end
theorem qH.congr {W u : World} {sb pb cb zb B : Nat} {h : List Int} {q cnt cnt' : Int} {n : Nat} {A : Option Addr} {k ca : Nat} {al al' : List Int} {fC fZ fC' fZ' : Nat → Int} (H : qH W sb pb cb zb B h q cnt n A k ca al fC fZ u) (h1 : cnt = cnt') (h2 : al = al') (h3 : ∀ j, j < n → fC j = fC' j) (h4 : ∀ j, j < n → fZ j = fZ' j) : qH W sb pb cb zb B h q cnt' n A k ca al' fC' fZ' u := by
 subst h1
 subst h2
 exact ⟨H.b, H.s, H.p, H.a, di H.C h3, di H.Z h4, H.z⟩
structure nV (w : World) (P Q G : Int) (pb cb zb : Nat) (n : Nat) (A : Option Addr) (k ca i : Nat) (cv zv : Int) (u : World) : Prop where
 g : kR u w.heap.size P Q G
 p : u.heap[pb]? = some (.cells #[.slice A k ca, .slice (some ⟨cb, 0, none⟩) n n, .slice (some ⟨zb, 0, none⟩) n n] 63 (0, 0))
 c : u.cell? ⟨cb, i, none⟩ = some (.int .i64 cv)
 z : u.cell? ⟨zb, i, none⟩ = some (.int .i64 zv)
theorem nV.of {W u w : World} {sb pb cb zb B : Nat} {h : List Int} {q cnt P Q G : Int} {n : Nat} {A : Option Addr} {k ca : Nat} {al : List Int} {fC fZ : Nat → Int} (H : qH W sb pb cb zb B h q cnt n A k ca al fC fZ u) (hg : kR u w.heap.size P Q G) {i : Nat} (hi : i < n) {cv zv : Int} (e1 : fC i = cv) (e2 : fZ i = zv) : nV w P Q G pb cb zb n A k ca i cv zv u :=
 ⟨hg, H.p, by rw [← e1]; exact H.C.1 i hi, by rw [← e2]; exact H.Z.1 i hi⟩
theorem nV.cells {w u : World} {P Q G : Int} {pb cb zb : Nat} {n : Nat} {A : Option Addr} {k ca i : Nat} {cv zv : Int} (H : nV w P Q G pb cb zb n A k ca i cv zv u) :
  u.cell? ⟨w.heap.size, 0, none⟩ = some (.int .i64 P) ∧ u.cell? ⟨w.heap.size, 1, none⟩ = some (.int .i64 Q) ∧ u.cell? ⟨w.heap.size, 2, none⟩ = some (.int .i64 G) ∧ u.cell? ⟨pb, 0, none⟩ = some (.slice A k ca) ∧ u.cell? ⟨pb, 1, none⟩ = some (.slice (some ⟨cb, 0, none⟩) n n) ∧ u.cell? ⟨pb, 2, none⟩ = some (.slice (some ⟨zb, 0, none⟩) n n) ∧ u.cell? ⟨cb, i, none⟩ = some (.int .i64 cv) ∧ u.cell? ⟨zb, i, none⟩ = some (.int .i64 zv) :=
 ⟨H.g.1, H.g.2.1, H.g.2.2, aj H.p 0, aj H.p 1, aj H.p 2, H.c, H.z⟩
theorem nV.grown {w u u9 : World} {P Q G : Int} {pb cb zb B : Nat} {n : Nat} {A : Option Addr} {k ca i : Nat} {cv zv : Int} (H : nV w P Q G pb cb zb n A k ca i cv zv u) {r : Option Nat} (hg : u.grownBy u9 r) (hr : ∀ j, r = some j → B ≤ j) (l1 : w.heap.size < B) (l2 : pb < B) (l3 : cb < B) (l4 : zb < B) (hB : B ≤ u.heap.size) : nV w P Q G pb cb zb n A k ca i cv zv u9 := by
 have hk : ∀ g, g < B → u9.heap[g]? = u.heap[g]? := fun g hl => hg.block g (Nat.lt_of_lt_of_le hl hB) (fun e => by have := hr g e.symm; omega)
 have hc : ∀ g j, g < B → u9.cell? ⟨g, j, none⟩ = u.cell? ⟨g, j, none⟩ := fun g j hl => World.cell?_of_block (w := u) (w' := u9) (a := ⟨g, j, none⟩) (hk g hl)
 exact ⟨⟨(hc _ 0 l1).trans H.g.1, (hc _ 1 l1).trans H.g.2.1, (hc _ 2 l1).trans H.g.2.2⟩, (hk pb l2).trans H.p, (hc _ _ l3).trans H.c, (hc _ _ l4).trans H.z⟩
theorem tX (a b m v : Int) (hv : Hid ((a - b + m) % m = v)) (h2 : m < 2305843009213693952) (ha0 : 0 ≤ a) (ha : a < m) (hb0 : 0 ≤ b) (hb : b < m) (w : World) :
  Calls Tryz.prog 29 #[.int .i64 a, .int .i64 b, .int .i64 m] w fun e w' => e = .returned (.tuple #[.int .i64 v, .int .i64 0]) ∧ w = w' := by
 rw [← hv.out]
 exact BP a b m h2 ha0 ha hb0 hb w
theorem BH (a b m v : Int) (hv : Hid ((a + b) % m = v)) (h2 : m < 2305843009213693952) (ha0 : 0 ≤ a) (ha : a < m) (hb0 : 0 ≤ b) (hb : b < m) (w : World) :
  Calls Tryz.prog 60 #[.int .i64 a, .int .i64 b, .int .i64 m] w fun e w' => e = .returned (.tuple #[.int .i64 v, .int .i64 0]) ∧ w = w' := by
 rw [← hv.out]
 exact sP a b m h2 ha0 ha hb0 hb w
theorem cu {P : Program} {fn : Func} {p q r : Tmp} {ty ty2 : TypeId} (h : fn.results = #[.cell p ty, .cell q ty2, .tmp r]) (tmps : Array Value) (w : World) (a b : Addr) (v u x : Value)
  (hp : tmps.getD p undef = .pointer (some a)) (hq : tmps.getD q undef = .pointer (some b)) (hr : tmps.getD r undef = x) (hl : (loadVar ty a).run P w = .ok v w) (hl2 : (loadVar ty2 b).run P w = .ok u w) : (results fn tmps).run P w = .ok (.tuple #[v, u, x]) w := by
 have hp' : tmps[p]?.getD undef = .pointer (some a) := by simpa using hp
 have hq' : tmps[q]?.getD undef = .pointer (some b) := by simpa using hq
 have hr' : tmps[r]?.getD undef = x := by simpa using hr
 simp [results, h, hp', hq', hr', asAddr, hl, hl2]
theorem r_ {w : World} {b n c : Nat} {A : Option Addr} {xs : List Int} (h : w.ownsRow b 3 1 (.slice A n c) n (xs.map (Value.int .i64))) (hn : xs.length = n) : Sl w A xs := by
 have ho : sQ w b (.slice A n c) xs := by unfold sQ; rw [hn]; exact h
 obtain ⟨A2, c2, he, hs, _⟩ := ho.sl
 injection he with e1 e2 e3
 rw [e1]
 exact hs
theorem sK (P Q b : Int) (ys h : List Int) (c : Int) (wh n : Nat) : (qE P Q b ys h c wh n).length = n := by simp [qE]
theorem l6 (h : List Int) (q c : Int) (wh n : Nat) : (vR h q c wh n).length = n := by simp [vR]
theorem oq (h : List Int) (q c : Int) (wh n : Nat) : (GG h q c wh n).length = n := by simp [GG]
theorem rX (f : Nat → Int) {n j : Nat} (hj : j < n) : ((List.range n).map f).getD j 0 = f j := by
 rw [List.getD_eq_getElem?_getD, List.getElem?_map, List.getElem?_range hj]; rfl
theorem rW {w : World} {B n : Nat} {f : Nat → Int} {xs : List Int} (h : fF w B n f) (hn : xs.length = n) (he : ∀ j, j < n → f j = xs.getD j 0) : Sl w (some ⟨B, 0, none⟩) xs := fun j hj => ⟨B, 0, rfl, by rw [Nat.zero_add, h.1 j (by omega), he j (by omega)]⟩
theorem um {xs : List Int} {k j : Nat} {v : Int} (hk : k < xs.length) : (xs.set k v).getD j 0 = if j = k then v else xs.getD j 0 := by
 rw [List.getD_eq_getElem?_getD, List.getElem?_set]
 by_cases e : k = j
 ·
  subst e
  rw [if_pos rfl, if_pos hk, if_pos rfl]; rfl
 · rw [if_neg e, if_neg (fun x => e x.symm), List.getD_eq_getElem?_getD]
theorem Ja {h : List Int} {q c : Int} {wh : Nat} (hq : 1 ≤ q) (n : Nat) : (vR h q c wh n).all (bH q) = true := by
 rw [List.all_eq_true]
 intro x hx
 rw [vR, List.mem_map] at hx
 obtain ⟨i, _, rfl⟩ := hx
 exact DC hq
theorem vS (P Q b : Int) (ys h : List Int) (c : Int) (wh i : Nat) : qE P Q b ys h c wh (i + 1) = qE P Q b ys h c wh i ++ [Jb P Q b ys h c wh i] := by simp [qE, List.range_succ]
end Go.Proofs.YtgbfhcfhopadaaaGreatDoor