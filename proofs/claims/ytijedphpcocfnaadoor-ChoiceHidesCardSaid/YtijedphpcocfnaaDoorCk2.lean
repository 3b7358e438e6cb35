/- Contracts and lemmas: ChA, ChB, Held, LinG, LinI, LinK, LinO, LinX, ChC, ChD, ChE, ChF. -/
import Derived.Deep.RegionHeld3
import Derived.Test.YtijedphpcocfnaaDoorCk1
namespace Go.Proofs.YtijedphpcocfnaaDoor
open Go.RowKit SpM
set_option linter.unusedVariables false
set_option linter.unusedSimpArgs false
set_option maxRecDepth 100000
set_option maxHeartbeats 1600000 in
theorem idx_pel (c0 : Value) (p : Int → Bool) (A : Option Addr) (xs : List Int) (n c : Nat) (hn : Hid (xs.length = n)) (hbig : Hid (n < 1000000)) (w : World) (hs : Hid (Sl w A xs)) (hp : Hid (Says 130 #[c0] p w)) :
    Calls Tryd.prog 95 #[.slice A n c, .func (.func 130) #[] #[c0]] w (IdxOut p xs w) := by
  have hn0 : n < 1000000 := hbig.out
  go_enter Tryd.func95, Tryd.ntmps95
  go_wp2
  go_loopw [8] (fun i wr => ∃ k : Nat, k ≤ n ∧ i = .int .i64 k ∧ Hid (xs.any p = (xs.drop k).any p) ∧ Hid (Below w.heap.size w wr)) (fun i _ => n - (intOf i).toNat)
  case atStart => exact ⟨0, by omega, rfl, Lib.hid rfl, Lib.hid (Below.refl _ _)⟩
  case round =>
    obtain ⟨k, hk, rfl, HR, HBr⟩ := hrel
    by_cases hlt : k < n
    · have hkl : k < xs.length := by rw [hn.out]; exact hlt
      obtain ⟨b, o, hA, hi0⟩ := hs.out k hkl
      subst hA
      have hi := (HBr.out.cell (World.block_lt_of_cell? _ _ hi0)).trans hi0
      cases hpx : p (xs.getD k 0) with
      | false =>
        have HN : Hid (xs.any p = (xs.drop (k + 1)).any p) := Lib.hid (HR.out.trans (any_drop_step hkl hpx))
        obtain ⟨x, hx⟩ : ∃ x, xs.getD k 0 = x := ⟨_, rfl⟩
        rw [hx] at hi hpx
        have HC := Lib.hid (hp.out x wr HBr.out)
        have HPX := Lib.hid hpx
        clear hi0 hx hkl hpx HR
        go_wp2_with fail
        refine HC.out.mono ?_
        rintro e w2 ⟨rfl, hb0⟩
        rw [HPX.out]
        have HB2 := Lib.hid (below_ext HBr.out hb0)
        clear hb0
        go_wp2
        go_roundw
        case rel => exact ⟨k + 1, by omega, by go_num, HN, HB2⟩
        case measure => simp [intOf]; omega
      | true =>
        have HN : Hid (decide ((0 : Int) ≤ (k : Int)) = xs.any p) := Lib.hid (by rw [HR.out, any_drop_hit hkl hpx]; simp)
        obtain ⟨x, hx⟩ : ∃ x, xs.getD k 0 = x := ⟨_, rfl⟩
        rw [hx] at hi hpx
        have HC := Lib.hid (hp.out x wr HBr.out)
        have HPX := Lib.hid hpx
        clear hi0 hx hkl hpx HR
        go_wp2_with fail
        refine HC.out.mono ?_
        rintro e w2 ⟨rfl, hb0⟩
        rw [HPX.out]
        have HB2 := Lib.hid (below_ext HBr.out hb0)
        clear hb0
        go_wp2
        go_ret
        exact ⟨k, rfl, HN.out, HB2.out⟩
    · obtain rfl : k = n := by omega
      have HN : Hid (decide ((0 : Int) ≤ (-1 : Int)) = xs.any p) := Lib.hid (by rw [HR.out, ← hn.out]; simp)
      clear HR hlt
      go_wp2
      go_ret
      exact ⟨-1, rfl, HN.out, HBr.out⟩
set_option maxHeartbeats 800000 in
theorem cf_pel (c0 : Value) (p : Int → Bool) (r : Bool) (A : Option Addr) (xs : List Int) (n c : Nat) (hr : Hid (xs.any p = r)) (hn : Hid (xs.length = n)) (hbig : Hid (n < 1000000)) (w : World) (hs : Hid (Sl w A xs)) (hp : Hid (Says 130 #[c0] p w)) :
    Calls Tryd.prog 65 #[.slice A n c, .func (.func 130) #[] #[c0]] w fun e w' => e = .returned (.bool r) ∧ Below w.heap.size w w' := by
  go_enter Tryd.func65, Tryd.ntmps65
  go_wp2_with fail
  refine (idx_pel c0 p A xs n c hn hbig _ hs hp).mono ?_
  rintro e w1 ⟨i, rfl, hi, hb1⟩
  have hd : decide ((0 : Int) ≤ i) = r := hi.trans hr.out
  clear hi
  go_wp2
  go_ret
  exact ⟨by first | rfl | (rw [← hd]) | simp [hd], hb1⟩
set_option maxHeartbeats 1600000 in
theorem idx_pex (c0 : Value) (p : Int → Bool) (A : Option Addr) (xs : List Int) (n c : Nat) (hn : Hid (xs.length = n)) (hbig : Hid (n < 1000000)) (w : World) (hs : Hid (Sl w A xs)) (hp : Hid (Says 131 #[c0] p w)) :
    Calls Tryd.prog 95 #[.slice A n c, .func (.func 131) #[] #[c0]] w (IdxOut p xs w) := by
  have hn0 : n < 1000000 := hbig.out
  go_enter Tryd.func95, Tryd.ntmps95
  go_wp2
  go_loopw [8] (fun i wr => ∃ k : Nat, k ≤ n ∧ i = .int .i64 k ∧ Hid (xs.any p = (xs.drop k).any p) ∧ Hid (Below w.heap.size w wr)) (fun i _ => n - (intOf i).toNat)
  case atStart => exact ⟨0, by omega, rfl, Lib.hid rfl, Lib.hid (Below.refl _ _)⟩
  case round =>
    obtain ⟨k, hk, rfl, HR, HBr⟩ := hrel
    by_cases hlt : k < n
    · have hkl : k < xs.length := by rw [hn.out]; exact hlt
      obtain ⟨b, o, hA, hi0⟩ := hs.out k hkl
      subst hA
      have hi := (HBr.out.cell (World.block_lt_of_cell? _ _ hi0)).trans hi0
      cases hpx : p (xs.getD k 0) with
      | false =>
        have HN : Hid (xs.any p = (xs.drop (k + 1)).any p) := Lib.hid (HR.out.trans (any_drop_step hkl hpx))
        obtain ⟨x, hx⟩ : ∃ x, xs.getD k 0 = x := ⟨_, rfl⟩
        rw [hx] at hi hpx
        have HC := Lib.hid (hp.out x wr HBr.out)
        have HPX := Lib.hid hpx
        clear hi0 hx hkl hpx HR
        go_wp2_with fail
        refine HC.out.mono ?_
        rintro e w2 ⟨rfl, hb0⟩
        rw [HPX.out]
        have HB2 := Lib.hid (below_ext HBr.out hb0)
        clear hb0
        go_wp2
        go_roundw
        case rel => exact ⟨k + 1, by omega, by go_num, HN, HB2⟩
        case measure => simp [intOf]; omega
      | true =>
        have HN : Hid (decide ((0 : Int) ≤ (k : Int)) = xs.any p) := Lib.hid (by rw [HR.out, any_drop_hit hkl hpx]; simp)
        obtain ⟨x, hx⟩ : ∃ x, xs.getD k 0 = x := ⟨_, rfl⟩
        rw [hx] at hi hpx
        have HC := Lib.hid (hp.out x wr HBr.out)
        have HPX := Lib.hid hpx
        clear hi0 hx hkl hpx HR
        go_wp2_with fail
        refine HC.out.mono ?_
        rintro e w2 ⟨rfl, hb0⟩
        rw [HPX.out]
        have HB2 := Lib.hid (below_ext HBr.out hb0)
        clear hb0
        go_wp2
        go_ret
        exact ⟨k, rfl, HN.out, HB2.out⟩
    · obtain rfl : k = n := by omega
      have HN : Hid (decide ((0 : Int) ≤ (-1 : Int)) = xs.any p) := Lib.hid (by rw [HR.out, ← hn.out]; simp)
      clear HR hlt
      go_wp2
      go_ret
      exact ⟨-1, rfl, HN.out, HBr.out⟩
set_option maxHeartbeats 800000 in
theorem cf_pex (c0 : Value) (p : Int → Bool) (r : Bool) (A : Option Addr) (xs : List Int) (n c : Nat) (hr : Hid (xs.any p = r)) (hn : Hid (xs.length = n)) (hbig : Hid (n < 1000000)) (w : World) (hs : Hid (Sl w A xs)) (hp : Hid (Says 131 #[c0] p w)) :
    Calls Tryd.prog 65 #[.slice A n c, .func (.func 131) #[] #[c0]] w fun e w' => e = .returned (.bool r) ∧ Below w.heap.size w w' := by
  go_enter Tryd.func65, Tryd.ntmps65
  go_wp2_with fail
  refine (idx_pex c0 p A xs n c hn hbig _ hs hp).mono ?_
  rintro e w1 ⟨i, rfl, hi, hb1⟩
  have hd : decide ((0 : Int) ≤ i) = r := hi.trans hr.out
  clear hi
  go_wp2
  go_ret
  exact ⟨by first | rfl | (rw [← hd]) | simp [hd], hb1⟩
set_option maxHeartbeats 1600000 in
theorem idx_cgv (c0 : Value) (p : Int → Bool) (A : Option Addr) (xs : List Int) (n c : Nat) (hn : Hid (xs.length = n)) (hbig : Hid (n < 1000000)) (w : World) (hs : Hid (Sl w A xs)) (hp : Hid (Says 98 #[c0] p w)) :
    Calls Tryd.prog 95 #[.slice A n c, .func (.func 98) #[] #[c0]] w (IdxOut p xs w) := by
  have hn0 : n < 1000000 := hbig.out
  go_enter Tryd.func95, Tryd.ntmps95
  go_wp2
  go_loopw [8] (fun i wr => ∃ k : Nat, k ≤ n ∧ i = .int .i64 k ∧ Hid (xs.any p = (xs.drop k).any p) ∧ Hid (Below w.heap.size w wr)) (fun i _ => n - (intOf i).toNat)
  case atStart => exact ⟨0, by omega, rfl, Lib.hid rfl, Lib.hid (Below.refl _ _)⟩
  case round =>
    obtain ⟨k, hk, rfl, HR, HBr⟩ := hrel
    by_cases hlt : k < n
    · have hkl : k < xs.length := by rw [hn.out]; exact hlt
      obtain ⟨b, o, hA, hi0⟩ := hs.out k hkl
      subst hA
      have hi := (HBr.out.cell (World.block_lt_of_cell? _ _ hi0)).trans hi0
      cases hpx : p (xs.getD k 0) with
      | false =>
        have HN : Hid (xs.any p = (xs.drop (k + 1)).any p) := Lib.hid (HR.out.trans (any_drop_step hkl hpx))
        obtain ⟨x, hx⟩ : ∃ x, xs.getD k 0 = x := ⟨_, rfl⟩
        rw [hx] at hi hpx
        have HC := Lib.hid (hp.out x wr HBr.out)
        have HPX := Lib.hid hpx
        clear hi0 hx hkl hpx HR
        go_wp2_with fail
        refine HC.out.mono ?_
        rintro e w2 ⟨rfl, hb0⟩
        rw [HPX.out]
        have HB2 := Lib.hid (below_ext HBr.out hb0)
        clear hb0
        go_wp2
        go_roundw
        case rel => exact ⟨k + 1, by omega, by go_num, HN, HB2⟩
        case measure => simp [intOf]; omega
      | true =>
        have HN : Hid (decide ((0 : Int) ≤ (k : Int)) = xs.any p) := Lib.hid (by rw [HR.out, any_drop_hit hkl hpx]; simp)
        obtain ⟨x, hx⟩ : ∃ x, xs.getD k 0 = x := ⟨_, rfl⟩
        rw [hx] at hi hpx
        have HC := Lib.hid (hp.out x wr HBr.out)
        have HPX := Lib.hid hpx
        clear hi0 hx hkl hpx HR
        go_wp2_with fail
        refine HC.out.mono ?_
        rintro e w2 ⟨rfl, hb0⟩
        rw [HPX.out]
        have HB2 := Lib.hid (below_ext HBr.out hb0)
        clear hb0
        go_wp2
        go_ret
        exact ⟨k, rfl, HN.out, HB2.out⟩
    · obtain rfl : k = n := by omega
      have HN : Hid (decide ((0 : Int) ≤ (-1 : Int)) = xs.any p) := Lib.hid (by rw [HR.out, ← hn.out]; simp)
      clear HR hlt
      go_wp2
      go_ret
      exact ⟨-1, rfl, HN.out, HBr.out⟩
set_option maxHeartbeats 800000 in
theorem cf_cgv (c0 : Value) (p : Int → Bool) (r : Bool) (A : Option Addr) (xs : List Int) (n c : Nat) (hr : Hid (xs.any p = r)) (hn : Hid (xs.length = n)) (hbig : Hid (n < 1000000)) (w : World) (hs : Hid (Sl w A xs)) (hp : Hid (Says 98 #[c0] p w)) :
    Calls Tryd.prog 65 #[.slice A n c, .func (.func 98) #[] #[c0]] w fun e w' => e = .returned (.bool r) ∧ Below w.heap.size w w' := by
  go_enter Tryd.func65, Tryd.ntmps65
  go_wp2_with fail
  refine (idx_cgv c0 p A xs n c hn hbig _ hs hp).mono ?_
  rintro e w1 ⟨i, rfl, hi, hb1⟩
  have hd : decide ((0 : Int) ≤ i) = r := hi.trans hr.out
  clear hi
  go_wp2
  go_ret
  exact ⟨by first | rfl | (rw [← hd]) | simp [hd], hb1⟩
set_option maxHeartbeats 1600000 in
theorem idx_csu (c0 : Value) (p : Int → Bool) (A : Option Addr) (xs : List Int) (n c : Nat) (hn : Hid (xs.length = n)) (hbig : Hid (n < 1000000)) (w : World) (hs : Hid (Sl w A xs)) (hp : Hid (Says 66 #[c0] p w)) :
    Calls Tryd.prog 95 #[.slice A n c, .func (.func 66) #[] #[c0]] w (IdxOut p xs w) := by
  have hn0 : n < 1000000 := hbig.out
  go_enter Tryd.func95, Tryd.ntmps95
  go_wp2
  go_loopw [8] (fun i wr => ∃ k : Nat, k ≤ n ∧ i = .int .i64 k ∧ Hid (xs.any p = (xs.drop k).any p) ∧ Hid (Below w.heap.size w wr)) (fun i _ => n - (intOf i).toNat)
  case atStart => exact ⟨0, by omega, rfl, Lib.hid rfl, Lib.hid (Below.refl _ _)⟩
  case round =>
    obtain ⟨k, hk, rfl, HR, HBr⟩ := hrel
    by_cases hlt : k < n
    · have hkl : k < xs.length := by rw [hn.out]; exact hlt
      obtain ⟨b, o, hA, hi0⟩ := hs.out k hkl
      subst hA
      have hi := (HBr.out.cell (World.block_lt_of_cell? _ _ hi0)).trans hi0
      cases hpx : p (xs.getD k 0) with
      | false =>
        have HN : Hid (xs.any p = (xs.drop (k + 1)).any p) := Lib.hid (HR.out.trans (any_drop_step hkl hpx))
        obtain ⟨x, hx⟩ : ∃ x, xs.getD k 0 = x := ⟨_, rfl⟩
        rw [hx] at hi hpx
        have HC := Lib.hid (hp.out x wr HBr.out)
        have HPX := Lib.hid hpx
        clear hi0 hx hkl hpx HR
        go_wp2_with fail
        refine HC.out.mono ?_
        rintro e w2 ⟨rfl, hb0⟩
        rw [HPX.out]
        have HB2 := Lib.hid (below_ext HBr.out hb0)
        clear hb0
        go_wp2
        go_roundw
        case rel => exact ⟨k + 1, by omega, by go_num, HN, HB2⟩
        case measure => simp [intOf]; omega
      | true =>
        have HN : Hid (decide ((0 : Int) ≤ (k : Int)) = xs.any p) := Lib.hid (by rw [HR.out, any_drop_hit hkl hpx]; simp)
        obtain ⟨x, hx⟩ : ∃ x, xs.getD k 0 = x := ⟨_, rfl⟩
        rw [hx] at hi hpx
        have HC := Lib.hid (hp.out x wr HBr.out)
        have HPX := Lib.hid hpx
        clear hi0 hx hkl hpx HR
        go_wp2_with fail
        refine HC.out.mono ?_
        rintro e w2 ⟨rfl, hb0⟩
        rw [HPX.out]
        have HB2 := Lib.hid (below_ext HBr.out hb0)
        clear hb0
        go_wp2
        go_ret
        exact ⟨k, rfl, HN.out, HB2.out⟩
    · obtain rfl : k = n := by omega
      have HN : Hid (decide ((0 : Int) ≤ (-1 : Int)) = xs.any p) := Lib.hid (by rw [HR.out, ← hn.out]; simp)
      clear HR hlt
      go_wp2
      go_ret
      exact ⟨-1, rfl, HN.out, HBr.out⟩
set_option maxHeartbeats 800000 in
theorem cf_csu (c0 : Value) (p : Int → Bool) (r : Bool) (A : Option Addr) (xs : List Int) (n c : Nat) (hr : Hid (xs.any p = r)) (hn : Hid (xs.length = n)) (hbig : Hid (n < 1000000)) (w : World) (hs : Hid (Sl w A xs)) (hp : Hid (Says 66 #[c0] p w)) :
    Calls Tryd.prog 65 #[.slice A n c, .func (.func 66) #[] #[c0]] w fun e w' => e = .returned (.bool r) ∧ Below w.heap.size w w' := by
  go_enter Tryd.func65, Tryd.ntmps65
  go_wp2_with fail
  refine (idx_csu c0 p A xs n c hn hbig _ hs hp).mono ?_
  rintro e w1 ⟨i, rfl, hi, hb1⟩
  have hd : decide ((0 : Int) ≤ i) = r := hi.trans hr.out
  clear hi
  go_wp2
  go_ret
  exact ⟨by first | rfl | (rw [← hd]) | simp [hd], hb1⟩
set_option maxHeartbeats 1600000 in
theorem idx_csi (c0 : Value) (p : Int → Bool) (A : Option Addr) (xs : List Int) (n c : Nat) (hn : Hid (xs.length = n)) (hbig : Hid (n < 1000000)) (w : World) (hs : Hid (Sl w A xs)) (hp : Hid (Says 77 #[c0] p w)) :
    Calls Tryd.prog 95 #[.slice A n c, .func (.func 77) #[] #[c0]] w (IdxOut p xs w) := by
  have hn0 : n < 1000000 := hbig.out
  go_enter Tryd.func95, Tryd.ntmps95
  go_wp2
  go_loopw [8] (fun i wr => ∃ k : Nat, k ≤ n ∧ i = .int .i64 k ∧ Hid (xs.any p = (xs.drop k).any p) ∧ Hid (Below w.heap.size w wr)) (fun i _ => n - (intOf i).toNat)
  case atStart => exact ⟨0, by omega, rfl, Lib.hid rfl, Lib.hid (Below.refl _ _)⟩
  case round =>
    obtain ⟨k, hk, rfl, HR, HBr⟩ := hrel
    by_cases hlt : k < n
    · have hkl : k < xs.length := by rw [hn.out]; exact hlt
      obtain ⟨b, o, hA, hi0⟩ := hs.out k hkl
      subst hA
      have hi := (HBr.out.cell (World.block_lt_of_cell? _ _ hi0)).trans hi0
      cases hpx : p (xs.getD k 0) with
      | false =>
        have HN : Hid (xs.any p = (xs.drop (k + 1)).any p) := Lib.hid (HR.out.trans (any_drop_step hkl hpx))
        obtain ⟨x, hx⟩ : ∃ x, xs.getD k 0 = x := ⟨_, rfl⟩
        rw [hx] at hi hpx
        have HC := Lib.hid (hp.out x wr HBr.out)
        have HPX := Lib.hid hpx
        clear hi0 hx hkl hpx HR
        go_wp2_with fail
        refine HC.out.mono ?_
        rintro e w2 ⟨rfl, hb0⟩
        rw [HPX.out]
        have HB2 := Lib.hid (below_ext HBr.out hb0)
        clear hb0
        go_wp2
        go_roundw
        case rel => exact ⟨k + 1, by omega, by go_num, HN, HB2⟩
        case measure => simp [intOf]; omega
      | true =>
        have HN : Hid (decide ((0 : Int) ≤ (k : Int)) = xs.any p) := Lib.hid (by rw [HR.out, any_drop_hit hkl hpx]; simp)
        obtain ⟨x, hx⟩ : ∃ x, xs.getD k 0 = x := ⟨_, rfl⟩
        rw [hx] at hi hpx
        have HC := Lib.hid (hp.out x wr HBr.out)
        have HPX := Lib.hid hpx
        clear hi0 hx hkl hpx HR
        go_wp2_with fail
        refine HC.out.mono ?_
        rintro e w2 ⟨rfl, hb0⟩
        rw [HPX.out]
        have HB2 := Lib.hid (below_ext HBr.out hb0)
        clear hb0
        go_wp2
        go_ret
        exact ⟨k, rfl, HN.out, HB2.out⟩
    · obtain rfl : k = n := by omega
      have HN : Hid (decide ((0 : Int) ≤ (-1 : Int)) = xs.any p) := Lib.hid (by rw [HR.out, ← hn.out]; simp)
      clear HR hlt
      go_wp2
      go_ret
      exact ⟨-1, rfl, HN.out, HBr.out⟩
set_option maxHeartbeats 800000 in
theorem cf_csi (c0 : Value) (p : Int → Bool) (r : Bool) (A : Option Addr) (xs : List Int) (n c : Nat) (hr : Hid (xs.any p = r)) (hn : Hid (xs.length = n)) (hbig : Hid (n < 1000000)) (w : World) (hs : Hid (Sl w A xs)) (hp : Hid (Says 77 #[c0] p w)) :
    Calls Tryd.prog 65 #[.slice A n c, .func (.func 77) #[] #[c0]] w fun e w' => e = .returned (.bool r) ∧ Below w.heap.size w w' := by
  go_enter Tryd.func65, Tryd.ntmps65
  go_wp2_with fail
  refine (idx_csi c0 p A xs n c hn hbig _ hs hp).mono ?_
  rintro e w1 ⟨i, rfl, hi, hb1⟩
  have hd : decide ((0 : Int) ≤ i) = r := hi.trans hr.out
  clear hi
  go_wp2
  go_ret
  exact ⟨by first | rfl | (rw [← hd]) | simp [hd], hb1⟩
theorem says_pel (P Q G : Int) (a : Nat) (hQ : Q < 9223372036854775808) (W : World) (hx : Hid (GBox W a P Q G)) (hv : Hid (Vars W)) :
    Says 130 #[.pointer (some ⟨a, 0, none⟩)] (fun x => !conG P Q G x) W := fun x w1 hb => by
  show Calls Tryd.prog 130 #[.int .i64 x, .pointer (some ⟨a, 0, none⟩)] w1 fun e w' => e = .returned (.bool (!conG P Q G x)) ∧ Below w1.heap.size w1 w'
  obtain ⟨c0, c1, c2⟩ := hx.out.below hb
  have HV := Lib.hid (hv.out.below hb)
  obtain ⟨r, hr⟩ : ∃ r, conG P Q G x = r := ⟨_, rfl⟩
  have HR := Lib.hid hr
  rw [hr]
  clear hr hb
  go_enter Tryd.func130, Tryd.ntmps130
  go_wp2_with fail
  refine (contains_any P Q G x r HR hQ _ HV).mono ?_
  rintro e w2 ⟨rfl, hb0⟩
  go_wp2
  go_ret
  exact ⟨rfl, hb0⟩
theorem says_cgv (P Q G : Int) (a : Nat) (hQ : Q < 9223372036854775808) (W : World) (hx : Hid (GBox W a P Q G)) (hv : Hid (Vars W)) :
    Says 98 #[.pointer (some ⟨a, 0, none⟩)] (fun x => !conG P Q G x) W := fun x w1 hb => by
  show Calls Tryd.prog 98 #[.int .i64 x, .pointer (some ⟨a, 0, none⟩)] w1 fun e w' => e = .returned (.bool (!conG P Q G x)) ∧ Below w1.heap.size w1 w'
  obtain ⟨c0, c1, c2⟩ := hx.out.below hb
  have HV := Lib.hid (hv.out.below hb)
  obtain ⟨r, hr⟩ : ∃ r, conG P Q G x = r := ⟨_, rfl⟩
  have HR := Lib.hid hr
  rw [hr]
  clear hr hb
  go_enter Tryd.func98, Tryd.ntmps98
  go_wp2_with fail
  refine (contains_any P Q G x r HR hQ _ HV).mono ?_
  rintro e w2 ⟨rfl, hb0⟩
  go_wp2
  go_ret
  exact ⟨rfl, hb0⟩
theorem says_pex (P Q G : Int) (a : Nat) (W : World) (hx : Hid (GBox W a P Q G)) :
    Says 131 #[.pointer (some ⟨a, 0, none⟩)] (fun x => !scB Q x) W := fun x w1 hb => by
  show Calls Tryd.prog 131 #[.int .i64 x, .pointer (some ⟨a, 0, none⟩)] w1 fun e w' => e = .returned (.bool (!scB Q x)) ∧ Below w1.heap.size w1 w'
  obtain ⟨c0, c1, c2⟩ := hx.out.below hb
  by_cases h0 : x < 0
  · have e : scB Q x = false := by simp [scB]; omega
    rw [e]
    have d0 : decide (x < 0) = true := by simp; omega
    clear hb e
    go_enter Tryd.func131, Tryd.ntmps131
    go_wp2
    go_ret
    exact ⟨rfl, Below.refl _ _⟩
  · have d0 : decide (x < 0) = false := by simp; omega
    obtain ⟨t, ht⟩ : ∃ t, decide (Q ≤ x) = t := ⟨_, rfl⟩
    have e : scB Q x = !t := by
      rw [← ht, scB, decide_eq_true (show (0 : Int) ≤ x by omega), Bool.true_and, ← decide_not]
      exact decide_eq_decide.2 (by omega)
    rw [e, Bool.not_not]
    clear hb e
    go_enter Tryd.func131, Tryd.ntmps131
    go_wp2
    go_ret
    exact ⟨by first | rfl | rw [ht], Below.refl _ _⟩
set_option maxHeartbeats 800000 in
/-- choice.scalar. -/
theorem cscalar_any (P Q G x : Int) (r : Bool) (hr : Hid (scB Q x = r)) (w : World) :
    Calls Tryd.prog 67 #[gv P Q G, .int .i64 x] w fun e' w' => e' = .returned (.bool r) ∧ Below w.heap.size w w' := by
  have hb := below_box0 w (gObj P Q G)
  by_cases h0 : 0 ≤ x
  · have d0 : decide (0 ≤ x) = true := by simp; omega
    obtain ⟨t, ht⟩ : ∃ t, decide (x < Q) = t := ⟨_, rfl⟩
    obtain rfl : r = t := by rw [← hr.out, scB, d0, ht, Bool.true_and]
    go_enter Tryd.func67, Tryd.ntmps67
    go_wp2
    go_ret
    exact ⟨by first | rfl | rw [ht], hb⟩
  · have d0 : decide (0 ≤ x) = false := by simp; omega
    obtain rfl : r = false := by rw [← hr.out, scB, d0, Bool.false_and]
    go_enter Tryd.func67, Tryd.ntmps67
    go_wp2
    go_ret
    exact ⟨rfl, hb⟩
theorem says_csu (P Q G : Int) (a : Nat) (W : World) (hx : Hid (GBox W a P Q G)) :
    Says 66 #[.pointer (some ⟨a, 0, none⟩)] (fun x => !scB Q x) W := fun x w1 hb => by
  show Calls Tryd.prog 66 #[.int .i64 x, .pointer (some ⟨a, 0, none⟩)] w1 fun e w' => e = .returned (.bool (!scB Q x)) ∧ Below w1.heap.size w1 w'
  obtain ⟨c0, c1, c2⟩ := hx.out.below hb
  obtain ⟨r, hr⟩ : ∃ r, scB Q x = r := ⟨_, rfl⟩
  have HR := Lib.hid hr
  rw [hr]
  clear hr hb
  go_enter Tryd.func66, Tryd.ntmps66
  go_wp2_with fail
  refine (cscalar_any P Q G x r HR _).mono ?_
  rintro e w2 ⟨rfl, hb0⟩
  go_wp2
  go_ret
  exact ⟨rfl, hb0⟩
theorem says_csi (P Q G : Int) (a : Nat) (W : World) (hx : Hid (GBox W a P Q G)) :
    Says 77 #[.pointer (some ⟨a, 0, none⟩)] (fun x => !scB Q x) W := fun x w1 hb => by
  show Calls Tryd.prog 77 #[.int .i64 x, .pointer (some ⟨a, 0, none⟩)] w1 fun e w' => e = .returned (.bool (!scB Q x)) ∧ Below w1.heap.size w1 w'
  obtain ⟨c0, c1, c2⟩ := hx.out.below hb
  obtain ⟨r, hr⟩ : ∃ r, scB Q x = r := ⟨_, rfl⟩
  have HR := Lib.hid hr
  rw [hr]
  clear hr hb
  go_enter Tryd.func77, Tryd.ntmps77
  go_wp2_with fail
  refine (cscalar_any P Q G x r HR _).mono ?_
  rintro e w2 ⟨rfl, hb0⟩
  go_wp2
  go_ret
  exact ⟨rfl, hb0⟩
theorem pexponents_any (P Q G : Int) (A : Option Addr) (xs : List Int) (n c : Nat) (r : Bool) (hr : Hid (xs.all (scB Q) = r)) (hn : Hid (xs.length = n)) (hbig : Hid (n < 1000000)) (w : World) (hs : Hid (Sl w A xs)) :
    Calls Tryd.prog 118 #[gv P Q G, .slice A n c] w fun e' w' => e' = .returned (.bool r) ∧ Below w.heap.size w w' := by
  have HX0 := Lib.hid (gbox_alloc w P Q G)
  have HS0 := Lib.hid (hs.out.below (below_box0 w (gObj P Q G)))
  have HSy := Lib.hid (says_pex P Q G w.heap.size _ HX0)
  have HP : Hid ((xs.any fun x => !scB Q x) = !r) := Lib.hid (by rw [any_not_all, hr.out])
  clear hs
  go_enter Tryd.func118, Tryd.ntmps118
  go_wp2_with fail
  refine (cf_pex (.pointer (some ⟨w.heap.size, 0, none⟩)) (fun x => !scB Q x) (!r) A xs n c HP hn hbig _ HS0 HSy).mono ?_
  rintro e w1 ⟨rfl, hb0⟩
  have hb1 := below_ext (below_box0 _ _) hb0
  clear hb0
  go_wp2
  go_ret
  exact ⟨by simp, hb1⟩
theorem pelements_any (P Q G : Int) (A : Option Addr) (xs : List Int) (n c : Nat) (r : Bool) (hr : Hid (xs.all (conG P Q G) = r)) (hn : Hid (xs.length = n)) (hbig : Hid (n < 1000000)) (hQ : Q < 9223372036854775808) (w : World) (hv : Hid (Vars w)) (hs : Hid (Sl w A xs)) :
    Calls Tryd.prog 117 #[gv P Q G, .slice A n c] w fun e' w' => e' = .returned (.bool r) ∧ Below w.heap.size w w' := by
  have HX0 := Lib.hid (gbox_alloc w P Q G)
  have HV0 := Lib.hid (hv.out.below (below_box0 w (gObj P Q G)))
  have HS0 := Lib.hid (hs.out.below (below_box0 w (gObj P Q G)))
  have HSy := Lib.hid (says_pel P Q G w.heap.size hQ _ HX0 HV0)
  have HP : Hid ((xs.any fun x => !conG P Q G x) = !r) := Lib.hid (by rw [any_not_all, hr.out])
  clear hs hv
  go_enter Tryd.func117, Tryd.ntmps117
  go_wp2_with fail
  refine (cf_pel (.pointer (some ⟨w.heap.size, 0, none⟩)) (fun x => !conG P Q G x) (!r) A xs n c HP hn hbig _ HS0 HSy).mono ?_
  rintro e w1 ⟨rfl, hb0⟩
  have hb1 := below_ext (below_box0 _ _) hb0
  clear hb0
  go_wp2
  go_ret
  exact ⟨by simp, hb1⟩
theorem all_con {P Q G : Int} {xs : List Int} (hv : validG P Q G = true) : xs.all (conG P Q G) = xs.all (memG P Q) := by
  congr 1
  funext x
  rw [conG, hv, Bool.true_and]
end Go.Proofs.YtijedphpcocfnaaDoor
namespace Go.Proofs.YtijedphpcocfnaaDoor
open Go.RowKit SpM
set_option linter.unusedVariables false
set_option linter.unusedSimpArgs false
set_option maxRecDepth 100000
set_option maxHeartbeats 12800000 in
theorem ppowers_ok (P Q G : Int) (A : Option Addr) (xs : List Int) (n c : Nat) (E : Option Addr) (es : List Int) (d : Nat) (V : Int) (hV : Hid (prodF P 1 xs es = V)) (hn : Hid (xs.length = n)) (hm : Hid (es.length = n)) (hbig : n < 1000000)
    (hg : Hid (validG P Q G = true)) (hx : Hid (xs.all (memG P Q) = true)) (he : Hid (es.all (scB Q) = true)) (hQ : Q < 9223372036854775808) (w : World) (hv : Hid (Vars w)) (hA : Hid (Sl w A xs)) (hE : Hid (Sl w E es)) :
    Calls Tryd.prog 119 #[gv P Q G, .slice A n c, .slice E n d] w fun e' w' => e' = .returned (.tuple #[.int .i64 V, .int .i64 0]) ∧ Below w.heap.size w w' := by
  obtain ⟨hp2, hp, hq3, hqp⟩ := validG_P hg.out
  obtain ⟨w0, hW⟩ : ∃ W, (w.alloc (gObj P Q G)) = W := ⟨_, rfl⟩
  have HBw : Hid (Below w.heap.size w w0) := Lib.hid (by rw [← hW]; exact below_box0 _ _)
  have hc : w0.cell? ⟨w.heap.size, 0, none⟩ = some (.int .i64 P) ∧ w0.cell? ⟨w.heap.size, 1, none⟩ = some (.int .i64 Q) ∧ w0.cell? ⟨w.heap.size, 2, none⟩ = some (.int .i64 G) := by rw [← hW]; exact ⟨allocs_cell (by simp) (by rfl), allocs_cell (by simp) (by rfl), allocs_cell (by simp) (by rfl)⟩
  have kC := Lib.hid (show ∀ u : World, Hid (Below w0.heap.size w0 u) → u.cell? ⟨w.heap.size, 0, none⟩ = some (.int .i64 P) ∧ u.cell? ⟨w.heap.size, 1, none⟩ = some (.int .i64 Q) ∧ u.cell? ⟨w.heap.size, 2, none⟩ = some (.int .i64 G) from fun u h => ⟨cell_below hc.1 h.out, cell_below hc.2.1 h.out, cell_below hc.2.2 h.out⟩)
  have kV := Lib.hid (show ∀ u : World, Hid (Below w0.heap.size w0 u) → Hid (Vars u) from fun u h => Lib.hid ((hv.out.below) (below_ext HBw.out h.out)))
  have kA := Lib.hid (show ∀ u : World, Hid (Below w0.heap.size w0 u) → Hid (Sl u A xs) from fun u h => Lib.hid ((hA.out.below) (below_ext HBw.out h.out)))
  have kE := Lib.hid (show ∀ u : World, Hid (Below w0.heap.size w0 u) → Hid (Sl u E es) from fun u h => Lib.hid ((hE.out.below) (below_ext HBw.out h.out)))
  have HB_0 : Hid (Below w0.heap.size w0 w0) := Lib.hid (Below.refl _ _)
  have HW := Lib.hid hW
  clear hW hc hv hA hE
  go_enter Tryd.func119, Tryd.ntmps119
  go_wp2
  rw [HW.out]
  go_loopw [8, 15] (fun o i wr => ∃ (k : Nat) (acc : Int), k ≤ n ∧ i = .int .i64 k ∧ o = .int .i64 acc ∧ Hid (memG P Q acc = true) ∧ Hid (prodF P acc (xs.drop k) (es.drop k) = V) ∧ Hid (Below w0.heap.size w0 wr)) (fun _ i _ => n - (intOf i).toNat)
  case atStart => exact ⟨0, 1, by omega, rfl, rfl, Lib.hid (mem_one hp2), prodF_start hV, Lib.hid (Below.refl _ _)⟩
  case round =>
    obtain ⟨k, acc, hk, rfl, rfl, HM, HPF, HBr⟩ := hrel
    obtain ⟨wo, rfl⟩ : ∃ wo : World, wo = wr := ⟨_, rfl⟩
    by_cases hlt : k < n
    · have hkl : k < xs.length := by rw [hn.out]; exact hlt
      have hke : k < es.length := by rw [hm.out]; exact hlt
      obtain ⟨b1, o1, hA1, hi0⟩ := (kA.out _ HBr).out k hkl
      obtain ⟨b2, o2, hA2, hi1⟩ := (kE.out _ HBr).out k hke
      subst hA1
      subst hA2
      obtain ⟨c0, c1, c2⟩ := kC.out _ HBr
      have hm1 := all_get hx.out hkl
      have hm2 := all_get he.out hke
      have hst := prodF_step (P := P) (acc := acc) hkl hke
      obtain ⟨x, hxx⟩ : ∃ x, xs.getD k 0 = x := ⟨_, rfl⟩
      obtain ⟨e, hee⟩ : ∃ x, es.getD k 0 = x := ⟨_, rfl⟩
      rw [hxx] at hi0 hm1 hst
      rw [hee] at hi1 hm2 hst
      have e0 := scB_lo hm2
      have e1 := scB_hi hm2
      obtain ⟨p, hpw⟩ : ∃ p, pw x e P = p := ⟨_, rfl⟩
      have hmp : memG P Q p = true := by rw [← hpw]; exact mem_pw hp2 (by omega) e0 hm1
      have hee2 : e % Q = e := Int.emod_eq_of_lt e0 e1
      have HPW : Hid (pw x (e % Q) P = p) := Lib.hid (by rw [hee2]; exact hpw)
      have HC1 : Hid (chkG P Q G [x] = 0) := Lib.hid (chkG_ok hg.out (by simpa using hm1))
      have HC2 : Hid (chkG P Q G [acc, p] = 0) := Lib.hid (chkG_ok hg.out (by simp [HM.out, hmp]))
      obtain ⟨t, ht⟩ : ∃ t, acc * p % P = t := ⟨_, rfl⟩
      have HT := Lib.hid ht
      have HMT : Hid (memG P Q t = true) := Lib.hid (by rw [← ht]; exact mem_mul hp2 (by omega) HM.out hmp)
      have HPF2 : Hid (prodF P t (xs.drop (k + 1)) (es.drop (k + 1)) = V) := Lib.hid (by rw [← HPF.out, hst, hpw, ht])
      have hS := Lib.hid (show ∀ u1 : World, Hid (Below w0.heap.size w0 u1) → Below wo.heap.size wo u1 → (u1.cell? ⟨w.heap.size, 0, none⟩ = some (.int .i64 P) ∧ u1.cell? ⟨w.heap.size, 1, none⟩ = some (.int .i64 Q) ∧ u1.cell? ⟨w.heap.size, 2, none⟩ = some (.int .i64 G) ∧ u1.cell? ⟨b2, o2 + k, none⟩ = some (.int .i64 e) ∧ Hid (Below w0.heap.size w0 u1)) from fun u1 h1 h2 => ⟨cell_below c0 h2, cell_below c1 h2, cell_below c2 h2, cell_below hi1 h2, h1⟩)
      have HI1 := Lib.hid hi1
      clear hm1 hm2 hst hxx hee hpw hmp hee2 ht hkl hke hi1
      go_wp2
      clear c0 c1 c2 hi0
      go_region_held3 (fun w' => w'.cell? ⟨w.heap.size, 0, none⟩ = some (.int .i64 P) ∧ w'.cell? ⟨w.heap.size, 1, none⟩ = some (.int .i64 Q) ∧ w'.cell? ⟨w.heap.size, 2, none⟩ = some (.int .i64 G) ∧ w'.cell? ⟨b2, o2 + k, none⟩ = some (.int .i64 e) ∧ Hid (Below w0.heap.size w0 w'))
        (first | exact hS.out _ (Lib.hid HBr.out.drew) ((Below.refl _ _).drew) | exact hS.out _ (Lib.hid (below_ext HBr.out.drew hbA)) (Below.trans ((Below.refl _ _).drew) hbA) | go_keep)
        ((first | (go_at_call 37; (with_reducible refine (gpow_ok P Q G x e p HC1 HPW (by omega) (by omega) _ ?_).mono ?_); (go_split_ands; exact kV.out _ (by assumption)); rintro e' wA ⟨rfl, hbA⟩)))
      rename_i hHeld
      obtain ⟨c0, c1, c2, _, HBA⟩ := hHeld
      go_wp2_with fail
      refine (gmul_ok P Q G acc p t HC2 HT hQ _ (kV.out _ HBA)).mono ?_
      rintro e' w2 ⟨rfl, hb0⟩
      have HB2 := Lib.hid (below_ext HBA.out hb0)
      clear hb0 c0 c1 c2
      go_wp2
      go_roundw
      case rel => exact ⟨k + 1, t, by omega, by go_num, rfl, HMT, HPF2, HB2⟩
      case measure => simp [intOf]; omega
    · obtain rfl : k = n := by omega
      have hacc := prodF_end hn.out HPF
      have hbF := below_ext HBw.out HBr.out
      clear HPF hlt
      subst hacc
      go_wp2
      go_ret2
      exact ⟨rfl, hbF⟩
set_option maxHeartbeats 6400000 in
theorem pproduct_ok (P Q G : Int) (A : Option Addr) (xs : List Int) (n c : Nat) (E : Option Addr) (es : List Int) (d : Nat) (V : Int) (hV : Hid (prodF P 1 xs es = V)) (hn : Hid (xs.length = n)) (hm : Hid (es.length = n)) (hbig : n ≤ 100)
    (hg : Hid (validG P Q G = true)) (hx : Hid (xs.all (memG P Q) = true)) (he : Hid (es.all (scB Q) = true)) (hQ : Q < 9223372036854775808) (w : World) (hv : Hid (Vars w)) (hA : Hid (Sl w A xs)) (hE : Hid (Sl w E es)) :
    Calls Tryd.prog 105 #[gv P Q G, .slice A n c, .slice E n d] w fun e' w' => e' = .returned (.tuple #[.int .i64 V, .int .i64 0]) ∧ Below w.heap.size w w' := by
  have e1 : ((n : Int) != (n : Int)) = false := by simp
  have e2 : decide ((100 : Int) < (n : Int)) = false := by simp; omega
  have HCX : Hid (xs.all (conG P Q G) = true) := Lib.hid ((all_con hg.out).trans hx.out)
  obtain ⟨w0, hW⟩ : ∃ W, (w.alloc (gObj P Q G)) = W := ⟨_, rfl⟩
  have HBw : Hid (Below w.heap.size w w0) := Lib.hid (by rw [← hW]; exact below_box0 _ _)
  have hc : w0.cell? ⟨w.heap.size, 0, none⟩ = some (.int .i64 P) ∧ w0.cell? ⟨w.heap.size, 1, none⟩ = some (.int .i64 Q) ∧ w0.cell? ⟨w.heap.size, 2, none⟩ = some (.int .i64 G) := by rw [← hW]; exact ⟨allocs_cell (by simp) (by rfl), allocs_cell (by simp) (by rfl), allocs_cell (by simp) (by rfl)⟩
  have kC := Lib.hid (show ∀ u : World, Hid (Below w0.heap.size w0 u) → u.cell? ⟨w.heap.size, 0, none⟩ = some (.int .i64 P) ∧ u.cell? ⟨w.heap.size, 1, none⟩ = some (.int .i64 Q) ∧ u.cell? ⟨w.heap.size, 2, none⟩ = some (.int .i64 G) from fun u h => ⟨cell_below hc.1 h.out, cell_below hc.2.1 h.out, cell_below hc.2.2 h.out⟩)
  have kV := Lib.hid (show ∀ u : World, Hid (Below w0.heap.size w0 u) → Hid (Vars u) from fun u h => Lib.hid ((hv.out.below) (below_ext HBw.out h.out)))
  have kA := Lib.hid (show ∀ u : World, Hid (Below w0.heap.size w0 u) → Hid (Sl u A xs) from fun u h => Lib.hid ((hA.out.below) (below_ext HBw.out h.out)))
  have kE := Lib.hid (show ∀ u : World, Hid (Below w0.heap.size w0 u) → Hid (Sl u E es) from fun u h => Lib.hid ((hE.out.below) (below_ext HBw.out h.out)))
  have HB_0 : Hid (Below w0.heap.size w0 w0) := Lib.hid (Below.refl _ _)
  have HW := Lib.hid hW
  clear hW hc hv hA hE
  go_enter Tryd.func105, Tryd.ntmps105
  go_wp2_with fail
  rw [HW.out]
  obtain ⟨zc0, zc1, zc2⟩ := kC.out _ HB_0
  go_wp2_with fail
  refine (valid_any P Q G true hg hQ _ (kV.out _ HB_0)).mono ?_
  rintro e w1 ⟨rfl, hb0⟩
  have HB_1 := Lib.hid (below_ext HB_0.out hb0)
  clear zc0 zc1 zc2
  clear hb0
  obtain ⟨zc0, zc1, zc2⟩ := kC.out _ HB_1
  go_wp2_with fail
  refine (pelements_any P Q G A xs n c true HCX hn (Lib.hid (by omega)) hQ _ (kV.out _ HB_1) (kA.out _ HB_1)).mono ?_
  rintro e w2 ⟨rfl, hb0⟩
  have HB_2 := Lib.hid (below_ext HB_1.out hb0)
  clear zc0 zc1 zc2
  clear hb0
  obtain ⟨zc0, zc1, zc2⟩ := kC.out _ HB_2
  go_wp2_with fail
  refine (pexponents_any P Q G E es n d true he hm (Lib.hid (by omega)) _ (kE.out _ HB_2)).mono ?_
  rintro e w3 ⟨rfl, hb0⟩
  have HB_3 := Lib.hid (below_ext HB_2.out hb0)
  clear zc0 zc1 zc2
  clear hb0
  obtain ⟨zc0, zc1, zc2⟩ := kC.out _ HB_3
  go_wp2_with fail
  refine (ppowers_ok P Q G A xs n c E es d V hV hn hm (by omega) hg hx he hQ _ (kV.out _ HB_3) (kA.out _ HB_3) (kE.out _ HB_3)).mono ?_
  rintro e w4 ⟨rfl, hb0⟩
  have HB_4 := Lib.hid (below_ext HB_3.out hb0)
  clear zc0 zc1 zc2
  clear hb0
  obtain ⟨zc0, zc1, zc2⟩ := kC.out _ HB_4
  have hbF := below_ext HBw.out HB_4.out
  go_wp2
  go_ret2
  exact ⟨rfl, hbF⟩
set_option maxHeartbeats 6400000 in
theorem pcheck_ok (P Q G y : Int) (A : Option Addr) (xs : List Int) (n c : Nat) (E : Option Addr) (es : List Int) (d : Nat) (r : Bool) (hr : Hid ((prodF P 1 xs es == y) = r)) (hn : Hid (xs.length = n)) (hm : Hid (es.length = n)) (hbig : n ≤ 100)
    (hg : Hid (validG P Q G = true)) (hx : Hid (xs.all (memG P Q) = true)) (he : Hid (es.all (scB Q) = true)) (hQ : Q < 9223372036854775808) (w : World) (hv : Hid (Vars w)) (hA : Hid (Sl w A xs)) (hE : Hid (Sl w E es)) :
    Calls Tryd.prog 100 #[gv P Q G, .int .i64 y, .slice A n c, .slice E n d] w fun e' w' => e' = .returned (.bool r) ∧ Below w.heap.size w w' := by
  obtain ⟨V, hV⟩ : ∃ V, prodF P 1 xs es = V := ⟨_, rfl⟩
  have HV := Lib.hid hV
  have hr2 : ((V : Int) == y) = r := by rw [← hV]; exact hr.out
  clear hV
  obtain ⟨w0, hW⟩ : ∃ W, (w.alloc (gObj P Q G)) = W := ⟨_, rfl⟩
  have HBw : Hid (Below w.heap.size w w0) := Lib.hid (by rw [← hW]; exact below_box0 _ _)
  have hc : w0.cell? ⟨w.heap.size, 0, none⟩ = some (.int .i64 P) ∧ w0.cell? ⟨w.heap.size, 1, none⟩ = some (.int .i64 Q) ∧ w0.cell? ⟨w.heap.size, 2, none⟩ = some (.int .i64 G) := by rw [← hW]; exact ⟨allocs_cell (by simp) (by rfl), allocs_cell (by simp) (by rfl), allocs_cell (by simp) (by rfl)⟩
  have kC := Lib.hid (show ∀ u : World, Hid (Below w0.heap.size w0 u) → u.cell? ⟨w.heap.size, 0, none⟩ = some (.int .i64 P) ∧ u.cell? ⟨w.heap.size, 1, none⟩ = some (.int .i64 Q) ∧ u.cell? ⟨w.heap.size, 2, none⟩ = some (.int .i64 G) from fun u h => ⟨cell_below hc.1 h.out, cell_below hc.2.1 h.out, cell_below hc.2.2 h.out⟩)
  have kV := Lib.hid (show ∀ u : World, Hid (Below w0.heap.size w0 u) → Hid (Vars u) from fun u h => Lib.hid ((hv.out.below) (below_ext HBw.out h.out)))
  have kA := Lib.hid (show ∀ u : World, Hid (Below w0.heap.size w0 u) → Hid (Sl u A xs) from fun u h => Lib.hid ((hA.out.below) (below_ext HBw.out h.out)))
  have kE := Lib.hid (show ∀ u : World, Hid (Below w0.heap.size w0 u) → Hid (Sl u E es) from fun u h => Lib.hid ((hE.out.below) (below_ext HBw.out h.out)))
  have HB_0 : Hid (Below w0.heap.size w0 w0) := Lib.hid (Below.refl _ _)
  have HW := Lib.hid hW
  clear hW hc hv hA hE
  go_enter Tryd.func100, Tryd.ntmps100
  go_wp2_with fail
  rw [HW.out]
  obtain ⟨zc0, zc1, zc2⟩ := kC.out _ HB_0
  go_wp2_with fail
  refine (pproduct_ok P Q G A xs n c E es d V HV hn hm hbig hg hx he hQ _ (kV.out _ HB_0) (kA.out _ HB_0) (kE.out _ HB_0)).mono ?_
  rintro e w1 ⟨rfl, hb0⟩
  have HB_1 := Lib.hid (below_ext HB_0.out hb0)
  clear zc0 zc1 zc2
  clear hb0
  obtain ⟨zc0, zc1, zc2⟩ := kC.out _ HB_1
  have hbF := below_ext HBw.out HB_1.out
  go_wp2
  go_ret
  exact ⟨by first | rfl | rw [hr2], hbF⟩
end Go.Proofs.YtijedphpcocfnaaDoor
namespace Go.Proofs.YtijedphpcocfnaaDoor
open Go
section
variable {P : Program} {ops : Array Oper} {Q : Exit → Act → World → Prop} {md : Region.Mode} {S : World → Prop} {E : List Nat}
/-- Whatever order is picked, and S holds behind every operation but those of E. -/
def wpT (P : Program) (md : Region.Mode) (ops : Array Oper) (Q : Exit → Act → World → Prop) (S : World → Prop) (E : List Nat) : Nat → Array Bool → Act → World → Prop
  | 0, listed, a, w => Region.ready md ops listed = [] ∧ Q .normal a w
  | fuel + 1, listed, a, w =>
    (Region.ready md ops listed = [] → Q .normal a w) ∧
    ∀ i ∈ Region.ready md ops listed, wpOp P ops Q i (fun a' w' => (i ∉ E → S w') ∧ wpT P md ops Q S E fuel (listed.setIfInBounds i true) a' w') a w
theorem wpAny_of_T : ∀ (fuel : Nat) (listed : Array Bool) (a : Act) (w : World), wpT P md ops Q S E fuel listed a w → wpAny P md ops Q fuel listed a w
  | 0, _, _, _, h => h
  | fuel + 1, _, _, _, h => ⟨h.1, fun i hi => wpOp_mono (fun a' w' h' => wpAny_of_T fuel _ a' w' h'.2) (h.2 i hi)⟩
/-- the operations that wait for i, one behind another. -/
def depsOf (md : Region.Mode) (ops : Array Oper) (i : Nat) : List Nat :=
  (List.range ops.size).foldl (fun C x => if ((ops[x]?).map (·.after.any fun e => Region.binds md e && (e.on == i || C.contains e.on))).getD false then x :: C else C) []
/-- those of E wait for i, by way of operations that have not come up. -/
def lateB (md : Region.Mode) (ops : Array Oper) (listed : Array Bool) (i : Nat) (E : List Nat) : Bool :=
  (E.all fun s => (depsOf md ops i).contains s) && (depsOf md ops i).all fun x => !listed.getD x true && ((ops[x]?).map (·.after.any fun e => Region.binds md e && (e.on == i || (depsOf md ops i).contains e.on))).getD false
/-- what lateB says. -/
def Late (md : Region.Mode) (ops : Array Oper) (C : List Nat) (listed : Array Bool) (i : Nat) : Prop :=
  ∀ x ∈ C, listed.getD x true = false ∧ ∃ o, ops[x]? = some o ∧ ∃ e ∈ o.after, Region.binds md e = true ∧ (e.on = i ∨ e.on ∈ C)
theorem lateB_spec {listed : Array Bool} {i : Nat} (h : lateB md ops listed i E = true) : (∀ s ∈ E, s ∈ depsOf md ops i) ∧ Late md ops (depsOf md ops i) listed i := by
  unfold lateB at h
  rw [Bool.and_eq_true] at h
  refine ⟨fun s hs => by simpa using List.all_eq_true.1 h.1 s hs, fun x hx => ?_⟩
  have h2 := List.all_eq_true.1 h.2 x hx
  rw [Bool.and_eq_true] at h2
  refine ⟨by simpa using h2.1, ?_⟩
  have h3 := h2.2
  cases ho : ops[x]? with
  | none => rw [ho] at h3; simp at h3
  | some o =>
    rw [ho] at h3
    simp only [Option.map_some, Option.getD_some] at h3
    obtain ⟨e, he, hb⟩ := Array.any_eq_true'.1 h3
    simp only [Bool.and_eq_true, Bool.or_eq_true, beq_iff_eq] at hb
    exact ⟨o, rfl, e, he, hb.1, hb.2.imp id (by simp)⟩
theorem Late.not_ready {C : List Nat} {listed : Array Bool} {i j : Nat} (h : Late md ops C listed i) (hi : listed.getD i true = false) (hj : j ∈ Region.ready md ops listed) : j ∉ C := fun hc => by
  obtain ⟨_, o, ho, e, he, hb, h4⟩ := h j hc
  obtain ⟨_, o', ho', hall⟩ := mem_ready.1 hj
  rw [ho] at ho'
  cases ho'
  have h5 := hall e he hb
  have h6 : listed.getD e.on true = false := by
    rcases h4 with h4 | h4
    · rw [h4]; exact hi
    · exact (h _ h4).1
  rcases Nat.lt_or_ge e.on listed.size with h' | h'
  · simp [h'] at h5 h6; rw [h6] at h5; cases h5
  · simp [Array.getElem?_eq_none h'] at h5
theorem Late.step {C : List Nat} {listed : Array Bool} {i j : Nat} (h : Late md ops C listed i) (hj : j ∉ C) : Late md ops C (listed.setIfInBounds j true) i := fun x hx => by
  obtain ⟨h1, h2⟩ := h x hx
  have hne : j ≠ x := fun e => hj (by rw [e]; exact hx)
  exact ⟨by rw [getD_set_ne true hne]; exact h1, h2⟩
theorem wpT_first {i : Nat} {oi : Oper} {v : Value} {C : List Nat} (hs : ∀ s ∈ E, s ∈ C) (hi : ops[i]? = some oi) (hsel : ∀ (j : Nat) (o : Oper) cs b, ops[j]? = some o → o.op ≠ .select cs b)
    (hQ : ∀ c a w, Q (.panic c) (a.put oi.dst v) w → Q (.panic c) a w) :
    ∀ (fuel : Nat) (listed : Array Bool) (a : Act) (w : World),
      (∀ j oj, ops[j]? = some oj → j ≠ i → listed.getD j true = false → (∀ e ∈ oj.after, Region.binds md e = true → e.on ≠ i) → oi.apart ops oj = true) →
      Late md ops C listed i → i ∈ Region.ready md ops listed → YieldsIf P ops S oi v a → S w →
      wpT P md ops Q S E fuel (listed.setIfInBounds i true) (a.put oi.dst v) w → wpT P md ops Q S E (fuel + 1) listed a w := by
  intro fuel
  induction fuel with
  | zero =>
    intro listed a w _ _ hr hy hS H
    refine ⟨fun h => (by rw [h] at hr; cases hr), fun j hj => ?_⟩
    by_cases hji : j = i
    · subst hji; exact hy.wpOp hi hS ⟨fun _ => hS, H⟩
    · have := ready_mono hj hji
      rw [H.1] at this
      cases this
  | succ fuel ih =>
    intro listed a w hfree hlate hr hy hS H
    refine ⟨fun h => (by rw [h] at hr; cases hr), fun j hj => ?_⟩
    by_cases hji : j = i
    · subst hji; exact hy.wpOp hi hS ⟨fun _ => hS, H⟩
    · have h1 := H.2 j (ready_mono hj hji)
      have hiun := (mem_ready.1 hr).1
      have hjC := hlate.not_ready hiun hj
      have hjs : j ∉ E := fun e => hjC (hs j e)
      obtain ⟨hjun, oj, hoj, hall⟩ := mem_ready.1 hj
      have hnot : ∀ e ∈ oj.after, Region.binds md e = true → e.on ≠ i := fun e he hb heq => by
        have h1 := hall e he hb
        have h0 := (mem_ready.1 hr).1
        rw [heq] at h1
        rcases Nat.lt_or_ge i listed.size with h' | h'
        · simp [h'] at h0 h1; rw [h0] at h1; cases h1
        · simp [Array.getElem?_eq_none h'] at h1
      have h2 := wpOp_putIf hoj (hfree j oj hoj hji hjun hnot) (fun cs b => hsel i oi cs b hi) (fun cs b => hsel j oj cs b hoj) hQ hy h1
      have hfree' : ∀ k ok, ops[k]? = some ok → k ≠ i → (listed.setIfInBounds j true).getD k true = false →
          (∀ e ∈ ok.after, Region.binds md e = true → e.on ≠ i) → oi.apart ops ok = true := fun k ok hk hki hun hno => by
        refine hfree k ok hk hki ?_ hno
        by_cases hjk : j = k
        · subst hjk; exact hjun
        · rw [getD_set_ne true hjk] at hun; exact hun
      refine wpOp_mono (fun a' w' h3 => ⟨fun _ => h3.2.1 hjs, ih (listed.setIfInBounds j true) a' w' hfree' (hlate.step hjC) (ready_mono hr (Ne.symm hji)) h3.1 (h3.2.1 hjs) ?_⟩) h2
      rw [Array.setIfInBounds_comm _ _ hji]
      exact h3.2.2
/-- Take number i first. -/
theorem wpT_take {i : Nat} {oi : Oper} {v : Value} {fuel : Nat} {listed : Array Bool} {a : Act} {w : World} (hi : ops[i]? = some oi)
    (hs : Region.noSelect ops = true) (hf : Region.free md ops listed i = true) (hr : (Region.ready md ops listed).contains i = true) (hl : lateB md ops listed i E = true)
    (hQ : ∀ c a w, Q (.panic c) (a.put oi.dst v) w → Q (.panic c) a w) (hy : YieldsIf P ops S oi v a) (hS : S w)
    (h : wpT P md ops Q S E fuel (listed.setIfInBounds i true) (a.put oi.dst v) w) : wpT P md ops Q S E (fuel + 1) listed a w :=
  wpT_first (lateB_spec hl).1 hi (Region.noSelect_spec hs) hQ fuel listed a w (Region.free_spec hi hf) (lateB_spec hl).2 (by simpa using hr) hy hS h
/-- The only one that may come up comes up: S is to be shown anew. -/
theorem wpT_one {i : Nat} {o : Oper} {fuel : Nat} {listed : Array Bool} {a : Act} {w : World} (hr : Region.ready md ops listed = [i]) (ho : ops[i]? = some o)
    (h : ∀ K' : Act → World → Prop, Shut (∀ a w, S w → (S w → wpT P md ops Q S E fuel (listed.setIfInBounds i true) a w) → K' a w) → if Region.wanted o (yielded ops a.tmps) = true then Oper.wp P o a w K' Q else K' (a.put o.dst undef) w) :
    wpT P md ops Q S E (fuel + 1) listed a w :=
  ⟨fun h0 => absurd (hr ▸ h0) (by simp), fun j hj => by
    rw [hr] at hj
    obtain rfl : j = i := by simpa using hj
    exact wpOp_step ho (fun K' hK => h K' (fun a w hS hW => hK a w ⟨fun _ => hS, hW hS⟩))⟩
/-- One of E comes up, alone: S is not asked for. -/
theorem wpT_pass {i : Nat} {o : Oper} {fuel : Nat} {listed : Array Bool} {a : Act} {w : World} (hr : Region.ready md ops listed = [i]) (hE : i ∈ E) (ho : ops[i]? = some o)
    (h : ∀ K' : Act → World → Prop, Shut (∀ a w, wpT P md ops Q S E fuel (listed.setIfInBounds i true) a w → K' a w) → if Region.wanted o (yielded ops a.tmps) = true then Oper.wp P o a w K' Q else K' (a.put o.dst undef) w) :
    wpT P md ops Q S E (fuel + 1) listed a w :=
  ⟨fun h0 => absurd (hr ▸ h0) (by simp), fun j hj => by
    rw [hr] at hj
    obtain rfl : j = i := by simpa using hj
    exact wpOp_step ho (fun K' hK => h K' (fun a w hW => hK a w ⟨fun h => absurd hE h, hW⟩))⟩
/-- All have come up. -/
theorem wpT_done {listed : Array Bool} {a : Act} {w : World} (hr : Region.ready md ops listed = []) (h : Q .normal a w) : ∀ fuel, wpT P md ops Q S E fuel listed a w
  | 0 => ⟨hr, h⟩
  | _ + 1 => ⟨fun _ => h, by rw [hr]; simp⟩
/-- The beginning. -/
theorem wp_region_T {id : Nat} {a : Act} {w : World} (hm : P.follows .mixedOrders = true) (hS : S w.drew)
    (h : S w.drew → wpT P .any ops Q S E ops.size (Array.replicate ops.size false) a w.drew) : (Code.region id ops true).wp P Q a w :=
  wp_region_any hm (wpAny_of_T _ _ _ _ (h hS))
end
end Go.Proofs.YtijedphpcocfnaaDoor
namespace Go.Proofs.YtijedphpcocfnaaDoor
open Go.RowKit SpM
set_option linter.unusedVariables false
set_option linter.unusedSimpArgs false
set_option maxRecDepth 20000
theorem scB_neg {Q x : Int} (h : x < 0) : scB Q x = false := by simp [scB]; omega
theorem scB_big {Q x : Int} (h : Q ≤ x) : scB Q x = false := by simp [scB]; omega
theorem scB_in {Q x : Int} (h0 : ¬ x < 0) (h1 : ¬ Q ≤ x) : scB Q x = true := by simp [scB]; omega
theorem all_step {f : Int → Bool} {xs : List Int} {k : Nat} (hk : k < xs.length) (h : f (xs.getD k 0) = true) : (xs.drop k).all f = (xs.drop (k + 1)).all f := by
  rw [List.drop_eq_getElem_cons hk, List.all_cons]
  rw [List.getD_eq_getElem?_getD, List.getElem?_eq_getElem hk] at h
  simp at h
  rw [h, Bool.true_and]
theorem all_hit {f : Int → Bool} {xs : List Int} {k : Nat} (hk : k < xs.length) (h : f (xs.getD k 0) = false) : (xs.drop k).all f = false := by
  rw [List.drop_eq_getElem_cons hk, List.all_cons]
  rw [List.getD_eq_getElem?_getD, List.getElem?_eq_getElem hk] at h
  simp at h
  rw [h, Bool.false_and]
/-- two lists of one length. -/
def sameB : List Int → List Int → Bool
  | x :: xs, y :: ys => (x == y) && sameB xs ys
  | _, _ => true
theorem sameB_step {xs ys : List Int} {k : Nat} (hk : k < xs.length) (hy : k < ys.length) : sameB (xs.drop k) (ys.drop k) = ((xs.getD k 0 == ys.getD k 0) && sameB (xs.drop (k + 1)) (ys.drop (k + 1))) := by
  rw [List.drop_eq_getElem_cons hk, List.drop_eq_getElem_cons hy, sameB, List.getD_eq_getElem?_getD, List.getElem?_eq_getElem hk, List.getD_eq_getElem?_getD, List.getElem?_eq_getElem hy]
  rfl
theorem sameB_beq : ∀ {xs ys : List Int}, xs.length = ys.length → sameB xs ys = (xs == ys)
  | [], [], _ => rfl
  | x :: xs, y :: ys, h => by
    rw [sameB, sameB_beq (by simpa using h)]
    rfl
end Go.Proofs.YtijedphpcocfnaaDoor
namespace Go.Proofs.YtijedphpcocfnaaDoor
open Go.RowKit SpM
set_option linter.unusedVariables false
set_option linter.unusedSimpArgs false
set_option maxRecDepth 100000
theorem allI_step {f : Int → Bool} {xs : List Int} {k : Nat} (hk : k < xs.length) : (xs.drop k).all f = (f (xs.getD k 0) && (xs.drop (k + 1)).all f) := by
  rw [List.drop_eq_getElem_cons hk, List.all_cons, List.getD_eq_getElem?_getD, List.getElem?_eq_getElem hk]
  rfl
end Go.Proofs.YtijedphpcocfnaaDoor
namespace Go.Proofs.YtijedphpcocfnaaDoor
open Go.RowKit SpM
set_option linter.unusedVariables false
set_option linter.unusedSimpArgs false
set_option maxRecDepth 100000
/-- a list that the call made, its block named. -/
def CellsOut (zs : List Int) (n : Nat) (w : World) (e : Ending) (w' : World) : Prop := ∃ g cap, e = .returned (.slice (some ⟨g, 0, none⟩) n cap) ∧ Hid (Cells w' g zs) ∧ Below w.heap.size w w'
theorem ListOut.cells {zs : List Int} {n : Nat} {w w' : World} {e : Ending} (h : ListOut zs w e w') (hn : zs.length = n) (hpos : 0 < n) : CellsOut zs n w e w' := by
  obtain ⟨v, he, ho, hb⟩ := h
  obtain ⟨g, cap, rfl, _, hc⟩ := OwnL.cells ho (by omega)
  rw [hn] at he
  exact ⟨g, cap, he, Lib.hid hc, hb⟩
end Go.Proofs.YtijedphpcocfnaaDoor
namespace Go.Proofs.YtijedphpcocfnaaDoor
open Go.RowKit SpM
set_option linter.unusedVariables false
set_option linter.unusedSimpArgs false
set_option maxRecDepth 20000
theorem RowF.below {w w' : World} {g n : Nat} {f : Nat → Int} (h : RowF w g n f) (hn : 0 < n) (hb : Below w.heap.size w w') : RowF w' g n f := by
  have hg : g < w.heap.size := World.block_lt_of_cell? _ _ (h.1 0 hn)
  exact ⟨fun j hj => (hb.cell (p := ⟨g, j, none⟩) hg).trans (h.1 j hj), fun j => (hb.frozen (p := ⟨g, j, none⟩) hg).trans (h.2 j)⟩
end Go.Proofs.YtijedphpcocfnaaDoor
namespace Go.Proofs.YtijedphpcocfnaaDoor
open Go.RowKit SpM
set_option linter.unusedVariables false
theorem modL (x y P : Int) : (x % P) * y % P = x * y % P := by rw [Int.mul_emod, Int.emod_emod, ← Int.mul_emod]
end Go.Proofs.YtijedphpcocfnaaDoor
namespace Go.Proofs.YtijedphpcocfnaaDoor
open Go.RowKit SpM
set_option linter.unusedVariables false
set_option linter.unusedSimpArgs false
set_option maxRecDepth 100000
/-- a choice's value, its block. -/
abbrev choV (A : Option Addr) (na ca : Nat) (C : Option Addr) (nc cc : Nat) (Z : Option Addr) (nz cz : Nat) : Value := .agg #[.slice A na ca, .slice C nc cc, .slice Z nz cz]
abbrev choO (A : Option Addr) (na ca : Nat) (C : Option Addr) (nc cc : Nat) (Z : Option Addr) (nz cz : Nat) : Obj := .cells #[.slice A na ca, .slice C nc cc, .slice Z nz cz] 53
/-- the error of a group and statements. -/
def givC (P Q G b : Int) (ys : List Int) : Int := if validG P Q G = true then (if 1 ≤ ys.length ∧ ys.length ≤ 16 then (if memG P Q b = true then (if ys.all (memG P Q) = true then 0 else 2) else 2) else 1) else 1
theorem givC_0 {P Q G b : Int} {ys : List Int} (h : givC P Q G b ys = 0) : validG P Q G = true ∧ 1 ≤ ys.length ∧ ys.length ≤ 16 ∧ memG P Q b = true ∧ ys.all (memG P Q) = true := by
  unfold givC at h
  split at h
  · rename_i h1
    split at h
    · rename_i h2
      split at h
      · rename_i h3
        split at h
        · rename_i h4
          exact ⟨h1, h2.1, h2.2, h3, h4⟩
        · exact absurd h (by omega)
      · exact absurd h (by omega)
    · exact absurd h (by omega)
  · exact absurd h (by omega)
set_option maxHeartbeats 6400000 in
theorem cgiven_any (P Q G b : Int) (Y : Option Addr) (ys : List Int) (yn yc : Nat) (r : Int) (hr : Hid (givC P Q G b ys = r)) (hyn : Hid (ys.length = yn)) (hyb : yn < 1000000) (hQ : Q < 9223372036854775808) (w : World) (hv : Hid (Vars w)) (hY : Hid (Sl w Y ys)) :
    Calls Tryd.prog 69 #[gv P Q G, .int .i64 b, .slice Y yn yc] w fun e' w' => e' = .returned (.int .i64 r) ∧ Below w.heap.size w w' := by
  obtain ⟨vb, hvb⟩ : ∃ b, validG P Q G = b := ⟨_, rfl⟩
  obtain ⟨bb, hbb⟩ : ∃ x, memG P Q b = x := ⟨_, rfl⟩
  obtain ⟨yb, hyb'⟩ : ∃ b, ys.all (memG P Q) = b := ⟨_, rfl⟩
  have HVB := Lib.hid hvb
  have HBB := Lib.hid hbb
  have HYB := Lib.hid hyb'
  clear hvb hbb hyb'
  obtain ⟨w0, hW⟩ : ∃ W, (w.alloc (gObj P Q G)) = W := ⟨_, rfl⟩
  have HBw : Hid (Below w.heap.size w w0) := Lib.hid (by rw [← hW]; exact below_box0 _ _)
  have hc : w0.cell? ⟨w.heap.size, 0, none⟩ = some (.int .i64 P) ∧ w0.cell? ⟨w.heap.size, 1, none⟩ = some (.int .i64 Q) ∧ w0.cell? ⟨w.heap.size, 2, none⟩ = some (.int .i64 G) := by rw [← hW]; exact ⟨allocs_cell (by simp) (by rfl), allocs_cell (by simp) (by rfl), allocs_cell (by simp) (by rfl)⟩
  have kC := Lib.hid (show ∀ u : World, Hid (Below w0.heap.size w0 u) → u.cell? ⟨w.heap.size, 0, none⟩ = some (.int .i64 P) ∧ u.cell? ⟨w.heap.size, 1, none⟩ = some (.int .i64 Q) ∧ u.cell? ⟨w.heap.size, 2, none⟩ = some (.int .i64 G) from fun u h => ⟨cell_below hc.1 h.out, cell_below hc.2.1 h.out, cell_below hc.2.2 h.out⟩)
  have kV := Lib.hid (show ∀ u : World, Hid (Below w0.heap.size w0 u) → Hid (Vars u) from fun u h => Lib.hid ((hv.out.below) (below_ext HBw.out h.out)))
  have kY := Lib.hid (show ∀ u : World, Hid (Below w0.heap.size w0 u) → Hid (Sl u Y ys) from fun u h => Lib.hid ((hY.out.below) (below_ext HBw.out h.out)))
  have HB_0 : Hid (Below w0.heap.size w0 w0) := Lib.hid (Below.refl _ _)
  have HW := Lib.hid hW
  clear hW hc hv hY
  go_enter Tryd.func69, Tryd.ntmps69
  go_wp2_with fail
  rw [HW.out]
  obtain ⟨zc0, zc1, zc2⟩ := kC.out _ HB_0
  go_wp2_with fail
  refine (valid_any P Q G vb HVB hQ _ (kV.out _ HB_0)).mono ?_
  rintro e w1 ⟨rfl, hb0⟩
  have HB_1 := Lib.hid (below_ext HB_0.out hb0)
  clear zc0 zc1 zc2
  clear hb0
  obtain ⟨zc0, zc1, zc2⟩ := kC.out _ HB_1
  cases vb with
  | false =>
    obtain rfl : r = 1 := hr.out.symm.trans (by unfold givC; simp only [HVB.out, Bool.false_eq_true, if_false])
    have hbF := below_ext HBw.out HB_1.out
    go_wp2
    go_ret
    exact ⟨rfl, hbF⟩
  | true =>
    by_cases h1 : yn < 1
    · skip
      have d1 : decide ((yn : Int) < 1) = true := by simp; omega
      obtain rfl : r = 1 := hr.out.symm.trans (by unfold givC; simp only [HVB.out, hyn.out, HBB.out, HYB.out, Bool.false_eq_true, if_true, if_false]; rw [if_neg (by omega)])
      have hbF := below_ext HBw.out HB_1.out
      go_wp2
      go_ret
      exact ⟨rfl, hbF⟩
    · skip
      have d1 : decide ((yn : Int) < 1) = false := by simp; omega
      by_cases h2 : 16 < yn
      · skip
        have d2 : decide ((16 : Int) < (yn : Int)) = true := by simp; omega
        obtain rfl : r = 1 := hr.out.symm.trans (by unfold givC; simp only [HVB.out, hyn.out, HBB.out, HYB.out, Bool.false_eq_true, if_true, if_false]; rw [if_neg (by omega)])
        have hbF := below_ext HBw.out HB_1.out
        go_wp2
        go_ret
        exact ⟨rfl, hbF⟩
      · skip
        have d2 : decide ((16 : Int) < (yn : Int)) = false := by simp; omega
        have hlen : 1 ≤ yn ∧ yn ≤ 16 := ⟨by omega, by omega⟩
        have HLN := Lib.hid hlen
        clear hlen
        have HCB : Hid (conG P Q G b = bb) := Lib.hid (by rw [conG, HVB.out, Bool.true_and]; exact HBB.out)
        go_wp2_with fail
        refine (contains_any P Q G b bb HCB hQ _ (kV.out _ HB_1)).mono ?_
        rintro e w2 ⟨rfl, hb0⟩
        have HB_2 := Lib.hid (below_ext HB_1.out hb0)
        clear zc0 zc1 zc2
        clear hb0
        obtain ⟨zc0, zc1, zc2⟩ := kC.out _ HB_2
        cases bb with
        | false =>
          obtain rfl : r = 2 := hr.out.symm.trans (by unfold givC; simp only [HVB.out, hyn.out, HBB.out, HYB.out, Bool.false_eq_true, if_true, if_false]; rw [if_pos HLN.out])
          have hbF := below_ext HBw.out HB_2.out
          go_wp2
          go_ret
          exact ⟨rfl, hbF⟩
        | true =>
          have HCY : Hid ((ys.any fun x => !conG P Q G x) = !yb) := Lib.hid (by rw [any_not_con HVB.out, HYB.out])
          have HSY := Lib.hid (says_cgv P Q G w.heap.size hQ _ (Lib.hid (show GBox w2 w.heap.size P Q G from kC.out _ HB_2)) (kV.out _ HB_2))
          go_wp2_with fail
          refine (cf_cgv (.pointer (some ⟨w.heap.size, 0, none⟩)) (fun x => !conG P Q G x) (!yb) Y ys yn yc HCY hyn (Lib.hid hyb) _ (kY.out _ HB_2) HSY).mono ?_
          rintro e w3 ⟨rfl, hb0⟩
          have HB_3 := Lib.hid (below_ext HB_2.out hb0)
          clear zc0 zc1 zc2
          clear hb0
          obtain ⟨zc0, zc1, zc2⟩ := kC.out _ HB_3
          cases yb with
          | false =>
            obtain rfl : r = 2 := hr.out.symm.trans (by unfold givC; simp only [HVB.out, hyn.out, HBB.out, HYB.out, Bool.false_eq_true, if_true, if_false]; rw [if_pos HLN.out])
            have hbF := below_ext HBw.out HB_3.out
            go_wp2
            go_ret
            exact ⟨rfl, hbF⟩
          | true =>
            obtain rfl : r = 0 := hr.out.symm.trans (by unfold givC; simp only [HVB.out, hyn.out, HBB.out, HYB.out, Bool.false_eq_true, if_true, if_false]; rw [if_pos HLN.out])
            have hbF := below_ext HBw.out HB_3.out
            go_wp2
            go_ret
            exact ⟨rfl, hbF⟩
/-- the sum of challenges. -/
def sumL (Q : Int) : Int → List Int → Int
  | acc, x :: xs => sumL Q ((acc + x) % Q) xs
  | acc, [] => acc
theorem sumL_step {Q acc : Int} {k : Nat} {xs : List Int} (hk : k < xs.length) : sumL Q acc (xs.drop k) = sumL Q ((acc + xs.getD k 0) % Q) (xs.drop (k + 1)) := by
  rw [List.drop_eq_getElem_cons hk, sumL, List.getD_eq_getElem?_getD, List.getElem?_eq_getElem hk]
  rfl
theorem sumL_end {Q acc V : Int} {k : Nat} {xs : List Int} (hn : xs.length = k) (h : Hid (sumL Q acc (xs.drop k) = V)) : acc = V := by
  rw [← h.out, ← hn, List.drop_length]
  rfl
theorem sumL_in {Q : Int} (hQ : 1 ≤ Q) : ∀ (xs : List Int) (acc : Int), 0 ≤ acc → acc < Q → 0 ≤ sumL Q acc xs ∧ sumL Q acc xs < Q
  | [], acc, h0, h1 => ⟨h0, h1⟩
  | x :: xs, acc, h0, h1 => by
    rw [sumL]
    exact sumL_in hQ xs _ (Int.emod_nonneg _ (by omega)) (Int.emod_lt_of_pos _ (by omega))
set_option maxHeartbeats 6400000 in
theorem csum_ok (P Q G : Int) (A : Option Addr) (xs : List Int) (n c : Nat) (V : Int) (hV : Hid (sumL Q 0 xs = V)) (hn : Hid (xs.length = n)) (hbig : n < 1000000) (hx : Hid (xs.all (scB Q) = true)) (hQ0 : 1 ≤ Q) (hQ : Q < 2305843009213693952) (w : World) (hA : Hid (Sl w A xs)) :
    Calls Tryd.prog 68 #[gv P Q G, .slice A n c] w fun e' w' => e' = .returned (.int .i64 V) ∧ Below w.heap.size w w' := by
  obtain ⟨w0, hW⟩ : ∃ W, (w.alloc (gObj P Q G)) = W := ⟨_, rfl⟩
  have HBw : Hid (Below w.heap.size w w0) := Lib.hid (by rw [← hW]; exact below_box0 _ _)
  have hc : w0.cell? ⟨w.heap.size, 0, none⟩ = some (.int .i64 P) ∧ w0.cell? ⟨w.heap.size, 1, none⟩ = some (.int .i64 Q) ∧ w0.cell? ⟨w.heap.size, 2, none⟩ = some (.int .i64 G) := by rw [← hW]; exact ⟨allocs_cell (by simp) (by rfl), allocs_cell (by simp) (by rfl), allocs_cell (by simp) (by rfl)⟩
  have kC := Lib.hid (show ∀ u : World, Hid (Below w0.heap.size w0 u) → u.cell? ⟨w.heap.size, 0, none⟩ = some (.int .i64 P) ∧ u.cell? ⟨w.heap.size, 1, none⟩ = some (.int .i64 Q) ∧ u.cell? ⟨w.heap.size, 2, none⟩ = some (.int .i64 G) from fun u h => ⟨cell_below hc.1 h.out, cell_below hc.2.1 h.out, cell_below hc.2.2 h.out⟩)
  have kA := Lib.hid (show ∀ u : World, Hid (Below w0.heap.size w0 u) → Hid (Sl u A xs) from fun u h => Lib.hid ((hA.out.below) (below_ext HBw.out h.out)))
  have HB_0 : Hid (Below w0.heap.size w0 w0) := Lib.hid (Below.refl _ _)
  have HW := Lib.hid hW
  clear hW hc hA
  go_enter Tryd.func68, Tryd.ntmps68
  go_wp2
  rw [HW.out]
  go_loopw [5, 10] (fun o i wr => ∃ (k : Nat) (acc : Int), k ≤ n ∧ i = .int .i64 k ∧ o = .int .i64 acc ∧ 0 ≤ acc ∧ acc < Q ∧ Hid (sumL Q acc (xs.drop k) = V) ∧ Hid (Below w0.heap.size w0 wr)) (fun _ i _ => n - (intOf i).toNat)
  case atStart => exact ⟨0, 0, by omega, rfl, rfl, by omega, by omega, Lib.hid (by rw [List.drop_zero]; exact hV.out), Lib.hid (Below.refl _ _)⟩
  case round =>
    obtain ⟨k, acc, hk, rfl, rfl, ha0, ha1, HPF, HBr⟩ := hrel
    by_cases hlt : k < n
    · have hkl : k < xs.length := by rw [hn.out]; exact hlt
      obtain ⟨b1, o1, hA1, hi0⟩ := (kA.out _ HBr).out k hkl
      subst hA1
      obtain ⟨c0, c1, c2⟩ := kC.out _ HBr
      have hm1 := all_get hx.out hkl
      have hst := sumL_step (Q := Q) (acc := acc) hkl
      obtain ⟨x, hxx⟩ : ∃ x, xs.getD k 0 = x := ⟨_, rfl⟩
      rw [hxx] at hi0 hm1 hst
      have x0 := scB_lo hm1
      have x1 := scB_hi hm1
      obtain ⟨t, ht⟩ : ∃ t, (acc + x) % Q = t := ⟨_, rfl⟩
      have t0 : 0 ≤ t := by rw [← ht]; exact Int.emod_nonneg _ (by omega)
      have t1 : t < Q := by rw [← ht]; exact Int.emod_lt_of_pos _ (by omega)
      have HPF2 : Hid (sumL Q t (xs.drop (k + 1)) = V) := Lib.hid (by rw [← HPF.out, hst, ht])
      have HT := Lib.hid ht
      clear hm1 hst hxx hkl ht
      go_wp2_with fail
      refine (add_ok acc x Q hQ ha0 ha1 x0 x1 _).mono ?_
      rintro e' w2 ⟨rfl, rfl⟩
      rw [HT.out]
      go_wp2
      go_roundw
      case rel => exact ⟨k + 1, t, by omega, by go_num, rfl, t0, t1, HPF2, HBr⟩
      case measure => simp [intOf]; omega
    · obtain rfl : k = n := by omega
      have hacc := sumL_end hn.out HPF
      have hbF := below_ext HBw.out HBr.out
      clear HPF hlt
      subst hacc
      go_wp2
      go_ret
      exact ⟨rfl, hbF⟩
/-- the negative of an exponent. -/
theorem cneg_ok (P Q G c v : Int) (hvv : Hid ((Q - c) % Q = v)) (hc0 : 0 ≤ c) (hc1 : c < Q) (hQ : Q < 2305843009213693952) (w : World) :
    Calls Tryd.prog 101 #[gv P Q G, .int .i64 c] w fun e' w' => e' = .returned (.int .i64 v) ∧ Below w.heap.size w w' := by
  have hb := below_box0 w (gObj P Q G)
  have e : (0 - c + Q) % Q = v := by rw [← hvv.out]; congr 1; omega
  have HE := Lib.hid e
  clear e
  go_enter Tryd.func101, Tryd.ntmps101
  go_wp2_with fail
  refine (sub_ok 0 c Q hQ (by omega) (by omega) hc0 hc1 _).mono ?_
  rintro e' w2 ⟨rfl, rfl⟩
  rw [HE.out]
  go_wp2
  go_ret
  exact ⟨rfl, hb⟩
/-- the commitment that fits a challenge and a response. -/
def comF (P Q b y c z : Int) : Int := pw b z P * pw y ((Q - c) % Q) P % P
theorem comF_prod {P Q b y c z : Int} (hp : 2 ≤ P) : prodF P 1 [b, y] [z, (Q - c) % Q] = comF P Q b y c z := by
  simp only [prodF, comF]
  have h := pw_lt b z.toNat P (by omega)
  rw [Int.one_mul, modL]
theorem neg_sc {Q c : Int} (hQ : 1 ≤ Q) : scB Q ((Q - c) % Q) = true := by
  simp only [scB, Bool.and_eq_true, decide_eq_true_eq]
  exact ⟨Int.emod_nonneg _ (by omega), Int.emod_lt_of_pos _ (by omega)⟩
end Go.Proofs.YtijedphpcocfnaaDoor
namespace Go.Proofs.YtijedphpcocfnaaDoor
open Go.RowKit SpM
set_option linter.unusedVariables false
set_option linter.unusedSimpArgs false
set_option maxRecDepth 100000
/-- what is left to be tested from k on. -/
def formL (P Q : Int) (al cl zl : List Int) (k : Nat) : Bool := (al.drop k).all (memG P Q) && ((cl.drop k).all (scB Q) && (zl.drop k).all (scB Q))
theorem formL_step {P Q : Int} {al cl zl : List Int} {k : Nat} (h1 : k < al.length) (h2 : k < cl.length) (h3 : k < zl.length) :
    formL P Q al cl zl k = (memG P Q (al.getD k 0) && (scB Q (cl.getD k 0) && (scB Q (zl.getD k 0) && formL P Q al cl zl (k + 1)))) := by
  rw [formL, allI_step h1, allI_step h2, allI_step h3, formL]
  cases memG P Q (al.getD k 0) <;> cases scB Q (cl.getD k 0) <;> cases scB Q (zl.getD k 0) <;> simp
/-- which proofs are well-formed for n statements. -/
def formB (P Q : Int) (n : Nat) (al cl zl : List Int) : Bool := decide (al.length = n) && (decide (cl.length = n) && (decide (zl.length = n) && formL P Q al cl zl 0))
theorem formB_parts {P Q : Int} {n : Nat} {al cl zl : List Int} (h : formB P Q n al cl zl = true) : al.length = n ∧ cl.length = n ∧ zl.length = n ∧ al.all (memG P Q) = true ∧ cl.all (scB Q) = true ∧ zl.all (scB Q) = true := by
  simp only [formB, formL, Bool.and_eq_true, decide_eq_true_eq, List.drop_zero] at h
  exact ⟨h.1, h.2.1, h.2.2.1, h.2.2.2.1, h.2.2.2.2.1, h.2.2.2.2.2⟩
set_option maxHeartbeats 25600000 in
theorem cformed_ok (P Q G : Int) (n : Nat) (A : Option Addr) (al : List Int) (ca : Nat) (C : Option Addr) (cl : List Int) (cc : Nat) (Z : Option Addr) (zl : List Int) (cz : Nat) (r : Bool) (hr : Hid (formL P Q al cl zl 0 = r)) (hg : Hid (validG P Q G = true)) (han : Hid (al.length = n)) (hcn : Hid (cl.length = n)) (hzn : Hid (zl.length = n)) (hn : n < 1000000)
    (hQ : Q < 9223372036854775808) (w : World) (hv : Hid (Vars w)) (hA : Hid (Sl w A al)) (hC : Hid (Sl w C cl)) (hZ : Hid (Sl w Z zl)) :
    Calls Tryd.prog 99 #[gv P Q G, .int .i64 n, choV A n ca C n cc Z n cz] w fun e' w' => e' = .returned (.bool r) ∧ Below w.heap.size w w' := by
  have enn : ((n : Int) != (n : Int)) = false := by simp
  obtain ⟨w0, hW⟩ : ∃ W, ((w.alloc (gObj P Q G)).alloc (choO A n ca C n cc Z n cz)) = W := ⟨_, rfl⟩
  have HBw : Hid (Below w.heap.size w w0) := Lib.hid (by rw [← hW]; exact below_two (Below.refl _ _))
  have hc : w0.cell? ⟨w.heap.size, 0, none⟩ = some (.int .i64 P) ∧ w0.cell? ⟨w.heap.size, 1, none⟩ = some (.int .i64 Q) ∧ w0.cell? ⟨w.heap.size, 2, none⟩ = some (.int .i64 G) ∧ w0.cell? ⟨w.heap.size + 1, 0, none⟩ = some (.slice A n ca) ∧ w0.cell? ⟨w.heap.size + 1, 1, none⟩ = some (.slice C n cc) ∧ w0.cell? ⟨w.heap.size + 1, 2, none⟩ = some (.slice Z n cz) := by rw [← hW]; exact ⟨cell_below (allocs_cell (by simp) (by rfl)) (below_box0 _ _), cell_below (allocs_cell (by simp) (by rfl)) (below_box0 _ _), cell_below (allocs_cell (by simp) (by rfl)) (below_box0 _ _), allocs_cell (by simp) (by rfl), allocs_cell (by simp) (by rfl), allocs_cell (by simp) (by rfl)⟩
  have kC := Lib.hid (show ∀ u : World, Hid (Below w0.heap.size w0 u) → u.cell? ⟨w.heap.size, 0, none⟩ = some (.int .i64 P) ∧ u.cell? ⟨w.heap.size, 1, none⟩ = some (.int .i64 Q) ∧ u.cell? ⟨w.heap.size, 2, none⟩ = some (.int .i64 G) ∧ u.cell? ⟨w.heap.size + 1, 0, none⟩ = some (.slice A n ca) ∧ u.cell? ⟨w.heap.size + 1, 1, none⟩ = some (.slice C n cc) ∧ u.cell? ⟨w.heap.size + 1, 2, none⟩ = some (.slice Z n cz) from fun u h => ⟨cell_below hc.1 h.out, cell_below hc.2.1 h.out, cell_below hc.2.2.1 h.out, cell_below hc.2.2.2.1 h.out, cell_below hc.2.2.2.2.1 h.out, cell_below hc.2.2.2.2.2 h.out⟩)
  have kV := Lib.hid (show ∀ u : World, Hid (Below w0.heap.size w0 u) → Hid (Vars u) from fun u h => Lib.hid ((hv.out.below) (below_ext HBw.out h.out)))
  have kA := Lib.hid (show ∀ u : World, Hid (Below w0.heap.size w0 u) → Hid (Sl u A al) from fun u h => Lib.hid ((hA.out.below) (below_ext HBw.out h.out)))
  have kCl := Lib.hid (show ∀ u : World, Hid (Below w0.heap.size w0 u) → Hid (Sl u C cl) from fun u h => Lib.hid ((hC.out.below) (below_ext HBw.out h.out)))
  have kZ := Lib.hid (show ∀ u : World, Hid (Below w0.heap.size w0 u) → Hid (Sl u Z zl) from fun u h => Lib.hid ((hZ.out.below) (below_ext HBw.out h.out)))
  have HB_0 : Hid (Below w0.heap.size w0 w0) := Lib.hid (Below.refl _ _)
  have HW := Lib.hid hW
  clear hW hc hv hA hC hZ
  go_enter Tryd.func99, Tryd.ntmps99
  go_wp2_with fail
  rw [HW.out]
  obtain ⟨x0, x1, x2, x3, x4, x5⟩ := kC.out _ HB_0
  go_wp2
  clear x0 x1 x2 x3 x4 x5
  go_loopw [28] (fun i wr => ∃ k : Nat, k ≤ n ∧ i = .int .i64 k ∧ Hid (formL P Q al cl zl k = r) ∧ Hid (Below w0.heap.size w0 wr)) (fun i _ => n - (intOf i).toNat)
  case atStart => exact ⟨0, by omega, rfl, hr, HB_0⟩
  case round =>
    obtain ⟨k, hk, rfl, HR, HBr⟩ := hrel
    obtain ⟨wo, rfl⟩ : ∃ wo : World, wo = wr := ⟨_, rfl⟩
    by_cases hlt : k < n
    · have h1 : k < al.length := by rw [han.out]; exact hlt
      have h2 : k < cl.length := by rw [hcn.out]; exact hlt
      have h3 : k < zl.length := by rw [hzn.out]; exact hlt
      obtain ⟨b1, o1, e1, hi1⟩ := (kA.out _ HBr).out k h1
      obtain ⟨b2, o2, e2, hi2⟩ := (kCl.out _ HBr).out k h2
      obtain ⟨b3, o3, e3, hi3⟩ := (kZ.out _ HBr).out k h3
      subst e1
      subst e2
      subst e3
      have hst := formL_step (P := P) (Q := Q) h1 h2 h3
      rw [HR.out] at hst
      obtain ⟨a, ha⟩ : ∃ x, al.getD k 0 = x := ⟨_, rfl⟩
      obtain ⟨c, hc⟩ : ∃ x, cl.getD k 0 = x := ⟨_, rfl⟩
      obtain ⟨z, hz⟩ : ∃ x, zl.getD k 0 = x := ⟨_, rfl⟩
      rw [ha] at hst hi1
      rw [hc] at hst hi2
      rw [hz] at hst hi3
      have hS := Lib.hid (show ∀ u1 u2 : World, Hid (Below w0.heap.size w0 u1) → Below u1.heap.size u1 u2 → Below wo.heap.size wo u2 → (u2.cell? ⟨w.heap.size, 0, none⟩ = some (.int .i64 P) ∧ u2.cell? ⟨w.heap.size, 1, none⟩ = some (.int .i64 Q) ∧ u2.cell? ⟨w.heap.size, 2, none⟩ = some (.int .i64 G) ∧ u2.cell? ⟨w.heap.size + 1, 0, none⟩ = some (.slice (some ⟨b1, o1, none⟩) n ca) ∧ u2.cell? ⟨w.heap.size + 1, 1, none⟩ = some (.slice (some ⟨b2, o2, none⟩) n cc) ∧ u2.cell? ⟨w.heap.size + 1, 2, none⟩ = some (.slice (some ⟨b3, o3, none⟩) n cz) ∧ u2.cell? ⟨b1, o1 + k, none⟩ = some (.int .i64 a) ∧ u2.cell? ⟨b2, o2 + k, none⟩ = some (.int .i64 c) ∧ u2.cell? ⟨b3, o3 + k, none⟩ = some (.int .i64 z) ∧ Hid (Below w0.heap.size w0 u2)) from fun u1 u2 h4 h5 h6 => by
        have h7 := Lib.hid (below_ext h4.out h5)
        obtain ⟨y0, y1, y2, y3, y4, y5⟩ := kC.out _ h7
        exact ⟨y0, y1, y2, y3, y4, y5, cell_below hi1 h6, cell_below hi2 h6, cell_below hi3 h6, h7⟩)
      have HD := Lib.hid (show Below wo.heap.size wo wo.drew from (Below.refl _ _).drew)
      obtain ⟨ab, hab⟩ : ∃ x, memG P Q a = x := ⟨_, rfl⟩
      obtain ⟨cb, hcb⟩ : ∃ x, scB Q c = x := ⟨_, rfl⟩
      obtain ⟨zb, hzb⟩ : ∃ x, scB Q z = x := ⟨_, rfl⟩
      rw [hab, hcb, hzb] at hst
      have HAB : Hid (conG P Q G a = ab) := Lib.hid (by rw [conG, hg.out, Bool.true_and]; exact hab)
      have HCB := Lib.hid hcb
      have HZB := Lib.hid hzb
      have HST := Lib.hid hst
      clear hst ha hc hz hab hcb hzb h1 h2 h3 hi1 hi2 hi3 HR
      go_wp2
      cases ab with
      | false =>
        refine wp_region_T (S := fun w' => w'.cell? ⟨w.heap.size, 0, none⟩ = some (.int .i64 P) ∧ w'.cell? ⟨w.heap.size, 1, none⟩ = some (.int .i64 Q) ∧ w'.cell? ⟨w.heap.size, 2, none⟩ = some (.int .i64 G) ∧ w'.cell? ⟨w.heap.size + 1, 0, none⟩ = some (.slice (some ⟨b1, o1, none⟩) n ca) ∧ w'.cell? ⟨w.heap.size + 1, 1, none⟩ = some (.slice (some ⟨b2, o2, none⟩) n cc) ∧ w'.cell? ⟨w.heap.size + 1, 2, none⟩ = some (.slice (some ⟨b3, o3, none⟩) n cz) ∧ w'.cell? ⟨b1, o1 + k, none⟩ = some (.int .i64 a) ∧ w'.cell? ⟨b2, o2 + k, none⟩ = some (.int .i64 c) ∧ w'.cell? ⟨b3, o3 + k, none⟩ = some (.int .i64 z) ∧ Hid (Below w0.heap.size w0 w')) (E := []) (by kernel_rfl) (hS.out _ _ HBr HD.out HD.out) (fun hHeld => ?_)
        refine wpT_take (i := 0) (oi := _) (v := ?_) rfl (by kernel_rfl) (by kernel_rfl) (by kernel_rfl) (by kernel_rfl) (fun _ _ _ h => h) (Or.inl ⟨by rfl, ?_⟩) (by assumption) ?_
        rotate_left; (intro wS hSw; (try dsimp only at hSw); go_simp <;> with_reducible rfl)
        try simp only [List.getElem_toArray, List.getElem_cons_zero, List.getElem_cons_succ, Act.put, List.setIfInBounds_toArray, List.set_cons_zero, List.set_cons_succ]
        refine wpT_take (i := 1) (oi := _) (v := ?_) rfl (by kernel_rfl) (by kernel_rfl) (by kernel_rfl) (by kernel_rfl) (fun _ _ _ h => h) (Or.inl ⟨by rfl, ?_⟩) (by assumption) ?_
        rotate_left; (intro wS hSw; (try dsimp only at hSw); go_simp <;> with_reducible rfl)
        try simp only [List.getElem_toArray, List.getElem_cons_zero, List.getElem_cons_succ, Act.put, List.setIfInBounds_toArray, List.set_cons_zero, List.set_cons_succ]
        refine wpT_take (i := 2) (oi := _) (v := ?_) rfl (by kernel_rfl) (by kernel_rfl) (by kernel_rfl) (by kernel_rfl) (fun _ _ _ h => h) (Or.inl ⟨by rfl, ?_⟩) (by assumption) ?_
        rotate_left; (intro wS hSw; (try dsimp only at hSw); go_simp <;> with_reducible rfl)
        try simp only [List.getElem_toArray, List.getElem_cons_zero, List.getElem_cons_succ, Act.put, List.setIfInBounds_toArray, List.set_cons_zero, List.set_cons_succ]
        refine wpT_take (i := 3) (oi := _) (v := ?_) rfl (by kernel_rfl) (by kernel_rfl) (by kernel_rfl) (by kernel_rfl) (fun _ _ _ h => h) (Or.inl ⟨by rfl, ?_⟩) (by assumption) ?_
        rotate_left; (intro wS hSw; (try dsimp only at hSw); go_simp <;> with_reducible rfl)
        try simp only [List.getElem_toArray, List.getElem_cons_zero, List.getElem_cons_succ, Act.put, List.setIfInBounds_toArray, List.set_cons_zero, List.set_cons_succ]
        refine wpT_take (i := 4) (oi := _) (v := ?_) rfl (by kernel_rfl) (by kernel_rfl) (by kernel_rfl) (by kernel_rfl) (fun _ _ _ h => h) (Or.inl ⟨by rfl, ?_⟩) (by assumption) ?_
        rotate_left; (intro wS hSw; (try dsimp only at hSw); go_simp <;> with_reducible rfl)
        try simp only [List.getElem_toArray, List.getElem_cons_zero, List.getElem_cons_succ, Act.put, List.setIfInBounds_toArray, List.set_cons_zero, List.set_cons_succ]
        refine wpT_take (i := 5) (oi := _) (v := ?_) rfl (by kernel_rfl) (by kernel_rfl) (by kernel_rfl) (by kernel_rfl) (fun _ _ _ h => h) (Or.inl ⟨by rfl, ?_⟩) (by assumption) ?_
        rotate_left; (intro wS hSw; (try dsimp only at hSw); go_simp <;> with_reducible rfl)
        try simp only [List.getElem_toArray, List.getElem_cons_zero, List.getElem_cons_succ, Act.put, List.setIfInBounds_toArray, List.set_cons_zero, List.set_cons_succ]
        refine wpT_one (i := 6) (by kernel_rfl) rfl (fun K hK => ?_)
        go_simp
        (with_reducible refine (contains_any P Q G a false HAB hQ _ ?_).mono ?_); (go_split_ands; exact kV.out _ (by assumption)); rintro e wA ⟨rfl, hbA⟩
        refine hK.out _ _ ?_ (fun hHeld => ?_)
        · (go_split_ands; exact hS.out _ _ (by assumption) hbA (Below.trans HD.out (hbA.mono HD.out.size)))
        clear hK K
        try simp only [List.getElem_toArray, List.getElem_cons_zero, List.getElem_cons_succ, Act.put, List.setIfInBounds_toArray, List.set_cons_zero, List.set_cons_succ]
        refine wpT_take (i := 7) (oi := _) (v := ?_) rfl (by kernel_rfl) (by kernel_rfl) (by kernel_rfl) (by kernel_rfl) (fun _ _ _ h => h) (Or.inl ⟨by rfl, ?_⟩) (by assumption) ?_
        rotate_left; (intro wS hSw; (try dsimp only at hSw); go_simp <;> with_reducible rfl)
        try simp only [List.getElem_toArray, List.getElem_cons_zero, List.getElem_cons_succ, Act.put, List.setIfInBounds_toArray, List.set_cons_zero, List.set_cons_succ]
        refine wpT_take (i := 8) (oi := _) (v := ?_) rfl (by kernel_rfl) (by kernel_rfl) (by kernel_rfl) (by kernel_rfl) (fun _ _ _ h => h) (Or.inl ⟨by rfl, ?_⟩) (by assumption) ?_
        rotate_left; (intro wS hSw; (try dsimp only at hSw); go_simp <;> with_reducible rfl)
        try simp only [List.getElem_toArray, List.getElem_cons_zero, List.getElem_cons_succ, Act.put, List.setIfInBounds_toArray, List.set_cons_zero, List.set_cons_succ]
        refine wpT_take (i := 9) (oi := _) (v := undef) rfl (by kernel_rfl) (by kernel_rfl) (by kernel_rfl) (by kernel_rfl) (fun _ _ _ h => h) (Or.inr ⟨by rfl, rfl⟩) (by assumption) ?_
        try simp only [List.getElem_toArray, List.getElem_cons_zero, List.getElem_cons_succ, Act.put, List.setIfInBounds_toArray, List.set_cons_zero, List.set_cons_succ]
        refine wpT_take (i := 10) (oi := _) (v := undef) rfl (by kernel_rfl) (by kernel_rfl) (by kernel_rfl) (by kernel_rfl) (fun _ _ _ h => h) (Or.inr ⟨by rfl, rfl⟩) (by assumption) ?_
        try simp only [List.getElem_toArray, List.getElem_cons_zero, List.getElem_cons_succ, Act.put, List.setIfInBounds_toArray, List.set_cons_zero, List.set_cons_succ]
        refine wpT_take (i := 11) (oi := _) (v := undef) rfl (by kernel_rfl) (by kernel_rfl) (by kernel_rfl) (by kernel_rfl) (fun _ _ _ h => h) (Or.inr ⟨by rfl, rfl⟩) (by assumption) ?_
        try simp only [List.getElem_toArray, List.getElem_cons_zero, List.getElem_cons_succ, Act.put, List.setIfInBounds_toArray, List.set_cons_zero, List.set_cons_succ]
        refine wpT_take (i := 12) (oi := _) (v := undef) rfl (by kernel_rfl) (by kernel_rfl) (by kernel_rfl) (by kernel_rfl) (fun _ _ _ h => h) (Or.inr ⟨by rfl, rfl⟩) (by assumption) ?_
        try simp only [List.getElem_toArray, List.getElem_cons_zero, List.getElem_cons_succ, Act.put, List.setIfInBounds_toArray, List.set_cons_zero, List.set_cons_succ]
        refine wpT_take (i := 13) (oi := _) (v := undef) rfl (by kernel_rfl) (by kernel_rfl) (by kernel_rfl) (by kernel_rfl) (fun _ _ _ h => h) (Or.inr ⟨by rfl, rfl⟩) (by assumption) ?_
        try simp only [List.getElem_toArray, List.getElem_cons_zero, List.getElem_cons_succ, Act.put, List.setIfInBounds_toArray, List.set_cons_zero, List.set_cons_succ]
        refine wpT_take (i := 14) (oi := _) (v := undef) rfl (by kernel_rfl) (by kernel_rfl) (by kernel_rfl) (by kernel_rfl) (fun _ _ _ h => h) (Or.inr ⟨by rfl, rfl⟩) (by assumption) ?_
        try simp only [List.getElem_toArray, List.getElem_cons_zero, List.getElem_cons_succ, Act.put, List.setIfInBounds_toArray, List.set_cons_zero, List.set_cons_succ]
        refine wpT_take (i := 15) (oi := _) (v := undef) rfl (by kernel_rfl) (by kernel_rfl) (by kernel_rfl) (by kernel_rfl) (fun _ _ _ h => h) (Or.inr ⟨by rfl, rfl⟩) (by assumption) ?_
        try simp only [List.getElem_toArray, List.getElem_cons_zero, List.getElem_cons_succ, Act.put, List.setIfInBounds_toArray, List.set_cons_zero, List.set_cons_succ]
        refine wpT_take (i := 16) (oi := _) (v := undef) rfl (by kernel_rfl) (by kernel_rfl) (by kernel_rfl) (by kernel_rfl) (fun _ _ _ h => h) (Or.inr ⟨by rfl, rfl⟩) (by assumption) ?_
        try simp only [List.getElem_toArray, List.getElem_cons_zero, List.getElem_cons_succ, Act.put, List.setIfInBounds_toArray, List.set_cons_zero, List.set_cons_succ]
        refine wpT_take (i := 17) (oi := _) (v := ?_) rfl (by kernel_rfl) (by kernel_rfl) (by kernel_rfl) (by kernel_rfl) (fun _ _ _ h => h) (Or.inl ⟨by rfl, ?_⟩) (by assumption) ?_
        rotate_left; (intro wS hSw; (try dsimp only at hSw); go_simp <;> with_reducible rfl)
        try simp only [List.getElem_toArray, List.getElem_cons_zero, List.getElem_cons_succ, Act.put, List.setIfInBounds_toArray, List.set_cons_zero, List.set_cons_succ]
        refine wpT_take (i := 18) (oi := _) (v := ?_) rfl (by kernel_rfl) (by kernel_rfl) (by kernel_rfl) (by kernel_rfl) (fun _ _ _ h => h) (Or.inl ⟨by rfl, ?_⟩) (by assumption) ?_
        rotate_left; (intro wS hSw; (try dsimp only at hSw); go_simp <;> with_reducible rfl)
        try simp only [List.getElem_toArray, List.getElem_cons_zero, List.getElem_cons_succ, Act.put, List.setIfInBounds_toArray, List.set_cons_zero, List.set_cons_succ]
        refine wpT_take (i := 19) (oi := _) (v := undef) rfl (by kernel_rfl) (by kernel_rfl) (by kernel_rfl) (by kernel_rfl) (fun _ _ _ h => h) (Or.inr ⟨by rfl, rfl⟩) (by assumption) ?_
        try simp only [List.getElem_toArray, List.getElem_cons_zero, List.getElem_cons_succ, Act.put, List.setIfInBounds_toArray, List.set_cons_zero, List.set_cons_succ]
        refine wpT_take (i := 20) (oi := _) (v := undef) rfl (by kernel_rfl) (by kernel_rfl) (by kernel_rfl) (by kernel_rfl) (fun _ _ _ h => h) (Or.inr ⟨by rfl, rfl⟩) (by assumption) ?_
        try simp only [List.getElem_toArray, List.getElem_cons_zero, List.getElem_cons_succ, Act.put, List.setIfInBounds_toArray, List.set_cons_zero, List.set_cons_succ]
        refine wpT_take (i := 21) (oi := _) (v := undef) rfl (by kernel_rfl) (by kernel_rfl) (by kernel_rfl) (by kernel_rfl) (fun _ _ _ h => h) (Or.inr ⟨by rfl, rfl⟩) (by assumption) ?_
        try simp only [List.getElem_toArray, List.getElem_cons_zero, List.getElem_cons_succ, Act.put, List.setIfInBounds_toArray, List.set_cons_zero, List.set_cons_succ]
        refine wpT_take (i := 22) (oi := _) (v := undef) rfl (by kernel_rfl) (by kernel_rfl) (by kernel_rfl) (by kernel_rfl) (fun _ _ _ h => h) (Or.inr ⟨by rfl, rfl⟩) (by assumption) ?_
        try simp only [List.getElem_toArray, List.getElem_cons_zero, List.getElem_cons_succ, Act.put, List.setIfInBounds_toArray, List.set_cons_zero, List.set_cons_succ]
        refine wpT_take (i := 23) (oi := _) (v := undef) rfl (by kernel_rfl) (by kernel_rfl) (by kernel_rfl) (by kernel_rfl) (fun _ _ _ h => h) (Or.inr ⟨by rfl, rfl⟩) (by assumption) ?_
        try simp only [List.getElem_toArray, List.getElem_cons_zero, List.getElem_cons_succ, Act.put, List.setIfInBounds_toArray, List.set_cons_zero, List.set_cons_succ]
        refine wpT_take (i := 24) (oi := _) (v := undef) rfl (by kernel_rfl) (by kernel_rfl) (by kernel_rfl) (by kernel_rfl) (fun _ _ _ h => h) (Or.inr ⟨by rfl, rfl⟩) (by assumption) ?_
        try simp only [List.getElem_toArray, List.getElem_cons_zero, List.getElem_cons_succ, Act.put, List.setIfInBounds_toArray, List.set_cons_zero, List.set_cons_succ]
        refine wpT_take (i := 25) (oi := _) (v := undef) rfl (by kernel_rfl) (by kernel_rfl) (by kernel_rfl) (by kernel_rfl) (fun _ _ _ h => h) (Or.inr ⟨by rfl, rfl⟩) (by assumption) ?_
        try simp only [List.getElem_toArray, List.getElem_cons_zero, List.getElem_cons_succ, Act.put, List.setIfInBounds_toArray, List.set_cons_zero, List.set_cons_succ]
        refine wpT_take (i := 26) (oi := _) (v := undef) rfl (by kernel_rfl) (by kernel_rfl) (by kernel_rfl) (by kernel_rfl) (fun _ _ _ h => h) (Or.inr ⟨by rfl, rfl⟩) (by assumption) ?_
        try simp only [List.getElem_toArray, List.getElem_cons_zero, List.getElem_cons_succ, Act.put, List.setIfInBounds_toArray, List.set_cons_zero, List.set_cons_succ]
        refine wpT_take (i := 27) (oi := _) (v := ?_) rfl (by kernel_rfl) (by kernel_rfl) (by kernel_rfl) (by kernel_rfl) (fun _ _ _ h => h) (Or.inl ⟨by rfl, ?_⟩) (by assumption) ?_
        rotate_left; (intro wS hSw; (try dsimp only at hSw); go_simp <;> with_reducible rfl)
        try simp only [List.getElem_toArray, List.getElem_cons_zero, List.getElem_cons_succ, Act.put, List.setIfInBounds_toArray, List.set_cons_zero, List.set_cons_succ]
        refine wpT_done (by kernel_rfl) ?_ _
        obtain ⟨x0, x1, x2, x3, x4, x5, x6, x7, x8, HBF⟩ := hHeld
        clear x0 x1 x2 x3 x4 x5 x6 x7 x8
        obtain rfl : r = false := HST.out.trans (by simp)
        have hbF := below_ext HBw.out HBF.out
        go_wp2
        go_ret
        exact ⟨rfl, hbF⟩
      | true =>
        cases cb with
        | false =>
          refine wp_region_T (S := fun w' => w'.cell? ⟨w.heap.size, 0, none⟩ = some (.int .i64 P) ∧ w'.cell? ⟨w.heap.size, 1, none⟩ = some (.int .i64 Q) ∧ w'.cell? ⟨w.heap.size, 2, none⟩ = some (.int .i64 G) ∧ w'.cell? ⟨w.heap.size + 1, 0, none⟩ = some (.slice (some ⟨b1, o1, none⟩) n ca) ∧ w'.cell? ⟨w.heap.size + 1, 1, none⟩ = some (.slice (some ⟨b2, o2, none⟩) n cc) ∧ w'.cell? ⟨w.heap.size + 1, 2, none⟩ = some (.slice (some ⟨b3, o3, none⟩) n cz) ∧ w'.cell? ⟨b1, o1 + k, none⟩ = some (.int .i64 a) ∧ w'.cell? ⟨b2, o2 + k, none⟩ = some (.int .i64 c) ∧ w'.cell? ⟨b3, o3 + k, none⟩ = some (.int .i64 z) ∧ Hid (Below w0.heap.size w0 w')) (E := []) (by kernel_rfl) (hS.out _ _ HBr HD.out HD.out) (fun hHeld => ?_)
          refine wpT_take (i := 0) (oi := _) (v := ?_) rfl (by kernel_rfl) (by kernel_rfl) (by kernel_rfl) (by kernel_rfl) (fun _ _ _ h => h) (Or.inl ⟨by rfl, ?_⟩) (by assumption) ?_
          rotate_left; (intro wS hSw; (try dsimp only at hSw); go_simp <;> with_reducible rfl)
          try simp only [List.getElem_toArray, List.getElem_cons_zero, List.getElem_cons_succ, Act.put, List.setIfInBounds_toArray, List.set_cons_zero, List.set_cons_succ]
          refine wpT_take (i := 1) (oi := _) (v := ?_) rfl (by kernel_rfl) (by kernel_rfl) (by kernel_rfl) (by kernel_rfl) (fun _ _ _ h => h) (Or.inl ⟨by rfl, ?_⟩) (by assumption) ?_
          rotate_left; (intro wS hSw; (try dsimp only at hSw); go_simp <;> with_reducible rfl)
          try simp only [List.getElem_toArray, List.getElem_cons_zero, List.getElem_cons_succ, Act.put, List.setIfInBounds_toArray, List.set_cons_zero, List.set_cons_succ]
          refine wpT_take (i := 2) (oi := _) (v := ?_) rfl (by kernel_rfl) (by kernel_rfl) (by kernel_rfl) (by kernel_rfl) (fun _ _ _ h => h) (Or.inl ⟨by rfl, ?_⟩) (by assumption) ?_
          rotate_left; (intro wS hSw; (try dsimp only at hSw); go_simp <;> with_reducible rfl)
          try simp only [List.getElem_toArray, List.getElem_cons_zero, List.getElem_cons_succ, Act.put, List.setIfInBounds_toArray, List.set_cons_zero, List.set_cons_succ]
          refine wpT_take (i := 3) (oi := _) (v := ?_) rfl (by kernel_rfl) (by kernel_rfl) (by kernel_rfl) (by kernel_rfl) (fun _ _ _ h => h) (Or.inl ⟨by rfl, ?_⟩) (by assumption) ?_
          rotate_left; (intro wS hSw; (try dsimp only at hSw); go_simp <;> with_reducible rfl)
          try simp only [List.getElem_toArray, List.getElem_cons_zero, List.getElem_cons_succ, Act.put, List.setIfInBounds_toArray, List.set_cons_zero, List.set_cons_succ]
          refine wpT_take (i := 4) (oi := _) (v := ?_) rfl (by kernel_rfl) (by kernel_rfl) (by kernel_rfl) (by kernel_rfl) (fun _ _ _ h => h) (Or.inl ⟨by rfl, ?_⟩) (by assumption) ?_
          rotate_left; (intro wS hSw; (try dsimp only at hSw); go_simp <;> with_reducible rfl)
          try simp only [List.getElem_toArray, List.getElem_cons_zero, List.getElem_cons_succ, Act.put, List.setIfInBounds_toArray, List.set_cons_zero, List.set_cons_succ]
          refine wpT_take (i := 5) (oi := _) (v := ?_) rfl (by kernel_rfl) (by kernel_rfl) (by kernel_rfl) (by kernel_rfl) (fun _ _ _ h => h) (Or.inl ⟨by rfl, ?_⟩) (by assumption) ?_
          rotate_left; (intro wS hSw; (try dsimp only at hSw); go_simp <;> with_reducible rfl)
          try simp only [List.getElem_toArray, List.getElem_cons_zero, List.getElem_cons_succ, Act.put, List.setIfInBounds_toArray, List.set_cons_zero, List.set_cons_succ]
          refine wpT_one (i := 6) (by kernel_rfl) rfl (fun K hK => ?_)
          go_simp
          (with_reducible refine (contains_any P Q G a true HAB hQ _ ?_).mono ?_); (go_split_ands; exact kV.out _ (by assumption)); rintro e wA ⟨rfl, hbA⟩
          refine hK.out _ _ ?_ (fun hHeld => ?_)
          · (go_split_ands; exact hS.out _ _ (by assumption) hbA (Below.trans HD.out (hbA.mono HD.out.size)))
          clear hK K
          try simp only [List.getElem_toArray, List.getElem_cons_zero, List.getElem_cons_succ, Act.put, List.setIfInBounds_toArray, List.set_cons_zero, List.set_cons_succ]
          refine wpT_take (i := 7) (oi := _) (v := ?_) rfl (by kernel_rfl) (by kernel_rfl) (by kernel_rfl) (by kernel_rfl) (fun _ _ _ h => h) (Or.inl ⟨by rfl, ?_⟩) (by assumption) ?_
          rotate_left; (intro wS hSw; (try dsimp only at hSw); go_simp <;> with_reducible rfl)
          try simp only [List.getElem_toArray, List.getElem_cons_zero, List.getElem_cons_succ, Act.put, List.setIfInBounds_toArray, List.set_cons_zero, List.set_cons_succ]
          refine wpT_take (i := 8) (oi := _) (v := ?_) rfl (by kernel_rfl) (by kernel_rfl) (by kernel_rfl) (by kernel_rfl) (fun _ _ _ h => h) (Or.inl ⟨by rfl, ?_⟩) (by assumption) ?_
          rotate_left; (intro wS hSw; (try dsimp only at hSw); go_simp <;> with_reducible rfl)
          try simp only [List.getElem_toArray, List.getElem_cons_zero, List.getElem_cons_succ, Act.put, List.setIfInBounds_toArray, List.set_cons_zero, List.set_cons_succ]
          refine wpT_take (i := 9) (oi := _) (v := ?_) rfl (by kernel_rfl) (by kernel_rfl) (by kernel_rfl) (by kernel_rfl) (fun _ _ _ h => h) (Or.inl ⟨by rfl, ?_⟩) (by assumption) ?_
          rotate_left; (intro wS hSw; (try dsimp only at hSw); go_simp <;> with_reducible rfl)
          try simp only [List.getElem_toArray, List.getElem_cons_zero, List.getElem_cons_succ, Act.put, List.setIfInBounds_toArray, List.set_cons_zero, List.set_cons_succ]
          refine wpT_take (i := 10) (oi := _) (v := ?_) rfl (by kernel_rfl) (by kernel_rfl) (by kernel_rfl) (by kernel_rfl) (fun _ _ _ h => h) (Or.inl ⟨by rfl, ?_⟩) (by assumption) ?_
          rotate_left; (intro wS hSw; (try dsimp only at hSw); go_simp <;> with_reducible rfl)
          try simp only [List.getElem_toArray, List.getElem_cons_zero, List.getElem_cons_succ, Act.put, List.setIfInBounds_toArray, List.set_cons_zero, List.set_cons_succ]
          refine wpT_take (i := 11) (oi := _) (v := ?_) rfl (by kernel_rfl) (by kernel_rfl) (by kernel_rfl) (by kernel_rfl) (fun _ _ _ h => h) (Or.inl ⟨by rfl, ?_⟩) (by assumption) ?_
          rotate_left; (intro wS hSw; (try dsimp only at hSw); go_simp <;> with_reducible rfl)
          try simp only [List.getElem_toArray, List.getElem_cons_zero, List.getElem_cons_succ, Act.put, List.setIfInBounds_toArray, List.set_cons_zero, List.set_cons_succ]
          refine wpT_take (i := 12) (oi := _) (v := ?_) rfl (by kernel_rfl) (by kernel_rfl) (by kernel_rfl) (by kernel_rfl) (fun _ _ _ h => h) (Or.inl ⟨by rfl, ?_⟩) (by assumption) ?_
          rotate_left; (intro wS hSw; (try dsimp only at hSw); go_simp <;> with_reducible rfl)
          try simp only [List.getElem_toArray, List.getElem_cons_zero, List.getElem_cons_succ, Act.put, List.setIfInBounds_toArray, List.set_cons_zero, List.set_cons_succ]
          refine wpT_take (i := 13) (oi := _) (v := ?_) rfl (by kernel_rfl) (by kernel_rfl) (by kernel_rfl) (by kernel_rfl) (fun _ _ _ h => h) (Or.inl ⟨by rfl, ?_⟩) (by assumption) ?_
          rotate_left; (intro wS hSw; (try dsimp only at hSw); go_simp <;> with_reducible rfl)
          try simp only [List.getElem_toArray, List.getElem_cons_zero, List.getElem_cons_succ, Act.put, List.setIfInBounds_toArray, List.set_cons_zero, List.set_cons_succ]
          refine wpT_take (i := 14) (oi := _) (v := ?_) rfl (by kernel_rfl) (by kernel_rfl) (by kernel_rfl) (by kernel_rfl) (fun _ _ _ h => h) (Or.inl ⟨by rfl, ?_⟩) (by assumption) ?_
          rotate_left; (intro wS hSw; (try dsimp only at hSw); go_simp <;> with_reducible rfl)
          try simp only [List.getElem_toArray, List.getElem_cons_zero, List.getElem_cons_succ, Act.put, List.setIfInBounds_toArray, List.set_cons_zero, List.set_cons_succ]
          refine wpT_one (i := 15) (by kernel_rfl) rfl (fun K hK => ?_)
          go_simp
          (with_reducible refine (cscalar_any P Q G c false HCB _).mono ?_); rintro e wB ⟨rfl, hbB⟩
          refine hK.out _ _ ?_ (fun hHeld => ?_)
          · (go_split_ands; exact hS.out _ _ (by assumption) hbB (Below.trans (Below.trans HD.out (hbA.mono HD.out.size)) (hbB.mono (by have h5 := HD.out.size; have h6 := hbA.size; omega))))
          clear hK K
          try simp only [List.getElem_toArray, List.getElem_cons_zero, List.getElem_cons_succ, Act.put, List.setIfInBounds_toArray, List.set_cons_zero, List.set_cons_succ]
          refine wpT_take (i := 16) (oi := _) (v := ?_) rfl (by kernel_rfl) (by kernel_rfl) (by kernel_rfl) (by kernel_rfl) (fun _ _ _ h => h) (Or.inl ⟨by rfl, ?_⟩) (by assumption) ?_
          rotate_left; (intro wS hSw; (try dsimp only at hSw); go_simp <;> with_reducible rfl)
          try simp only [List.getElem_toArray, List.getElem_cons_zero, List.getElem_cons_succ, Act.put, List.setIfInBounds_toArray, List.set_cons_zero, List.set_cons_succ]
          refine wpT_take (i := 17) (oi := _) (v := ?_) rfl (by kernel_rfl) (by kernel_rfl) (by kernel_rfl) (by kernel_rfl) (fun _ _ _ h => h) (Or.inl ⟨by rfl, ?_⟩) (by assumption) ?_
          rotate_left; (intro wS hSw; (try dsimp only at hSw); go_simp <;> with_reducible rfl)
          try simp only [List.getElem_toArray, List.getElem_cons_zero, List.getElem_cons_succ, Act.put, List.setIfInBounds_toArray, List.set_cons_zero, List.set_cons_succ]
          refine wpT_take (i := 18) (oi := _) (v := ?_) rfl (by kernel_rfl) (by kernel_rfl) (by kernel_rfl) (by kernel_rfl) (fun _ _ _ h => h) (Or.inl ⟨by rfl, ?_⟩) (by assumption) ?_
          rotate_left; (intro wS hSw; (try dsimp only at hSw); go_simp <;> with_reducible rfl)
          try simp only [List.getElem_toArray, List.getElem_cons_zero, List.getElem_cons_succ, Act.put, List.setIfInBounds_toArray, List.set_cons_zero, List.set_cons_succ]
          refine wpT_take (i := 19) (oi := _) (v := undef) rfl (by kernel_rfl) (by kernel_rfl) (by kernel_rfl) (by kernel_rfl) (fun _ _ _ h => h) (Or.inr ⟨by rfl, rfl⟩) (by assumption) ?_
          try simp only [List.getElem_toArray, List.getElem_cons_zero, List.getElem_cons_succ, Act.put, List.setIfInBounds_toArray, List.set_cons_zero, List.set_cons_succ]
          refine wpT_take (i := 20) (oi := _) (v := undef) rfl (by kernel_rfl) (by kernel_rfl) (by kernel_rfl) (by kernel_rfl) (fun _ _ _ h => h) (Or.inr ⟨by rfl, rfl⟩) (by assumption) ?_
          try simp only [List.getElem_toArray, List.getElem_cons_zero, List.getElem_cons_succ, Act.put, List.setIfInBounds_toArray, List.set_cons_zero, List.set_cons_succ]
          refine wpT_take (i := 21) (oi := _) (v := undef) rfl (by kernel_rfl) (by kernel_rfl) (by kernel_rfl) (by kernel_rfl) (fun _ _ _ h => h) (Or.inr ⟨by rfl, rfl⟩) (by assumption) ?_
          try simp only [List.getElem_toArray, List.getElem_cons_zero, List.getElem_cons_succ, Act.put, List.setIfInBounds_toArray, List.set_cons_zero, List.set_cons_succ]
          refine wpT_take (i := 22) (oi := _) (v := undef) rfl (by kernel_rfl) (by kernel_rfl) (by kernel_rfl) (by kernel_rfl) (fun _ _ _ h => h) (Or.inr ⟨by rfl, rfl⟩) (by assumption) ?_
          try simp only [List.getElem_toArray, List.getElem_cons_zero, List.getElem_cons_succ, Act.put, List.setIfInBounds_toArray, List.set_cons_zero, List.set_cons_succ]
          refine wpT_take (i := 23) (oi := _) (v := undef) rfl (by kernel_rfl) (by kernel_rfl) (by kernel_rfl) (by kernel_rfl) (fun _ _ _ h => h) (Or.inr ⟨by rfl, rfl⟩) (by assumption) ?_
          try simp only [List.getElem_toArray, List.getElem_cons_zero, List.getElem_cons_succ, Act.put, List.setIfInBounds_toArray, List.set_cons_zero, List.set_cons_succ]
          refine wpT_take (i := 24) (oi := _) (v := undef) rfl (by kernel_rfl) (by kernel_rfl) (by kernel_rfl) (by kernel_rfl) (fun _ _ _ h => h) (Or.inr ⟨by rfl, rfl⟩) (by assumption) ?_
          try simp only [List.getElem_toArray, List.getElem_cons_zero, List.getElem_cons_succ, Act.put, List.setIfInBounds_toArray, List.set_cons_zero, List.set_cons_succ]
          refine wpT_take (i := 25) (oi := _) (v := undef) rfl (by kernel_rfl) (by kernel_rfl) (by kernel_rfl) (by kernel_rfl) (fun _ _ _ h => h) (Or.inr ⟨by rfl, rfl⟩) (by assumption) ?_
          try simp only [List.getElem_toArray, List.getElem_cons_zero, List.getElem_cons_succ, Act.put, List.setIfInBounds_toArray, List.set_cons_zero, List.set_cons_succ]
          refine wpT_take (i := 26) (oi := _) (v := undef) rfl (by kernel_rfl) (by kernel_rfl) (by kernel_rfl) (by kernel_rfl) (fun _ _ _ h => h) (Or.inr ⟨by rfl, rfl⟩) (by assumption) ?_
          try simp only [List.getElem_toArray, List.getElem_cons_zero, List.getElem_cons_succ, Act.put, List.setIfInBounds_toArray, List.set_cons_zero, List.set_cons_succ]
          refine wpT_take (i := 27) (oi := _) (v := ?_) rfl (by kernel_rfl) (by kernel_rfl) (by kernel_rfl) (by kernel_rfl) (fun _ _ _ h => h) (Or.inl ⟨by rfl, ?_⟩) (by assumption) ?_
          rotate_left; (intro wS hSw; (try dsimp only at hSw); go_simp <;> with_reducible rfl)
          try simp only [List.getElem_toArray, List.getElem_cons_zero, List.getElem_cons_succ, Act.put, List.setIfInBounds_toArray, List.set_cons_zero, List.set_cons_succ]
          refine wpT_done (by kernel_rfl) ?_ _
          obtain ⟨x0, x1, x2, x3, x4, x5, x6, x7, x8, HBF⟩ := hHeld
          clear x0 x1 x2 x3 x4 x5 x6 x7 x8
          obtain rfl : r = false := HST.out.trans (by simp)
          have hbF := below_ext HBw.out HBF.out
          go_wp2
          go_ret
          exact ⟨rfl, hbF⟩
        | true =>
          cases zb with
          | false =>
            refine wp_region_T (S := fun w' => w'.cell? ⟨w.heap.size, 0, none⟩ = some (.int .i64 P) ∧ w'.cell? ⟨w.heap.size, 1, none⟩ = some (.int .i64 Q) ∧ w'.cell? ⟨w.heap.size, 2, none⟩ = some (.int .i64 G) ∧ w'.cell? ⟨w.heap.size + 1, 0, none⟩ = some (.slice (some ⟨b1, o1, none⟩) n ca) ∧ w'.cell? ⟨w.heap.size + 1, 1, none⟩ = some (.slice (some ⟨b2, o2, none⟩) n cc) ∧ w'.cell? ⟨w.heap.size + 1, 2, none⟩ = some (.slice (some ⟨b3, o3, none⟩) n cz) ∧ w'.cell? ⟨b1, o1 + k, none⟩ = some (.int .i64 a) ∧ w'.cell? ⟨b2, o2 + k, none⟩ = some (.int .i64 c) ∧ w'.cell? ⟨b3, o3 + k, none⟩ = some (.int .i64 z) ∧ Hid (Below w0.heap.size w0 w')) (E := []) (by kernel_rfl) (hS.out _ _ HBr HD.out HD.out) (fun hHeld => ?_)
            refine wpT_take (i := 0) (oi := _) (v := ?_) rfl (by kernel_rfl) (by kernel_rfl) (by kernel_rfl) (by kernel_rfl) (fun _ _ _ h => h) (Or.inl ⟨by rfl, ?_⟩) (by assumption) ?_
            rotate_left; (intro wS hSw; (try dsimp only at hSw); go_simp <;> with_reducible rfl)
            try simp only [List.getElem_toArray, List.getElem_cons_zero, List.getElem_cons_succ, Act.put, List.setIfInBounds_toArray, List.set_cons_zero, List.set_cons_succ]
            refine wpT_take (i := 1) (oi := _) (v := ?_) rfl (by kernel_rfl) (by kernel_rfl) (by kernel_rfl) (by kernel_rfl) (fun _ _ _ h => h) (Or.inl ⟨by rfl, ?_⟩) (by assumption) ?_
            rotate_left; (intro wS hSw; (try dsimp only at hSw); go_simp <;> with_reducible rfl)
            try simp only [List.getElem_toArray, List.getElem_cons_zero, List.getElem_cons_succ, Act.put, List.setIfInBounds_toArray, List.set_cons_zero, List.set_cons_succ]
            refine wpT_take (i := 2) (oi := _) (v := ?_) rfl (by kernel_rfl) (by kernel_rfl) (by kernel_rfl) (by kernel_rfl) (fun _ _ _ h => h) (Or.inl ⟨by rfl, ?_⟩) (by assumption) ?_
            rotate_left; (intro wS hSw; (try dsimp only at hSw); go_simp <;> with_reducible rfl)
            try simp only [List.getElem_toArray, List.getElem_cons_zero, List.getElem_cons_succ, Act.put, List.setIfInBounds_toArray, List.set_cons_zero, List.set_cons_succ]
            refine wpT_take (i := 3) (oi := _) (v := ?_) rfl (by kernel_rfl) (by kernel_rfl) (by kernel_rfl) (by kernel_rfl) (fun _ _ _ h => h) (Or.inl ⟨by rfl, ?_⟩) (by assumption) ?_
            rotate_left; (intro wS hSw; (try dsimp only at hSw); go_simp <;> with_reducible rfl)
            try simp only [List.getElem_toArray, List.getElem_cons_zero, List.getElem_cons_succ, Act.put, List.setIfInBounds_toArray, List.set_cons_zero, List.set_cons_succ]
            refine wpT_take (i := 4) (oi := _) (v := ?_) rfl (by kernel_rfl) (by kernel_rfl) (by kernel_rfl) (by kernel_rfl) (fun _ _ _ h => h) (Or.inl ⟨by rfl, ?_⟩) (by assumption) ?_
            rotate_left; (intro wS hSw; (try dsimp only at hSw); go_simp <;> with_reducible rfl)
            try simp only [List.getElem_toArray, List.getElem_cons_zero, List.getElem_cons_succ, Act.put, List.setIfInBounds_toArray, List.set_cons_zero, List.set_cons_succ]
            refine wpT_take (i := 5) (oi := _) (v := ?_) rfl (by kernel_rfl) (by kernel_rfl) (by kernel_rfl) (by kernel_rfl) (fun _ _ _ h => h) (Or.inl ⟨by rfl, ?_⟩) (by assumption) ?_
            rotate_left; (intro wS hSw; (try dsimp only at hSw); go_simp <;> with_reducible rfl)
            try simp only [List.getElem_toArray, List.getElem_cons_zero, List.getElem_cons_succ, Act.put, List.setIfInBounds_toArray, List.set_cons_zero, List.set_cons_succ]
            refine wpT_one (i := 6) (by kernel_rfl) rfl (fun K hK => ?_)
            go_simp
            (with_reducible refine (contains_any P Q G a true HAB hQ _ ?_).mono ?_); (go_split_ands; exact kV.out _ (by assumption)); rintro e wA ⟨rfl, hbA⟩
            refine hK.out _ _ ?_ (fun hHeld => ?_)
            · (go_split_ands; exact hS.out _ _ (by assumption) hbA (Below.trans HD.out (hbA.mono HD.out.size)))
            clear hK K
            try simp only [List.getElem_toArray, List.getElem_cons_zero, List.getElem_cons_succ, Act.put, List.setIfInBounds_toArray, List.set_cons_zero, List.set_cons_succ]
            refine wpT_take (i := 7) (oi := _) (v := ?_) rfl (by kernel_rfl) (by kernel_rfl) (by kernel_rfl) (by kernel_rfl) (fun _ _ _ h => h) (Or.inl ⟨by rfl, ?_⟩) (by assumption) ?_
            rotate_left; (intro wS hSw; (try dsimp only at hSw); go_simp <;> with_reducible rfl)
            try simp only [List.getElem_toArray, List.getElem_cons_zero, List.getElem_cons_succ, Act.put, List.setIfInBounds_toArray, List.set_cons_zero, List.set_cons_succ]
            refine wpT_take (i := 8) (oi := _) (v := ?_) rfl (by kernel_rfl) (by kernel_rfl) (by kernel_rfl) (by kernel_rfl) (fun _ _ _ h => h) (Or.inl ⟨by rfl, ?_⟩) (by assumption) ?_
            rotate_left; (intro wS hSw; (try dsimp only at hSw); go_simp <;> with_reducible rfl)
            try simp only [List.getElem_toArray, List.getElem_cons_zero, List.getElem_cons_succ, Act.put, List.setIfInBounds_toArray, List.set_cons_zero, List.set_cons_succ]
            refine wpT_take (i := 9) (oi := _) (v := ?_) rfl (by kernel_rfl) (by kernel_rfl) (by kernel_rfl) (by kernel_rfl) (fun _ _ _ h => h) (Or.inl ⟨by rfl, ?_⟩) (by assumption) ?_
            rotate_left; (intro wS hSw; (try dsimp only at hSw); go_simp <;> with_reducible rfl)
            try simp only [List.getElem_toArray, List.getElem_cons_zero, List.getElem_cons_succ, Act.put, List.setIfInBounds_toArray, List.set_cons_zero, List.set_cons_succ]
            refine wpT_take (i := 10) (oi := _) (v := ?_) rfl (by kernel_rfl) (by kernel_rfl) (by kernel_rfl) (by kernel_rfl) (fun _ _ _ h => h) (Or.inl ⟨by rfl, ?_⟩) (by assumption) ?_
            rotate_left; (intro wS hSw; (try dsimp only at hSw); go_simp <;> with_reducible rfl)
            try simp only [List.getElem_toArray, List.getElem_cons_zero, List.getElem_cons_succ, Act.put, List.setIfInBounds_toArray, List.set_cons_zero, List.set_cons_succ]
            refine wpT_take (i := 11) (oi := _) (v := ?_) rfl (by kernel_rfl) (by kernel_rfl) (by kernel_rfl) (by kernel_rfl) (fun _ _ _ h => h) (Or.inl ⟨by rfl, ?_⟩) (by assumption) ?_
            rotate_left; (intro wS hSw; (try dsimp only at hSw); go_simp <;> with_reducible rfl)
            try simp only [List.getElem_toArray, List.getElem_cons_zero, List.getElem_cons_succ, Act.put, List.setIfInBounds_toArray, List.set_cons_zero, List.set_cons_succ]
            refine wpT_take (i := 12) (oi := _) (v := ?_) rfl (by kernel_rfl) (by kernel_rfl) (by kernel_rfl) (by kernel_rfl) (fun _ _ _ h => h) (Or.inl ⟨by rfl, ?_⟩) (by assumption) ?_
            rotate_left; (intro wS hSw; (try dsimp only at hSw); go_simp <;> with_reducible rfl)
            try simp only [List.getElem_toArray, List.getElem_cons_zero, List.getElem_cons_succ, Act.put, List.setIfInBounds_toArray, List.set_cons_zero, List.set_cons_succ]
            refine wpT_take (i := 13) (oi := _) (v := ?_) rfl (by kernel_rfl) (by kernel_rfl) (by kernel_rfl) (by kernel_rfl) (fun _ _ _ h => h) (Or.inl ⟨by rfl, ?_⟩) (by assumption) ?_
            rotate_left; (intro wS hSw; (try dsimp only at hSw); go_simp <;> with_reducible rfl)
            try simp only [List.getElem_toArray, List.getElem_cons_zero, List.getElem_cons_succ, Act.put, List.setIfInBounds_toArray, List.set_cons_zero, List.set_cons_succ]
            refine wpT_take (i := 14) (oi := _) (v := ?_) rfl (by kernel_rfl) (by kernel_rfl) (by kernel_rfl) (by kernel_rfl) (fun _ _ _ h => h) (Or.inl ⟨by rfl, ?_⟩) (by assumption) ?_
            rotate_left; (intro wS hSw; (try dsimp only at hSw); go_simp <;> with_reducible rfl)
            try simp only [List.getElem_toArray, List.getElem_cons_zero, List.getElem_cons_succ, Act.put, List.setIfInBounds_toArray, List.set_cons_zero, List.set_cons_succ]
            refine wpT_one (i := 15) (by kernel_rfl) rfl (fun K hK => ?_)
            go_simp
            (with_reducible refine (cscalar_any P Q G c true HCB _).mono ?_); rintro e wB ⟨rfl, hbB⟩
            refine hK.out _ _ ?_ (fun hHeld => ?_)
            · (go_split_ands; exact hS.out _ _ (by assumption) hbB (Below.trans (Below.trans HD.out (hbA.mono HD.out.size)) (hbB.mono (by have h5 := HD.out.size; have h6 := hbA.size; omega))))
            clear hK K
            try simp only [List.getElem_toArray, List.getElem_cons_zero, List.getElem_cons_succ, Act.put, List.setIfInBounds_toArray, List.set_cons_zero, List.set_cons_succ]
            refine wpT_take (i := 16) (oi := _) (v := ?_) rfl (by kernel_rfl) (by kernel_rfl) (by kernel_rfl) (by kernel_rfl) (fun _ _ _ h => h) (Or.inl ⟨by rfl, ?_⟩) (by assumption) ?_
            rotate_left; (intro wS hSw; (try dsimp only at hSw); go_simp <;> with_reducible rfl)
            try simp only [List.getElem_toArray, List.getElem_cons_zero, List.getElem_cons_succ, Act.put, List.setIfInBounds_toArray, List.set_cons_zero, List.set_cons_succ]
            refine wpT_take (i := 17) (oi := _) (v := ?_) rfl (by kernel_rfl) (by kernel_rfl) (by kernel_rfl) (by kernel_rfl) (fun _ _ _ h => h) (Or.inl ⟨by rfl, ?_⟩) (by assumption) ?_
            rotate_left; (intro wS hSw; (try dsimp only at hSw); go_simp <;> with_reducible rfl)
            try simp only [List.getElem_toArray, List.getElem_cons_zero, List.getElem_cons_succ, Act.put, List.setIfInBounds_toArray, List.set_cons_zero, List.set_cons_succ]
            refine wpT_take (i := 18) (oi := _) (v := ?_) rfl (by kernel_rfl) (by kernel_rfl) (by kernel_rfl) (by kernel_rfl) (fun _ _ _ h => h) (Or.inl ⟨by rfl, ?_⟩) (by assumption) ?_
            rotate_left; (intro wS hSw; (try dsimp only at hSw); go_simp <;> with_reducible rfl)
            try simp only [List.getElem_toArray, List.getElem_cons_zero, List.getElem_cons_succ, Act.put, List.setIfInBounds_toArray, List.set_cons_zero, List.set_cons_succ]
            refine wpT_take (i := 19) (oi := _) (v := ?_) rfl (by kernel_rfl) (by kernel_rfl) (by kernel_rfl) (by kernel_rfl) (fun _ _ _ h => h) (Or.inl ⟨by rfl, ?_⟩) (by assumption) ?_
            rotate_left; (intro wS hSw; (try dsimp only at hSw); go_simp <;> with_reducible rfl)
            try simp only [List.getElem_toArray, List.getElem_cons_zero, List.getElem_cons_succ, Act.put, List.setIfInBounds_toArray, List.set_cons_zero, List.set_cons_succ]
            refine wpT_take (i := 20) (oi := _) (v := ?_) rfl (by kernel_rfl) (by kernel_rfl) (by kernel_rfl) (by kernel_rfl) (fun _ _ _ h => h) (Or.inl ⟨by rfl, ?_⟩) (by assumption) ?_
            rotate_left; (intro wS hSw; (try dsimp only at hSw); go_simp <;> with_reducible rfl)
            try simp only [List.getElem_toArray, List.getElem_cons_zero, List.getElem_cons_succ, Act.put, List.setIfInBounds_toArray, List.set_cons_zero, List.set_cons_succ]
            refine wpT_take (i := 21) (oi := _) (v := ?_) rfl (by kernel_rfl) (by kernel_rfl) (by kernel_rfl) (by kernel_rfl) (fun _ _ _ h => h) (Or.inl ⟨by rfl, ?_⟩) (by assumption) ?_
            rotate_left; (intro wS hSw; (try dsimp only at hSw); go_simp <;> with_reducible rfl)
            try simp only [List.getElem_toArray, List.getElem_cons_zero, List.getElem_cons_succ, Act.put, List.setIfInBounds_toArray, List.set_cons_zero, List.set_cons_succ]
            refine wpT_take (i := 22) (oi := _) (v := ?_) rfl (by kernel_rfl) (by kernel_rfl) (by kernel_rfl) (by kernel_rfl) (fun _ _ _ h => h) (Or.inl ⟨by rfl, ?_⟩) (by assumption) ?_
            rotate_left; (intro wS hSw; (try dsimp only at hSw); go_simp <;> with_reducible rfl)
            try simp only [List.getElem_toArray, List.getElem_cons_zero, List.getElem_cons_succ, Act.put, List.setIfInBounds_toArray, List.set_cons_zero, List.set_cons_succ]
            refine wpT_take (i := 23) (oi := _) (v := ?_) rfl (by kernel_rfl) (by kernel_rfl) (by kernel_rfl) (by kernel_rfl) (fun _ _ _ h => h) (Or.inl ⟨by rfl, ?_⟩) (by assumption) ?_
            rotate_left; (intro wS hSw; (try dsimp only at hSw); go_simp <;> with_reducible rfl)
            try simp only [List.getElem_toArray, List.getElem_cons_zero, List.getElem_cons_succ, Act.put, List.setIfInBounds_toArray, List.set_cons_zero, List.set_cons_succ]
            refine wpT_take (i := 24) (oi := _) (v := ?_) rfl (by kernel_rfl) (by kernel_rfl) (by kernel_rfl) (by kernel_rfl) (fun _ _ _ h => h) (Or.inl ⟨by rfl, ?_⟩) (by assumption) ?_
            rotate_left; (intro wS hSw; (try dsimp only at hSw); go_simp <;> with_reducible rfl)
            try simp only [List.getElem_toArray, List.getElem_cons_zero, List.getElem_cons_succ, Act.put, List.setIfInBounds_toArray, List.set_cons_zero, List.set_cons_succ]
            refine wpT_one (i := 25) (by kernel_rfl) rfl (fun K hK => ?_)
            go_simp
            (with_reducible refine (cscalar_any P Q G z false HZB _).mono ?_); rintro e wC ⟨rfl, hbC⟩
            refine hK.out _ _ ?_ (fun hHeld => ?_)
            · (go_split_ands; exact hS.out _ _ (by assumption) hbC (Below.trans (Below.trans (Below.trans HD.out (hbA.mono HD.out.size)) (hbB.mono (by have h5 := HD.out.size; have h6 := hbA.size; omega))) (hbC.mono (by have h5 := HD.out.size; have h6 := hbA.size; have h7 := hbB.size; omega))))
            clear hK K
            try simp only [List.getElem_toArray, List.getElem_cons_zero, List.getElem_cons_succ, Act.put, List.setIfInBounds_toArray, List.set_cons_zero, List.set_cons_succ]
            refine wpT_take (i := 26) (oi := _) (v := ?_) rfl (by kernel_rfl) (by kernel_rfl) (by kernel_rfl) (by kernel_rfl) (fun _ _ _ h => h) (Or.inl ⟨by rfl, ?_⟩) (by assumption) ?_
            rotate_left; (intro wS hSw; (try dsimp only at hSw); go_simp <;> with_reducible rfl)
            try simp only [List.getElem_toArray, List.getElem_cons_zero, List.getElem_cons_succ, Act.put, List.setIfInBounds_toArray, List.set_cons_zero, List.set_cons_succ]
            refine wpT_take (i := 27) (oi := _) (v := ?_) rfl (by kernel_rfl) (by kernel_rfl) (by kernel_rfl) (by kernel_rfl) (fun _ _ _ h => h) (Or.inl ⟨by rfl, ?_⟩) (by assumption) ?_
            rotate_left; (intro wS hSw; (try dsimp only at hSw); go_simp <;> with_reducible rfl)
            try simp only [List.getElem_toArray, List.getElem_cons_zero, List.getElem_cons_succ, Act.put, List.setIfInBounds_toArray, List.set_cons_zero, List.set_cons_succ]
            refine wpT_done (by kernel_rfl) ?_ _
            obtain ⟨x0, x1, x2, x3, x4, x5, x6, x7, x8, HBF⟩ := hHeld
            clear x0 x1 x2 x3 x4 x5 x6 x7 x8
            obtain rfl : r = false := HST.out.trans (by simp)
            have hbF := below_ext HBw.out HBF.out
            go_wp2
            go_ret
            exact ⟨rfl, hbF⟩
          | true =>
            refine wp_region_T (S := fun w' => w'.cell? ⟨w.heap.size, 0, none⟩ = some (.int .i64 P) ∧ w'.cell? ⟨w.heap.size, 1, none⟩ = some (.int .i64 Q) ∧ w'.cell? ⟨w.heap.size, 2, none⟩ = some (.int .i64 G) ∧ w'.cell? ⟨w.heap.size + 1, 0, none⟩ = some (.slice (some ⟨b1, o1, none⟩) n ca) ∧ w'.cell? ⟨w.heap.size + 1, 1, none⟩ = some (.slice (some ⟨b2, o2, none⟩) n cc) ∧ w'.cell? ⟨w.heap.size + 1, 2, none⟩ = some (.slice (some ⟨b3, o3, none⟩) n cz) ∧ w'.cell? ⟨b1, o1 + k, none⟩ = some (.int .i64 a) ∧ w'.cell? ⟨b2, o2 + k, none⟩ = some (.int .i64 c) ∧ w'.cell? ⟨b3, o3 + k, none⟩ = some (.int .i64 z) ∧ Hid (Below w0.heap.size w0 w')) (E := []) (by kernel_rfl) (hS.out _ _ HBr HD.out HD.out) (fun hHeld => ?_)
            refine wpT_take (i := 0) (oi := _) (v := ?_) rfl (by kernel_rfl) (by kernel_rfl) (by kernel_rfl) (by kernel_rfl) (fun _ _ _ h => h) (Or.inl ⟨by rfl, ?_⟩) (by assumption) ?_
            rotate_left; (intro wS hSw; (try dsimp only at hSw); go_simp <;> with_reducible rfl)
            try simp only [List.getElem_toArray, List.getElem_cons_zero, List.getElem_cons_succ, Act.put, List.setIfInBounds_toArray, List.set_cons_zero, List.set_cons_succ]
            refine wpT_take (i := 1) (oi := _) (v := ?_) rfl (by kernel_rfl) (by kernel_rfl) (by kernel_rfl) (by kernel_rfl) (fun _ _ _ h => h) (Or.inl ⟨by rfl, ?_⟩) (by assumption) ?_
            rotate_left; (intro wS hSw; (try dsimp only at hSw); go_simp <;> with_reducible rfl)
            try simp only [List.getElem_toArray, List.getElem_cons_zero, List.getElem_cons_succ, Act.put, List.setIfInBounds_toArray, List.set_cons_zero, List.set_cons_succ]
            refine wpT_take (i := 2) (oi := _) (v := ?_) rfl (by kernel_rfl) (by kernel_rfl) (by kernel_rfl) (by kernel_rfl) (fun _ _ _ h => h) (Or.inl ⟨by rfl, ?_⟩) (by assumption) ?_
            rotate_left; (intro wS hSw; (try dsimp only at hSw); go_simp <;> with_reducible rfl)
            try simp only [List.getElem_toArray, List.getElem_cons_zero, List.getElem_cons_succ, Act.put, List.setIfInBounds_toArray, List.set_cons_zero, List.set_cons_succ]
            refine wpT_take (i := 3) (oi := _) (v := ?_) rfl (by kernel_rfl) (by kernel_rfl) (by kernel_rfl) (by kernel_rfl) (fun _ _ _ h => h) (Or.inl ⟨by rfl, ?_⟩) (by assumption) ?_
            rotate_left; (intro wS hSw; (try dsimp only at hSw); go_simp <;> with_reducible rfl)
            try simp only [List.getElem_toArray, List.getElem_cons_zero, List.getElem_cons_succ, Act.put, List.setIfInBounds_toArray, List.set_cons_zero, List.set_cons_succ]
            refine wpT_take (i := 4) (oi := _) (v := ?_) rfl (by kernel_rfl) (by kernel_rfl) (by kernel_rfl) (by kernel_rfl) (fun _ _ _ h => h) (Or.inl ⟨by rfl, ?_⟩) (by assumption) ?_
            rotate_left; (intro wS hSw; (try dsimp only at hSw); go_simp <;> with_reducible rfl)
            try simp only [List.getElem_toArray, List.getElem_cons_zero, List.getElem_cons_succ, Act.put, List.setIfInBounds_toArray, List.set_cons_zero, List.set_cons_succ]
            refine wpT_take (i := 5) (oi := _) (v := ?_) rfl (by kernel_rfl) (by kernel_rfl) (by kernel_rfl) (by kernel_rfl) (fun _ _ _ h => h) (Or.inl ⟨by rfl, ?_⟩) (by assumption) ?_
            rotate_left; (intro wS hSw; (try dsimp only at hSw); go_simp <;> with_reducible rfl)
            try simp only [List.getElem_toArray, List.getElem_cons_zero, List.getElem_cons_succ, Act.put, List.setIfInBounds_toArray, List.set_cons_zero, List.set_cons_succ]
            refine wpT_one (i := 6) (by kernel_rfl) rfl (fun K hK => ?_)
            go_simp
            (with_reducible refine (contains_any P Q G a true HAB hQ _ ?_).mono ?_); (go_split_ands; exact kV.out _ (by assumption)); rintro e wA ⟨rfl, hbA⟩
            refine hK.out _ _ ?_ (fun hHeld => ?_)
            · (go_split_ands; exact hS.out _ _ (by assumption) hbA (Below.trans HD.out (hbA.mono HD.out.size)))
            clear hK K
            try simp only [List.getElem_toArray, List.getElem_cons_zero, List.getElem_cons_succ, Act.put, List.setIfInBounds_toArray, List.set_cons_zero, List.set_cons_succ]
            refine wpT_take (i := 7) (oi := _) (v := ?_) rfl (by kernel_rfl) (by kernel_rfl) (by kernel_rfl) (by kernel_rfl) (fun _ _ _ h => h) (Or.inl ⟨by rfl, ?_⟩) (by assumption) ?_
            rotate_left; (intro wS hSw; (try dsimp only at hSw); go_simp <;> with_reducible rfl)
            try simp only [List.getElem_toArray, List.getElem_cons_zero, List.getElem_cons_succ, Act.put, List.setIfInBounds_toArray, List.set_cons_zero, List.set_cons_succ]
            refine wpT_take (i := 8) (oi := _) (v := ?_) rfl (by kernel_rfl) (by kernel_rfl) (by kernel_rfl) (by kernel_rfl) (fun _ _ _ h => h) (Or.inl ⟨by rfl, ?_⟩) (by assumption) ?_
            rotate_left; (intro wS hSw; (try dsimp only at hSw); go_simp <;> with_reducible rfl)
            try simp only [List.getElem_toArray, List.getElem_cons_zero, List.getElem_cons_succ, Act.put, List.setIfInBounds_toArray, List.set_cons_zero, List.set_cons_succ]
            refine wpT_take (i := 9) (oi := _) (v := ?_) rfl (by kernel_rfl) (by kernel_rfl) (by kernel_rfl) (by kernel_rfl) (fun _ _ _ h => h) (Or.inl ⟨by rfl, ?_⟩) (by assumption) ?_
            rotate_left; (intro wS hSw; (try dsimp only at hSw); go_simp <;> with_reducible rfl)
            try simp only [List.getElem_toArray, List.getElem_cons_zero, List.getElem_cons_succ, Act.put, List.setIfInBounds_toArray, List.set_cons_zero, List.set_cons_succ]
            refine wpT_take (i := 10) (oi := _) (v := ?_) rfl (by kernel_rfl) (by kernel_rfl) (by kernel_rfl) (by kernel_rfl) (fun _ _ _ h => h) (Or.inl ⟨by rfl, ?_⟩) (by assumption) ?_
            rotate_left; (intro wS hSw; (try dsimp only at hSw); go_simp <;> with_reducible rfl)
            try simp only [List.getElem_toArray, List.getElem_cons_zero, List.getElem_cons_succ, Act.put, List.setIfInBounds_toArray, List.set_cons_zero, List.set_cons_succ]
            refine wpT_take (i := 11) (oi := _) (v := ?_) rfl (by kernel_rfl) (by kernel_rfl) (by kernel_rfl) (by kernel_rfl) (fun _ _ _ h => h) (Or.inl ⟨by rfl, ?_⟩) (by assumption) ?_
            rotate_left; (intro wS hSw; (try dsimp only at hSw); go_simp <;> with_reducible rfl)
            try simp only [List.getElem_toArray, List.getElem_cons_zero, List.getElem_cons_succ, Act.put, List.setIfInBounds_toArray, List.set_cons_zero, List.set_cons_succ]
            refine wpT_take (i := 12) (oi := _) (v := ?_) rfl (by kernel_rfl) (by kernel_rfl) (by kernel_rfl) (by kernel_rfl) (fun _ _ _ h => h) (Or.inl ⟨by rfl, ?_⟩) (by assumption) ?_
            rotate_left; (intro wS hSw; (try dsimp only at hSw); go_simp <;> with_reducible rfl)
            try simp only [List.getElem_toArray, List.getElem_cons_zero, List.getElem_cons_succ, Act.put, List.setIfInBounds_toArray, List.set_cons_zero, List.set_cons_succ]
            refine wpT_take (i := 13) (oi := _) (v := ?_) rfl (by kernel_rfl) (by kernel_rfl) (by kernel_rfl) (by kernel_rfl) (fun _ _ _ h => h) (Or.inl ⟨by rfl, ?_⟩) (by assumption) ?_
            rotate_left; (intro wS hSw; (try dsimp only at hSw); go_simp <;> with_reducible rfl)
            try simp only [List.getElem_toArray, List.getElem_cons_zero, List.getElem_cons_succ, Act.put, List.setIfInBounds_toArray, List.set_cons_zero, List.set_cons_succ]
            refine wpT_take (i := 14) (oi := _) (v := ?_) rfl (by kernel_rfl) (by kernel_rfl) (by kernel_rfl) (by kernel_rfl) (fun _ _ _ h => h) (Or.inl ⟨by rfl, ?_⟩) (by assumption) ?_
            rotate_left; (intro wS hSw; (try dsimp only at hSw); go_simp <;> with_reducible rfl)
            try simp only [List.getElem_toArray, List.getElem_cons_zero, List.getElem_cons_succ, Act.put, List.setIfInBounds_toArray, List.set_cons_zero, List.set_cons_succ]
            refine wpT_one (i := 15) (by kernel_rfl) rfl (fun K hK => ?_)
            go_simp
            (with_reducible refine (cscalar_any P Q G c true HCB _).mono ?_); rintro e wB ⟨rfl, hbB⟩
            refine hK.out _ _ ?_ (fun hHeld => ?_)
            · (go_split_ands; exact hS.out _ _ (by assumption) hbB (Below.trans (Below.trans HD.out (hbA.mono HD.out.size)) (hbB.mono (by have h5 := HD.out.size; have h6 := hbA.size; omega))))
            clear hK K
            try simp only [List.getElem_toArray, List.getElem_cons_zero, List.getElem_cons_succ, Act.put, List.setIfInBounds_toArray, List.set_cons_zero, List.set_cons_succ]
            refine wpT_take (i := 16) (oi := _) (v := ?_) rfl (by kernel_rfl) (by kernel_rfl) (by kernel_rfl) (by kernel_rfl) (fun _ _ _ h => h) (Or.inl ⟨by rfl, ?_⟩) (by assumption) ?_
            rotate_left; (intro wS hSw; (try dsimp only at hSw); go_simp <;> with_reducible rfl)
            try simp only [List.getElem_toArray, List.getElem_cons_zero, List.getElem_cons_succ, Act.put, List.setIfInBounds_toArray, List.set_cons_zero, List.set_cons_succ]
            refine wpT_take (i := 17) (oi := _) (v := ?_) rfl (by kernel_rfl) (by kernel_rfl) (by kernel_rfl) (by kernel_rfl) (fun _ _ _ h => h) (Or.inl ⟨by rfl, ?_⟩) (by assumption) ?_
            rotate_left; (intro wS hSw; (try dsimp only at hSw); go_simp <;> with_reducible rfl)
            try simp only [List.getElem_toArray, List.getElem_cons_zero, List.getElem_cons_succ, Act.put, List.setIfInBounds_toArray, List.set_cons_zero, List.set_cons_succ]
            refine wpT_take (i := 18) (oi := _) (v := ?_) rfl (by kernel_rfl) (by kernel_rfl) (by kernel_rfl) (by kernel_rfl) (fun _ _ _ h => h) (Or.inl ⟨by rfl, ?_⟩) (by assumption) ?_
            rotate_left; (intro wS hSw; (try dsimp only at hSw); go_simp <;> with_reducible rfl)
            try simp only [List.getElem_toArray, List.getElem_cons_zero, List.getElem_cons_succ, Act.put, List.setIfInBounds_toArray, List.set_cons_zero, List.set_cons_succ]
            refine wpT_take (i := 19) (oi := _) (v := ?_) rfl (by kernel_rfl) (by kernel_rfl) (by kernel_rfl) (by kernel_rfl) (fun _ _ _ h => h) (Or.inl ⟨by rfl, ?_⟩) (by assumption) ?_
            rotate_left; (intro wS hSw; (try dsimp only at hSw); go_simp <;> with_reducible rfl)
            try simp only [List.getElem_toArray, List.getElem_cons_zero, List.getElem_cons_succ, Act.put, List.setIfInBounds_toArray, List.set_cons_zero, List.set_cons_succ]
            refine wpT_take (i := 20) (oi := _) (v := ?_) rfl (by kernel_rfl) (by kernel_rfl) (by kernel_rfl) (by kernel_rfl) (fun _ _ _ h => h) (Or.inl ⟨by rfl, ?_⟩) (by assumption) ?_
            rotate_left; (intro wS hSw; (try dsimp only at hSw); go_simp <;> with_reducible rfl)
            try simp only [List.getElem_toArray, List.getElem_cons_zero, List.getElem_cons_succ, Act.put, List.setIfInBounds_toArray, List.set_cons_zero, List.set_cons_succ]
            refine wpT_take (i := 21) (oi := _) (v := ?_) rfl (by kernel_rfl) (by kernel_rfl) (by kernel_rfl) (by kernel_rfl) (fun _ _ _ h => h) (Or.inl ⟨by rfl, ?_⟩) (by assumption) ?_
            rotate_left; (intro wS hSw; (try dsimp only at hSw); go_simp <;> with_reducible rfl)
            try simp only [List.getElem_toArray, List.getElem_cons_zero, List.getElem_cons_succ, Act.put, List.setIfInBounds_toArray, List.set_cons_zero, List.set_cons_succ]
            refine wpT_take (i := 22) (oi := _) (v := ?_) rfl (by kernel_rfl) (by kernel_rfl) (by kernel_rfl) (by kernel_rfl) (fun _ _ _ h => h) (Or.inl ⟨by rfl, ?_⟩) (by assumption) ?_
            rotate_left; (intro wS hSw; (try dsimp only at hSw); go_simp <;> with_reducible rfl)
            try simp only [List.getElem_toArray, List.getElem_cons_zero, List.getElem_cons_succ, Act.put, List.setIfInBounds_toArray, List.set_cons_zero, List.set_cons_succ]
            refine wpT_take (i := 23) (oi := _) (v := ?_) rfl (by kernel_rfl) (by kernel_rfl) (by kernel_rfl) (by kernel_rfl) (fun _ _ _ h => h) (Or.inl ⟨by rfl, ?_⟩) (by assumption) ?_
            rotate_left; (intro wS hSw; (try dsimp only at hSw); go_simp <;> with_reducible rfl)
            try simp only [List.getElem_toArray, List.getElem_cons_zero, List.getElem_cons_succ, Act.put, List.setIfInBounds_toArray, List.set_cons_zero, List.set_cons_succ]
            refine wpT_take (i := 24) (oi := _) (v := ?_) rfl (by kernel_rfl) (by kernel_rfl) (by kernel_rfl) (by kernel_rfl) (fun _ _ _ h => h) (Or.inl ⟨by rfl, ?_⟩) (by assumption) ?_
            rotate_left; (intro wS hSw; (try dsimp only at hSw); go_simp <;> with_reducible rfl)
            try simp only [List.getElem_toArray, List.getElem_cons_zero, List.getElem_cons_succ, Act.put, List.setIfInBounds_toArray, List.set_cons_zero, List.set_cons_succ]
            refine wpT_one (i := 25) (by kernel_rfl) rfl (fun K hK => ?_)
            go_simp
            (with_reducible refine (cscalar_any P Q G z true HZB _).mono ?_); rintro e wC ⟨rfl, hbC⟩
            refine hK.out _ _ ?_ (fun hHeld => ?_)
            · (go_split_ands; exact hS.out _ _ (by assumption) hbC (Below.trans (Below.trans (Below.trans HD.out (hbA.mono HD.out.size)) (hbB.mono (by have h5 := HD.out.size; have h6 := hbA.size; omega))) (hbC.mono (by have h5 := HD.out.size; have h6 := hbA.size; have h7 := hbB.size; omega))))
            clear hK K
            try simp only [List.getElem_toArray, List.getElem_cons_zero, List.getElem_cons_succ, Act.put, List.setIfInBounds_toArray, List.set_cons_zero, List.set_cons_succ]
            refine wpT_take (i := 26) (oi := _) (v := ?_) rfl (by kernel_rfl) (by kernel_rfl) (by kernel_rfl) (by kernel_rfl) (fun _ _ _ h => h) (Or.inl ⟨by rfl, ?_⟩) (by assumption) ?_
            rotate_left; (intro wS hSw; (try dsimp only at hSw); go_simp <;> with_reducible rfl)
            try simp only [List.getElem_toArray, List.getElem_cons_zero, List.getElem_cons_succ, Act.put, List.setIfInBounds_toArray, List.set_cons_zero, List.set_cons_succ]
            refine wpT_take (i := 27) (oi := _) (v := ?_) rfl (by kernel_rfl) (by kernel_rfl) (by kernel_rfl) (by kernel_rfl) (fun _ _ _ h => h) (Or.inl ⟨by rfl, ?_⟩) (by assumption) ?_
            rotate_left; (intro wS hSw; (try dsimp only at hSw); go_simp <;> with_reducible rfl)
            try simp only [List.getElem_toArray, List.getElem_cons_zero, List.getElem_cons_succ, Act.put, List.setIfInBounds_toArray, List.set_cons_zero, List.set_cons_succ]
            refine wpT_done (by kernel_rfl) ?_ _
            obtain ⟨x0, x1, x2, x3, x4, x5, x6, x7, x8, HBF⟩ := hHeld
            clear x0 x1 x2 x3 x4 x5 x6 x7 x8
            have HR2 : Hid (formL P Q al cl zl (k + 1) = r) := Lib.hid (by have := HST.out; simpa using this.symm)
            go_wp2
            go_roundw
            case rel => exact ⟨k + 1, by omega, by go_num, HR2, HBF⟩
            case measure => simp [intOf]; omega
    · obtain rfl : k = n := by omega
      obtain rfl : r = true := by
        rw [← HR.out, formL]
        have e1 : al.drop k = [] := by rw [← han.out, List.drop_length]
        have e2 : cl.drop k = [] := by rw [← hcn.out, List.drop_length]
        have e3 : zl.drop k = [] := by rw [← hzn.out, List.drop_length]
        rw [e1, e2, e3]; rfl
      have hbF := below_ext HBw.out HBr.out
      clear HR hlt
      go_wp2
      go_ret
      exact ⟨rfl, hbF⟩
set_option maxHeartbeats 6400000 in
theorem cformed_len (P Q G : Int) (n : Nat) (A : Option Addr) (al : List Int) (na ca : Nat) (C : Option Addr) (cl : List Int) (nc cc : Nat) (Z : Option Addr) (zl : List Int) (nz cz : Nat) (han : Hid (al.length = na)) (hcn : Hid (cl.length = nc)) (hzn : Hid (zl.length = nz)) (hna : na < 1000000) (hnc : nc < 1000000) (hnz : nz < 1000000) (hn : n < 1000000) (hne : na ≠ n ∨ nc ≠ n ∨ nz ≠ n) (hQ : Q < 9223372036854775808) (w : World) (hv : Hid (Vars w)) (hA : Hid (Sl w A al)) (hC : Hid (Sl w C cl)) (hZ : Hid (Sl w Z zl)) :
    Calls Tryd.prog 99 #[gv P Q G, .int .i64 n, choV A na ca C nc cc Z nz cz] w fun e' w' => e' = .returned (.bool false) ∧ Below w.heap.size w w' := by
  by_cases h1 : na = n
  · by_cases h2 : nc = n
    · have h3 : nz ≠ n := by omega
      have e1 : ((na : Int) != (n : Int)) = false := by simp; omega
      have e2 : ((nc : Int) != (n : Int)) = false := by simp; omega
      have e3 : ((nz : Int) != (n : Int)) = true := by simp; omega
      clear h1 h2 h3 hne
      obtain ⟨w0, hW⟩ : ∃ W, ((w.alloc (gObj P Q G)).alloc (choO A na ca C nc cc Z nz cz)) = W := ⟨_, rfl⟩
      have HBw : Hid (Below w.heap.size w w0) := Lib.hid (by rw [← hW]; exact below_two (Below.refl _ _))
      have hc : w0.cell? ⟨w.heap.size, 0, none⟩ = some (.int .i64 P) ∧ w0.cell? ⟨w.heap.size, 1, none⟩ = some (.int .i64 Q) ∧ w0.cell? ⟨w.heap.size, 2, none⟩ = some (.int .i64 G) ∧ w0.cell? ⟨w.heap.size + 1, 0, none⟩ = some (.slice A na ca) ∧ w0.cell? ⟨w.heap.size + 1, 1, none⟩ = some (.slice C nc cc) ∧ w0.cell? ⟨w.heap.size + 1, 2, none⟩ = some (.slice Z nz cz) := by rw [← hW]; exact ⟨cell_below (allocs_cell (by simp) (by rfl)) (below_box0 _ _), cell_below (allocs_cell (by simp) (by rfl)) (below_box0 _ _), cell_below (allocs_cell (by simp) (by rfl)) (below_box0 _ _), allocs_cell (by simp) (by rfl), allocs_cell (by simp) (by rfl), allocs_cell (by simp) (by rfl)⟩
      have kC := Lib.hid (show ∀ u : World, Hid (Below w0.heap.size w0 u) → u.cell? ⟨w.heap.size, 0, none⟩ = some (.int .i64 P) ∧ u.cell? ⟨w.heap.size, 1, none⟩ = some (.int .i64 Q) ∧ u.cell? ⟨w.heap.size, 2, none⟩ = some (.int .i64 G) ∧ u.cell? ⟨w.heap.size + 1, 0, none⟩ = some (.slice A na ca) ∧ u.cell? ⟨w.heap.size + 1, 1, none⟩ = some (.slice C nc cc) ∧ u.cell? ⟨w.heap.size + 1, 2, none⟩ = some (.slice Z nz cz) from fun u h => ⟨cell_below hc.1 h.out, cell_below hc.2.1 h.out, cell_below hc.2.2.1 h.out, cell_below hc.2.2.2.1 h.out, cell_below hc.2.2.2.2.1 h.out, cell_below hc.2.2.2.2.2 h.out⟩)
      have kV := Lib.hid (show ∀ u : World, Hid (Below w0.heap.size w0 u) → Hid (Vars u) from fun u h => Lib.hid ((hv.out.below) (below_ext HBw.out h.out)))
      have kA := Lib.hid (show ∀ u : World, Hid (Below w0.heap.size w0 u) → Hid (Sl u A al) from fun u h => Lib.hid ((hA.out.below) (below_ext HBw.out h.out)))
      have kCl := Lib.hid (show ∀ u : World, Hid (Below w0.heap.size w0 u) → Hid (Sl u C cl) from fun u h => Lib.hid ((hC.out.below) (below_ext HBw.out h.out)))
      have kZ := Lib.hid (show ∀ u : World, Hid (Below w0.heap.size w0 u) → Hid (Sl u Z zl) from fun u h => Lib.hid ((hZ.out.below) (below_ext HBw.out h.out)))
      have HB_0 : Hid (Below w0.heap.size w0 w0) := Lib.hid (Below.refl _ _)
      have HW := Lib.hid hW
      clear hW hc hv hA hC hZ
      go_enter Tryd.func99, Tryd.ntmps99
      go_wp2_with fail
      rw [HW.out]
      obtain ⟨zc0, zc1, zc2, zc3, zc4, zc5⟩ := kC.out _ HB_0
      have hbF := HBw.out
      go_wp2
      go_ret
      exact ⟨rfl, hbF⟩
    · have e1 : ((na : Int) != (n : Int)) = false := by simp; omega
      have e2 : ((nc : Int) != (n : Int)) = true := by simp; omega
      clear h1 h2 hne
      obtain ⟨w0, hW⟩ : ∃ W, ((w.alloc (gObj P Q G)).alloc (choO A na ca C nc cc Z nz cz)) = W := ⟨_, rfl⟩
      have HBw : Hid (Below w.heap.size w w0) := Lib.hid (by rw [← hW]; exact below_two (Below.refl _ _))
      have hc : w0.cell? ⟨w.heap.size, 0, none⟩ = some (.int .i64 P) ∧ w0.cell? ⟨w.heap.size, 1, none⟩ = some (.int .i64 Q) ∧ w0.cell? ⟨w.heap.size, 2, none⟩ = some (.int .i64 G) ∧ w0.cell? ⟨w.heap.size + 1, 0, none⟩ = some (.slice A na ca) ∧ w0.cell? ⟨w.heap.size + 1, 1, none⟩ = some (.slice C nc cc) ∧ w0.cell? ⟨w.heap.size + 1, 2, none⟩ = some (.slice Z nz cz) := by rw [← hW]; exact ⟨cell_below (allocs_cell (by simp) (by rfl)) (below_box0 _ _), cell_below (allocs_cell (by simp) (by rfl)) (below_box0 _ _), cell_below (allocs_cell (by simp) (by rfl)) (below_box0 _ _), allocs_cell (by simp) (by rfl), allocs_cell (by simp) (by rfl), allocs_cell (by simp) (by rfl)⟩
      have kC := Lib.hid (show ∀ u : World, Hid (Below w0.heap.size w0 u) → u.cell? ⟨w.heap.size, 0, none⟩ = some (.int .i64 P) ∧ u.cell? ⟨w.heap.size, 1, none⟩ = some (.int .i64 Q) ∧ u.cell? ⟨w.heap.size, 2, none⟩ = some (.int .i64 G) ∧ u.cell? ⟨w.heap.size + 1, 0, none⟩ = some (.slice A na ca) ∧ u.cell? ⟨w.heap.size + 1, 1, none⟩ = some (.slice C nc cc) ∧ u.cell? ⟨w.heap.size + 1, 2, none⟩ = some (.slice Z nz cz) from fun u h => ⟨cell_below hc.1 h.out, cell_below hc.2.1 h.out, cell_below hc.2.2.1 h.out, cell_below hc.2.2.2.1 h.out, cell_below hc.2.2.2.2.1 h.out, cell_below hc.2.2.2.2.2 h.out⟩)
      have kV := Lib.hid (show ∀ u : World, Hid (Below w0.heap.size w0 u) → Hid (Vars u) from fun u h => Lib.hid ((hv.out.below) (below_ext HBw.out h.out)))
      have kA := Lib.hid (show ∀ u : World, Hid (Below w0.heap.size w0 u) → Hid (Sl u A al) from fun u h => Lib.hid ((hA.out.below) (below_ext HBw.out h.out)))
      have kCl := Lib.hid (show ∀ u : World, Hid (Below w0.heap.size w0 u) → Hid (Sl u C cl) from fun u h => Lib.hid ((hC.out.below) (below_ext HBw.out h.out)))
      have kZ := Lib.hid (show ∀ u : World, Hid (Below w0.heap.size w0 u) → Hid (Sl u Z zl) from fun u h => Lib.hid ((hZ.out.below) (below_ext HBw.out h.out)))
      have HB_0 : Hid (Below w0.heap.size w0 w0) := Lib.hid (Below.refl _ _)
      have HW := Lib.hid hW
      clear hW hc hv hA hC hZ
      go_enter Tryd.func99, Tryd.ntmps99
      go_wp2_with fail
      rw [HW.out]
      obtain ⟨zc0, zc1, zc2, zc3, zc4, zc5⟩ := kC.out _ HB_0
      have hbF := HBw.out
      go_wp2
      go_ret
      exact ⟨rfl, hbF⟩
  · have e1 : ((na : Int) != (n : Int)) = true := by simp; omega
    clear h1 hne
    obtain ⟨w0, hW⟩ : ∃ W, ((w.alloc (gObj P Q G)).alloc (choO A na ca C nc cc Z nz cz)) = W := ⟨_, rfl⟩
    have HBw : Hid (Below w.heap.size w w0) := Lib.hid (by rw [← hW]; exact below_two (Below.refl _ _))
    have hc : w0.cell? ⟨w.heap.size, 0, none⟩ = some (.int .i64 P) ∧ w0.cell? ⟨w.heap.size, 1, none⟩ = some (.int .i64 Q) ∧ w0.cell? ⟨w.heap.size, 2, none⟩ = some (.int .i64 G) ∧ w0.cell? ⟨w.heap.size + 1, 0, none⟩ = some (.slice A na ca) ∧ w0.cell? ⟨w.heap.size + 1, 1, none⟩ = some (.slice C nc cc) ∧ w0.cell? ⟨w.heap.size + 1, 2, none⟩ = some (.slice Z nz cz) := by rw [← hW]; exact ⟨cell_below (allocs_cell (by simp) (by rfl)) (below_box0 _ _), cell_below (allocs_cell (by simp) (by rfl)) (below_box0 _ _), cell_below (allocs_cell (by simp) (by rfl)) (below_box0 _ _), allocs_cell (by simp) (by rfl), allocs_cell (by simp) (by rfl), allocs_cell (by simp) (by rfl)⟩
    have kC := Lib.hid (show ∀ u : World, Hid (Below w0.heap.size w0 u) → u.cell? ⟨w.heap.size, 0, none⟩ = some (.int .i64 P) ∧ u.cell? ⟨w.heap.size, 1, none⟩ = some (.int .i64 Q) ∧ u.cell? ⟨w.heap.size, 2, none⟩ = some (.int .i64 G) ∧ u.cell? ⟨w.heap.size + 1, 0, none⟩ = some (.slice A na ca) ∧ u.cell? ⟨w.heap.size + 1, 1, none⟩ = some (.slice C nc cc) ∧ u.cell? ⟨w.heap.size + 1, 2, none⟩ = some (.slice Z nz cz) from fun u h => ⟨cell_below hc.1 h.out, cell_below hc.2.1 h.out, cell_below hc.2.2.1 h.out, cell_below hc.2.2.2.1 h.out, cell_below hc.2.2.2.2.1 h.out, cell_below hc.2.2.2.2.2 h.out⟩)
    have kV := Lib.hid (show ∀ u : World, Hid (Below w0.heap.size w0 u) → Hid (Vars u) from fun u h => Lib.hid ((hv.out.below) (below_ext HBw.out h.out)))
    have kA := Lib.hid (show ∀ u : World, Hid (Below w0.heap.size w0 u) → Hid (Sl u A al) from fun u h => Lib.hid ((hA.out.below) (below_ext HBw.out h.out)))
    have kCl := Lib.hid (show ∀ u : World, Hid (Below w0.heap.size w0 u) → Hid (Sl u C cl) from fun u h => Lib.hid ((hC.out.below) (below_ext HBw.out h.out)))
    have kZ := Lib.hid (show ∀ u : World, Hid (Below w0.heap.size w0 u) → Hid (Sl u Z zl) from fun u h => Lib.hid ((hZ.out.below) (below_ext HBw.out h.out)))
    have HB_0 : Hid (Below w0.heap.size w0 w0) := Lib.hid (Below.refl _ _)
    have HW := Lib.hid hW
    clear hW hc hv hA hC hZ
    go_enter Tryd.func99, Tryd.ntmps99
    go_wp2_with fail
    rw [HW.out]
    obtain ⟨zc0, zc1, zc2, zc3, zc4, zc5⟩ := kC.out _ HB_0
    have hbF := HBw.out
    go_wp2
    go_ret
    exact ⟨rfl, hbF⟩
/-- choice.formed. -/
theorem cformed_any (P Q G : Int) (n : Nat) (A : Option Addr) (al : List Int) (na ca : Nat) (C : Option Addr) (cl : List Int) (nc cc : Nat) (Z : Option Addr) (zl : List Int) (nz cz : Nat) (r : Bool) (hr : Hid (formB P Q n al cl zl = r)) (hg : Hid (validG P Q G = true)) (han : Hid (al.length = na)) (hcn : Hid (cl.length = nc)) (hzn : Hid (zl.length = nz)) (hna : na < 1000000) (hnc : nc < 1000000) (hnz : nz < 1000000) (hn : n < 1000000) (hQ : Q < 9223372036854775808) (w : World) (hv : Hid (Vars w)) (hA : Hid (Sl w A al)) (hC : Hid (Sl w C cl)) (hZ : Hid (Sl w Z zl)) :
    Calls Tryd.prog 99 #[gv P Q G, .int .i64 n, choV A na ca C nc cc Z nz cz] w fun e' w' => e' = .returned (.bool r) ∧ Below w.heap.size w w' := by
  by_cases hne : na ≠ n ∨ nc ≠ n ∨ nz ≠ n
  · obtain rfl : r = false := by
      rw [← hr.out, formB, han.out, hcn.out, hzn.out]
      rcases hne with h | h | h
      · rw [decide_eq_false h, Bool.false_and]
      · rw [decide_eq_false h, Bool.false_and, Bool.and_false]
      · rw [decide_eq_false h, Bool.false_and, Bool.and_false, Bool.and_false]
    exact cformed_len P Q G n A al na ca C cl nc cc Z zl nz cz han hcn hzn hna hnc hnz hn hne hQ w hv hA hC hZ
  · obtain ⟨h1, h2⟩ := not_or.1 hne
    obtain ⟨h2, h3⟩ := not_or.1 h2
    have h1 := Classical.not_not.1 h1
    have h2 := Classical.not_not.1 h2
    have h3 := Classical.not_not.1 h3
    subst h1
    subst h2
    subst h3
    refine cformed_ok P Q G nz A al ca C cl cc Z zl cz r (Lib.hid ?_) hg han hcn hzn hn hQ w hv hA hC hZ
    rw [← hr.out, formB, han.out, hcn.out, hzn.out]
    simp
end Go.Proofs.YtijedphpcocfnaaDoor
namespace Go.Proofs.YtijedphpcocfnaaDoor
open Go.RowKit SpM
set_option linter.unusedVariables false
set_option linter.unusedSimpArgs false
set_option maxRecDepth 100000
theorem sl2 (w : World) (T : TypeId) (x y : Int) : Sl (w.alloc (.cells #[.int .i64 x, .int .i64 y] T)) (some ⟨w.heap.size, 0, none⟩) [x, y] := Sl.ofCells (cells2 w T x y)
theorem sl2' (w : World) (o : Obj) (T : TypeId) (x y : Int) : Sl ((w.alloc o).alloc (.cells #[.int .i64 x, .int .i64 y] T)) (some ⟨w.heap.size + 1, 0, none⟩) [x, y] := by
  have e : w.heap.size + 1 = (w.alloc o).heap.size := by simp
  rw [e]
  exact sl2 _ _ _ _
theorem all2 {f : Int → Bool} {x y : Int} (h1 : f x = true) (h2 : f y = true) : [x, y].all f = true := by simp [h1, h2]
set_option maxHeartbeats 12800000 in
/-- choice.commitment. -/
theorem ccommit_ok (P Q G b y c z V : Int) (hV : Hid (comF P Q b y c z = V)) (hg : Hid (validG P Q G = true)) (hb : Hid (memG P Q b = true)) (hy : Hid (memG P Q y = true)) (hc : Hid (scB Q c = true)) (hz : Hid (scB Q z = true)) (w : World) (hv : Hid (Vars w)) :
    Calls Tryd.prog 78 #[gv P Q G, .int .i64 b, .int .i64 y, .int .i64 c, .int .i64 z] w fun e' w' => e' = .returned (.int .i64 V) ∧ Below w.heap.size w w' := by
  obtain ⟨hp2, hp, hq3, hqp⟩ := validG_P hg.out
  have hc0 := scB_lo hc.out
  have hc1 := scB_hi hc.out
  obtain ⟨e, he⟩ : ∃ e, (Q - c) % Q = e := ⟨_, rfl⟩
  have HE := Lib.hid he
  have HEX : Hid ([z, e].all (scB Q) = true) := Lib.hid (all2 hz.out (by rw [← he]; exact neg_sc (by omega)))
  have HBX : Hid ([b, y].all (memG P Q) = true) := Lib.hid (all2 hb.out hy.out)
  have HPF : Hid (prodF P 1 [b, y] [z, e] = V) := Lib.hid (by rw [← he, comF_prod hp2, hV.out])
  clear he
  obtain ⟨w0, hW⟩ : ∃ W, (w.alloc (gObj P Q G)) = W := ⟨_, rfl⟩
  have HBw : Hid (Below w.heap.size w w0) := Lib.hid (by rw [← hW]; exact below_box0 _ _)
  have hc : w0.cell? ⟨w.heap.size, 0, none⟩ = some (.int .i64 P) ∧ w0.cell? ⟨w.heap.size, 1, none⟩ = some (.int .i64 Q) ∧ w0.cell? ⟨w.heap.size, 2, none⟩ = some (.int .i64 G) := by rw [← hW]; exact ⟨allocs_cell (by simp) (by rfl), allocs_cell (by simp) (by rfl), allocs_cell (by simp) (by rfl)⟩
  have kC := Lib.hid (show ∀ u : World, Hid (Below w0.heap.size w0 u) → u.cell? ⟨w.heap.size, 0, none⟩ = some (.int .i64 P) ∧ u.cell? ⟨w.heap.size, 1, none⟩ = some (.int .i64 Q) ∧ u.cell? ⟨w.heap.size, 2, none⟩ = some (.int .i64 G) from fun u h => ⟨cell_below hc.1 h.out, cell_below hc.2.1 h.out, cell_below hc.2.2 h.out⟩)
  have kV := Lib.hid (show ∀ u : World, Hid (Below w0.heap.size w0 u) → Hid (Vars u) from fun u h => Lib.hid ((hv.out.below) (below_ext HBw.out h.out)))
  have HB_0 : Hid (Below w0.heap.size w0 w0) := Lib.hid (Below.refl _ _)
  have HW := Lib.hid hW
  clear hW hc hv
  go_enter Tryd.func78, Tryd.ntmps78
  go_wp2_with fail
  rw [HW.out]
  obtain ⟨zc0, zc1, zc2⟩ := kC.out _ HB_0
  have hS := Lib.hid (show ∀ u1 u2 : World, Hid (Below w0.heap.size w0 u1) → Below u1.heap.size u1 u2 → (u2.cell? ⟨w.heap.size, 0, none⟩ = some (.int .i64 P) ∧ u2.cell? ⟨w.heap.size, 1, none⟩ = some (.int .i64 Q) ∧ u2.cell? ⟨w.heap.size, 2, none⟩ = some (.int .i64 G) ∧ Hid (Below w0.heap.size w0 u2)) from fun u1 u2 h1 h2 => by
    have h3 := Lib.hid (below_ext h1.out h2)
    obtain ⟨y0, y1, y2⟩ := kC.out _ h3
    exact ⟨y0, y1, y2, h3⟩)
  clear zc0 zc1 zc2
  go_region_held3 (fun w' => w'.cell? ⟨w.heap.size, 0, none⟩ = some (.int .i64 P) ∧ w'.cell? ⟨w.heap.size, 1, none⟩ = some (.int .i64 Q) ∧ w'.cell? ⟨w.heap.size, 2, none⟩ = some (.int .i64 G) ∧ Hid (Below w0.heap.size w0 w'))
    (first | exact hS.out _ _ HB_0 (Below.refl _ _).drew | (go_split_ands; exact hS.out _ _ (by assumption) hbA) | (go_split_ands; exact hS.out _ _ (by assumption) (below_box0 _ _)) | go_keep)
    ((first
      | (go_at_call 101; (with_reducible refine (cneg_ok P Q G c e HE hc0 hc1 (by omega) _).mono ?_); rintro e9 wA ⟨rfl, hbA⟩)
      | (go_at_call 105; (with_reducible refine (pproduct_ok P Q G _ [b, y] 2 2 _ [z, e] 2 V HPF (Lib.hid rfl) (Lib.hid rfl) (by omega) hg HBX HEX (by omega) _ ?_ ?_ ?_).mono ?_); (go_split_ands; exact kV.out _ (by assumption)); (first | exact Lib.hid ((Sl.below (w := (w0.alloc (.cells #[.int .i64 b, .int .i64 y] 3)).drew) (sl2 w0 _ b y) hbA).below (below_box0 _ _)) | exact Lib.hid ((sl2 wA _ b y).below (below_box0 _ _)) | exact Lib.hid (sl2' wA _ _ b y)); (first | exact Lib.hid (sl2 wA _ z e) | exact Lib.hid (sl2' wA _ _ z e) | exact Lib.hid ((sl2 wA _ z e).below (below_box0 _ _))); rintro e9 wB ⟨rfl, hbA⟩)))
  all_goals
    rename_i hHeld
    obtain ⟨x0, x1, x2, HBF⟩ := hHeld
    have hbF := below_ext HBw.out HBF.out
    clear x0 x1 x2
    go_wp2
    go_ret
    exact ⟨rfl, hbF⟩
/-- what is left to be tested from k on. -/
def accL (P Q b : Int) (ys al cl zl : List Int) (n k : Nat) : Bool := ((List.range n).drop k).all fun i => comF P Q b (ys.getD i 0) (cl.getD i 0) (zl.getD i 0) == al.getD i 0
theorem accL_step {P Q b : Int} {ys al cl zl : List Int} {n k : Nat} (h : k < n) :
    accL P Q b ys al cl zl n k = ((comF P Q b (ys.getD k 0) (cl.getD k 0) (zl.getD k 0) == al.getD k 0) && accL P Q b ys al cl zl n (k + 1)) := by
  unfold accL
  rw [List.drop_eq_getElem_cons (by simpa using h), List.all_cons, List.getElem_range]
theorem accL_end {P Q b : Int} {ys al cl zl : List Int} {n : Nat} : accL P Q b ys al cl zl n n = true := by
  unfold accL
  rw [List.drop_eq_nil_of_le (by simp)]
  rfl
/-- which proofs are accepted for their own sum. -/
def accB (P Q b : Int) (ys al cl zl : List Int) : Bool := formB P Q ys.length al cl zl && accL P Q b ys al cl zl ys.length 0
set_option maxHeartbeats 25600000 in
theorem caccepted_any (P Q G b : Int) (Y : Option Addr) (ys : List Int) (yn yc : Nat) (A : Option Addr) (al : List Int) (na ca : Nat) (C : Option Addr) (cl : List Int) (nc cc : Nat) (Z : Option Addr) (zl : List Int) (nz cz : Nat) (r : Bool) (hr : Hid (accB P Q b ys al cl zl = r)) (hg : Hid (validG P Q G = true)) (hb : Hid (memG P Q b = true)) (hym : Hid (ys.all (memG P Q) = true))
    (hyn : Hid (ys.length = yn)) (han : Hid (al.length = na)) (hcn : Hid (cl.length = nc)) (hzn : Hid (zl.length = nz)) (hna : na < 1000000) (hnc : nc < 1000000) (hnz : nz < 1000000) (hyb : yn < 1000000) (w : World) (hv : Hid (Vars w)) (hY : Hid (Sl w Y ys)) (hA : Hid (Sl w A al)) (hC : Hid (Sl w C cl)) (hZ : Hid (Sl w Z zl)) :
    Calls Tryd.prog 70 #[gv P Q G, .int .i64 b, .slice Y yn yc, choV A na ca C nc cc Z nz cz] w fun e' w' => e' = .returned (.bool r) ∧ Below w.heap.size w w' := by
  obtain ⟨hp2, hp, hq3, hqp⟩ := validG_P hg.out
  obtain ⟨fb, hfb⟩ : ∃ x, formB P Q yn al cl zl = x := ⟨_, rfl⟩
  have HFB := Lib.hid hfb
  clear hfb
  obtain ⟨w0, hW⟩ : ∃ W, ((w.alloc (gObj P Q G)).alloc (choO A na ca C nc cc Z nz cz)) = W := ⟨_, rfl⟩
  have HBw : Hid (Below w.heap.size w w0) := Lib.hid (by rw [← hW]; exact below_two (Below.refl _ _))
  have hc : w0.cell? ⟨w.heap.size, 0, none⟩ = some (.int .i64 P) ∧ w0.cell? ⟨w.heap.size, 1, none⟩ = some (.int .i64 Q) ∧ w0.cell? ⟨w.heap.size, 2, none⟩ = some (.int .i64 G) ∧ w0.cell? ⟨w.heap.size + 1, 0, none⟩ = some (.slice A na ca) ∧ w0.cell? ⟨w.heap.size + 1, 1, none⟩ = some (.slice C nc cc) ∧ w0.cell? ⟨w.heap.size + 1, 2, none⟩ = some (.slice Z nz cz) := by rw [← hW]; exact ⟨cell_below (allocs_cell (by simp) (by rfl)) (below_box0 _ _), cell_below (allocs_cell (by simp) (by rfl)) (below_box0 _ _), cell_below (allocs_cell (by simp) (by rfl)) (below_box0 _ _), allocs_cell (by simp) (by rfl), allocs_cell (by simp) (by rfl), allocs_cell (by simp) (by rfl)⟩
  have kC := Lib.hid (show ∀ u : World, Hid (Below w0.heap.size w0 u) → u.cell? ⟨w.heap.size, 0, none⟩ = some (.int .i64 P) ∧ u.cell? ⟨w.heap.size, 1, none⟩ = some (.int .i64 Q) ∧ u.cell? ⟨w.heap.size, 2, none⟩ = some (.int .i64 G) ∧ u.cell? ⟨w.heap.size + 1, 0, none⟩ = some (.slice A na ca) ∧ u.cell? ⟨w.heap.size + 1, 1, none⟩ = some (.slice C nc cc) ∧ u.cell? ⟨w.heap.size + 1, 2, none⟩ = some (.slice Z nz cz) from fun u h => ⟨cell_below hc.1 h.out, cell_below hc.2.1 h.out, cell_below hc.2.2.1 h.out, cell_below hc.2.2.2.1 h.out, cell_below hc.2.2.2.2.1 h.out, cell_below hc.2.2.2.2.2 h.out⟩)
  have kV := Lib.hid (show ∀ u : World, Hid (Below w0.heap.size w0 u) → Hid (Vars u) from fun u h => Lib.hid ((hv.out.below) (below_ext HBw.out h.out)))
  have kY := Lib.hid (show ∀ u : World, Hid (Below w0.heap.size w0 u) → Hid (Sl u Y ys) from fun u h => Lib.hid ((hY.out.below) (below_ext HBw.out h.out)))
  have kA := Lib.hid (show ∀ u : World, Hid (Below w0.heap.size w0 u) → Hid (Sl u A al) from fun u h => Lib.hid ((hA.out.below) (below_ext HBw.out h.out)))
  have kCl := Lib.hid (show ∀ u : World, Hid (Below w0.heap.size w0 u) → Hid (Sl u C cl) from fun u h => Lib.hid ((hC.out.below) (below_ext HBw.out h.out)))
  have kZ := Lib.hid (show ∀ u : World, Hid (Below w0.heap.size w0 u) → Hid (Sl u Z zl) from fun u h => Lib.hid ((hZ.out.below) (below_ext HBw.out h.out)))
  have HB_0 : Hid (Below w0.heap.size w0 w0) := Lib.hid (Below.refl _ _)
  have HW := Lib.hid hW
  clear hW hc hv hY hA hC hZ
  go_enter Tryd.func70, Tryd.ntmps70
  go_wp2_with fail
  rw [HW.out]
  obtain ⟨zc0, zc1, zc2, zc3, zc4, zc5⟩ := kC.out _ HB_0
  go_wp2_with fail
  refine (cformed_any P Q G yn A al na ca C cl nc cc Z zl nz cz fb HFB hg han hcn hzn hna hnc hnz hyb (by omega) _ (kV.out _ HB_0) (kA.out _ HB_0) (kCl.out _ HB_0) (kZ.out _ HB_0)).mono ?_
  rintro e w1 ⟨rfl, hb0⟩
  have HB_1 := Lib.hid (below_ext HB_0.out hb0)
  clear zc0 zc1 zc2 zc3 zc4 zc5
  clear hb0
  obtain ⟨zc0, zc1, zc2, zc3, zc4, zc5⟩ := kC.out _ HB_1
  clear zc0 zc1 zc2 zc3 zc4 zc5
  cases fb with
  | false =>
    obtain rfl : r = false := by rw [← hr.out, accB, hyn.out, HFB.out, Bool.false_and]
    have hbF := below_ext HBw.out HB_1.out
    go_wp2
    go_ret
    exact ⟨rfl, hbF⟩
  | true =>
    obtain ⟨f1, f2, f3, f4, f5, f6⟩ := formB_parts HFB.out
    have HCS := Lib.hid f5
    have HZS := Lib.hid f6
    obtain rfl : yn = na := f1.symm.trans han.out
    obtain rfl : yn = nc := f2.symm.trans hcn.out
    obtain rfl : yn = nz := f3.symm.trans hzn.out
    have HACC : Hid (accL P Q b ys al cl zl yn 0 = r) := Lib.hid (by rw [← hr.out, accB, hyn.out, HFB.out, Bool.true_and])
    clear f1 f2 f3 f4 f5 f6
    go_wp2
    go_loopw [19] (fun i wr => ∃ k : Nat, k ≤ yn ∧ i = .int .i64 k ∧ Hid (accL P Q b ys al cl zl yn k = r) ∧ Hid (Below w0.heap.size w0 wr)) (fun i _ => yn - (intOf i).toNat)
    case atStart => exact ⟨0, by omega, rfl, HACC, HB_1⟩
    case round =>
      obtain ⟨k, hk, rfl, HR, HBr⟩ := hrel
      obtain ⟨wo, rfl⟩ : ∃ wo : World, wo = wr := ⟨_, rfl⟩
      by_cases hlt : k < yn
      · have h0 : k < ys.length := by rw [hyn.out]; exact hlt
        have h1 : k < al.length := by rw [han.out]; exact hlt
        have h2 : k < cl.length := by rw [hcn.out]; exact hlt
        have h3 : k < zl.length := by rw [hzn.out]; exact hlt
        obtain ⟨b0, o0, e0, hi0⟩ := (kY.out _ HBr).out k h0
        obtain ⟨b1, o1, e1, hi1⟩ := (kA.out _ HBr).out k h1
        obtain ⟨b2, o2, e2, hi2⟩ := (kCl.out _ HBr).out k h2
        obtain ⟨b3, o3, e3, hi3⟩ := (kZ.out _ HBr).out k h3
        subst e0
        subst e1
        subst e2
        subst e3
        have hst := accL_step (P := P) (Q := Q) (b := b) (ys := ys) (al := al) (cl := cl) (zl := zl) hlt
        rw [HR.out] at hst
        have hmy := all_get hym.out h0
        have hsc := all_get HCS.out h2
        have hsz := all_get HZS.out h3
        obtain ⟨y, hy⟩ : ∃ x, ys.getD k 0 = x := ⟨_, rfl⟩
        obtain ⟨a, ha⟩ : ∃ x, al.getD k 0 = x := ⟨_, rfl⟩
        obtain ⟨c, hc⟩ : ∃ x, cl.getD k 0 = x := ⟨_, rfl⟩
        obtain ⟨z, hz⟩ : ∃ x, zl.getD k 0 = x := ⟨_, rfl⟩
        rw [hy] at hi0 hmy hst
        rw [ha] at hi1 hst
        rw [hc] at hi2 hsc hst
        rw [hz] at hi3 hsz hst
        have hc0 := scB_lo hsc
        have hc1 := scB_hi hsc
        obtain ⟨e, he⟩ : ∃ e, (Q - c) % Q = e := ⟨_, rfl⟩
        have HE := Lib.hid he
        have HEX : Hid ([z, e].all (scB Q) = true) := Lib.hid (all2 hsz (by rw [← he]; exact neg_sc (by omega)))
        have HBX : Hid ([b, y].all (memG P Q) = true) := Lib.hid (all2 hb.out hmy)
        obtain ⟨t, ht⟩ : ∃ t, (comF P Q b y c z == a) = t := ⟨_, rfl⟩
        have HPF : Hid ((prodF P 1 [b, y] [z, e] == a) = t) := Lib.hid (by rw [← he, comF_prod hp2, ht])
        rw [ht] at hst
        have HST := Lib.hid hst
        have HJ0 := Lib.hid hi0
        have HJ1 := Lib.hid hi1
        have HJ2 := Lib.hid hi2
        have HJ3 := Lib.hid hi3
        clear he ht hst hmy hsc hsz hy ha hc hz h0 h1 h2 h3 HR
        have hS := Lib.hid (show ∀ u1 u2 : World, (Hid (Below w0.heap.size w0 u1) ∧ Hid (Below wo.heap.size wo u1)) → Below u1.heap.size u1 u2 → (u2.cell? ⟨w.heap.size, 0, none⟩ = some (.int .i64 P) ∧ u2.cell? ⟨w.heap.size, 1, none⟩ = some (.int .i64 Q) ∧ u2.cell? ⟨w.heap.size, 2, none⟩ = some (.int .i64 G) ∧ u2.cell? ⟨w.heap.size + 1, 0, none⟩ = some (.slice (some ⟨b1, o1, none⟩) yn ca) ∧ u2.cell? ⟨w.heap.size + 1, 1, none⟩ = some (.slice (some ⟨b2, o2, none⟩) yn cc) ∧ u2.cell? ⟨w.heap.size + 1, 2, none⟩ = some (.slice (some ⟨b3, o3, none⟩) yn cz) ∧ u2.cell? ⟨b1, o1 + k, none⟩ = some (.int .i64 a) ∧ u2.cell? ⟨b2, o2 + k, none⟩ = some (.int .i64 c) ∧ u2.cell? ⟨b3, o3 + k, none⟩ = some (.int .i64 z) ∧ Hid (Below w0.heap.size w0 u2) ∧ Hid (Below wo.heap.size wo u2)) from fun u1 u2 h4 h5 => by
          have h7 := Lib.hid (below_ext h4.1.out h5)
          have h8 := Lib.hid (below_ext h4.2.out h5)
          obtain ⟨y0, y1, y2, y3, y4, y5⟩ := kC.out _ h7
          exact ⟨y0, y1, y2, y3, y4, y5, cell_below HJ1.out h8.out, cell_below HJ2.out h8.out, cell_below HJ3.out h8.out, h7, h8⟩)
        have HDR : Hid (Below wo.heap.size wo wo) := Lib.hid (Below.refl _ _)
        clear hi1 hi2 hi3
        go_wp2
        clear hi0
        go_region_held3 (fun w' => w'.cell? ⟨w.heap.size, 0, none⟩ = some (.int .i64 P) ∧ w'.cell? ⟨w.heap.size, 1, none⟩ = some (.int .i64 Q) ∧ w'.cell? ⟨w.heap.size, 2, none⟩ = some (.int .i64 G) ∧ w'.cell? ⟨w.heap.size + 1, 0, none⟩ = some (.slice (some ⟨b1, o1, none⟩) yn ca) ∧ w'.cell? ⟨w.heap.size + 1, 1, none⟩ = some (.slice (some ⟨b2, o2, none⟩) yn cc) ∧ w'.cell? ⟨w.heap.size + 1, 2, none⟩ = some (.slice (some ⟨b3, o3, none⟩) yn cz) ∧ w'.cell? ⟨b1, o1 + k, none⟩ = some (.int .i64 a) ∧ w'.cell? ⟨b2, o2 + k, none⟩ = some (.int .i64 c) ∧ w'.cell? ⟨b3, o3 + k, none⟩ = some (.int .i64 z) ∧ Hid (Below w0.heap.size w0 w') ∧ Hid (Below wo.heap.size wo w'))
          (first | exact hS.out _ _ ⟨HBr, HDR⟩ (Below.refl _ _).drew | (go_split_ands; exact hS.out _ _ ⟨by assumption, by assumption⟩ hbA) | (go_split_ands; exact hS.out _ _ ⟨by assumption, by assumption⟩ (below_box0 _ _)) | go_keep)
          ((first
            | (go_at_call 101; (with_reducible refine (cneg_ok P Q G c e HE hc0 hc1 (by omega) _).mono ?_); rintro e9 wA ⟨rfl, hbA⟩)
            | (go_at_call 100; (with_reducible refine (pcheck_ok P Q G a _ [b, y] 2 2 _ [z, e] 2 t HPF (Lib.hid rfl) (Lib.hid rfl) (by omega) hg HBX HEX (by omega) _ ?_ ?_ ?_).mono ?_); (go_split_ands; exact kV.out _ (by assumption)); (first | exact Lib.hid ((Sl.below (w := (wo.alloc (.cells #[.int .i64 b, .int .i64 y] 3)).drew) (sl2 wo _ b y) hbA).below (below_box0 _ _)) | exact Lib.hid ((sl2 wA _ b y).below (below_box0 _ _)) | exact Lib.hid (sl2' wA _ _ b y)); (first | exact Lib.hid (sl2 wA _ z e) | exact Lib.hid (sl2' wA _ _ z e) | exact Lib.hid ((sl2 wA _ z e).below (below_box0 _ _))); rintro e9 wB ⟨rfl, hbA⟩)))
        all_goals
          rename_i hHeld
          obtain ⟨x0, x1, x2, x3, x4, x5, x6, x7, x8, HBF, _⟩ := hHeld
          clear x0 x1 x2 x3 x4 x5 x6 x7 x8
          cases t with
          | false =>
            obtain rfl : r = false := HST.out.trans (by simp)
            have hbF := below_ext HBw.out HBF.out
            go_wp2
            go_ret
            exact ⟨rfl, hbF⟩
          | true =>
            have HR2 : Hid (accL P Q b ys al cl zl yn (k + 1) = r) := Lib.hid (by have := HST.out; simpa using this.symm)
            go_wp2
            go_roundw
            case rel => exact ⟨k + 1, by omega, by go_num, HR2, HBF⟩
            case measure => simp [intOf]; omega
      · obtain rfl : k = yn := by omega
        obtain rfl : r = true := HR.out.symm.trans accL_end
        have hbF := below_ext HBw.out HBr.out
        clear HR hlt
        go_wp2
        go_ret
        exact ⟨rfl, hbF⟩
end Go.Proofs.YtijedphpcocfnaaDoor
namespace Go.Proofs.YtijedphpcocfnaaDoor
open Go.RowKit SpM
set_option linter.unusedVariables false
set_option linter.unusedSimpArgs false
set_option maxRecDepth 100000
/-- which proofs are accepted for a challenge. -/
def checkC (P Q G b : Int) (ys : List Int) (c : Int) (al cl zl : List Int) : Bool := (givC P Q G b ys == 0) && (scB Q c && (accB P Q b ys al cl zl && (sumL Q 0 cl == c)))
set_option maxHeartbeats 12800000 in
theorem cccheck_any (P Q G b : Int) (Y : Option Addr) (ys : List Int) (yn yc : Nat) (c : Int) (A : Option Addr) (al : List Int) (na ca : Nat) (C : Option Addr) (cl : List Int) (nc cc : Nat) (Z : Option Addr) (zl : List Int) (nz cz : Nat) (r : Bool) (hr : Hid (checkC P Q G b ys c al cl zl = r)) (hyn : Hid (ys.length = yn)) (hyb : yn < 1000000) (han : Hid (al.length = na)) (hcn : Hid (cl.length = nc)) (hzn : Hid (zl.length = nz)) (hna : na < 1000000) (hnc : nc < 1000000) (hnz : nz < 1000000) (hQ : Q < 9223372036854775808)
    (w : World) (hv : Hid (Vars w)) (hY : Hid (Sl w Y ys)) (hA : Hid (Sl w A al)) (hC : Hid (Sl w C cl)) (hZ : Hid (Sl w Z zl)) :
    Calls Tryd.prog 31 #[gv P Q G, .int .i64 b, .slice Y yn yc, .int .i64 c, choV A na ca C nc cc Z nz cz] w fun e' w' => e' = .returned (.bool r) ∧ Below w.heap.size w w' := by
  obtain ⟨g, hg⟩ : ∃ g, givC P Q G b ys = g := ⟨_, rfl⟩
  obtain ⟨sb, hsb⟩ : ∃ x, scB Q c = x := ⟨_, rfl⟩
  obtain ⟨ab, hab⟩ : ∃ x, accB P Q b ys al cl zl = x := ⟨_, rfl⟩
  obtain ⟨V, hV⟩ : ∃ x, sumL Q 0 cl = x := ⟨_, rfl⟩
  obtain ⟨t, ht⟩ : ∃ x, (V == c) = x := ⟨_, rfl⟩
  have HG := Lib.hid hg
  have HSB := Lib.hid hsb
  have HAB := Lib.hid hab
  have HSV := Lib.hid hV
  have HTT := Lib.hid ht
  have HRR : Hid (((g == 0) && (sb && (ab && t))) = r) := Lib.hid (by rw [← hr.out, checkC, hg, hsb, hab, hV, ht])
  clear hg hsb hab hV ht
  obtain ⟨w0, hW⟩ : ∃ W, ((w.alloc (gObj P Q G)).alloc (choO A na ca C nc cc Z nz cz)) = W := ⟨_, rfl⟩
  have HBw : Hid (Below w.heap.size w w0) := Lib.hid (by rw [← hW]; exact below_two (Below.refl _ _))
  have hc : w0.cell? ⟨w.heap.size, 0, none⟩ = some (.int .i64 P) ∧ w0.cell? ⟨w.heap.size, 1, none⟩ = some (.int .i64 Q) ∧ w0.cell? ⟨w.heap.size, 2, none⟩ = some (.int .i64 G) ∧ w0.cell? ⟨w.heap.size + 1, 0, none⟩ = some (.slice A na ca) ∧ w0.cell? ⟨w.heap.size + 1, 1, none⟩ = some (.slice C nc cc) ∧ w0.cell? ⟨w.heap.size + 1, 2, none⟩ = some (.slice Z nz cz) := by rw [← hW]; exact ⟨cell_below (allocs_cell (by simp) (by rfl)) (below_box0 _ _), cell_below (allocs_cell (by simp) (by rfl)) (below_box0 _ _), cell_below (allocs_cell (by simp) (by rfl)) (below_box0 _ _), allocs_cell (by simp) (by rfl), allocs_cell (by simp) (by rfl), allocs_cell (by simp) (by rfl)⟩
  have kC := Lib.hid (show ∀ u : World, Hid (Below w0.heap.size w0 u) → u.cell? ⟨w.heap.size, 0, none⟩ = some (.int .i64 P) ∧ u.cell? ⟨w.heap.size, 1, none⟩ = some (.int .i64 Q) ∧ u.cell? ⟨w.heap.size, 2, none⟩ = some (.int .i64 G) ∧ u.cell? ⟨w.heap.size + 1, 0, none⟩ = some (.slice A na ca) ∧ u.cell? ⟨w.heap.size + 1, 1, none⟩ = some (.slice C nc cc) ∧ u.cell? ⟨w.heap.size + 1, 2, none⟩ = some (.slice Z nz cz) from fun u h => ⟨cell_below hc.1 h.out, cell_below hc.2.1 h.out, cell_below hc.2.2.1 h.out, cell_below hc.2.2.2.1 h.out, cell_below hc.2.2.2.2.1 h.out, cell_below hc.2.2.2.2.2 h.out⟩)
  have kV := Lib.hid (show ∀ u : World, Hid (Below w0.heap.size w0 u) → Hid (Vars u) from fun u h => Lib.hid ((hv.out.below) (below_ext HBw.out h.out)))
  have kY := Lib.hid (show ∀ u : World, Hid (Below w0.heap.size w0 u) → Hid (Sl u Y ys) from fun u h => Lib.hid ((hY.out.below) (below_ext HBw.out h.out)))
  have kA := Lib.hid (show ∀ u : World, Hid (Below w0.heap.size w0 u) → Hid (Sl u A al) from fun u h => Lib.hid ((hA.out.below) (below_ext HBw.out h.out)))
  have kCl := Lib.hid (show ∀ u : World, Hid (Below w0.heap.size w0 u) → Hid (Sl u C cl) from fun u h => Lib.hid ((hC.out.below) (below_ext HBw.out h.out)))
  have kZ := Lib.hid (show ∀ u : World, Hid (Below w0.heap.size w0 u) → Hid (Sl u Z zl) from fun u h => Lib.hid ((hZ.out.below) (below_ext HBw.out h.out)))
  have HB_0 : Hid (Below w0.heap.size w0 w0) := Lib.hid (Below.refl _ _)
  have HW := Lib.hid hW
  clear hW hc hv hY hA hC hZ
  go_enter Tryd.func31, Tryd.ntmps31
  go_wp2_with fail
  rw [HW.out]
  obtain ⟨zc0, zc1, zc2, zc3, zc4, zc5⟩ := kC.out _ HB_0
  go_wp2_with fail
  refine (cgiven_any P Q G b Y ys yn yc g HG hyn hyb hQ _ (kV.out _ HB_0) (kY.out _ HB_0)).mono ?_
  rintro e w1 ⟨rfl, hb0⟩
  have HB_1 := Lib.hid (below_ext HB_0.out hb0)
  clear zc0 zc1 zc2 zc3 zc4 zc5
  clear hb0
  obtain ⟨zc0, zc1, zc2, zc3, zc4, zc5⟩ := kC.out _ HB_1
  cases hgz : g == 0 with
  | false =>
    obtain rfl : r = false := HRR.out.symm.trans (by rw [hgz]; rfl)
    have hbF := below_ext HBw.out HB_1.out
    go_wp2
    go_ret
    exact ⟨rfl, hbF⟩
  | true =>
    obtain rfl : g = 0 := by simpa using hgz
    obtain ⟨g1, g2, g3, g4, g5⟩ := givC_0 HG.out
    obtain ⟨hp2, hp, hq3, hqp⟩ := validG_P g1
    have HVG := Lib.hid g1
    have HMB := Lib.hid g4
    have HMY := Lib.hid g5
    clear g1 g2 g3 g4 g5 hgz
    go_wp2_with fail
    refine (cscalar_any P Q G c sb HSB _).mono ?_
    rintro e w2 ⟨rfl, hb0⟩
    have HB_2 := Lib.hid (below_ext HB_1.out hb0)
    clear zc0 zc1 zc2 zc3 zc4 zc5
    clear hb0
    obtain ⟨zc0, zc1, zc2, zc3, zc4, zc5⟩ := kC.out _ HB_2
    cases sb with
    | false =>
      obtain rfl : r = false := HRR.out.symm.trans (by simp)
      have hbF := below_ext HBw.out HB_2.out
      go_wp2
      go_ret
      exact ⟨rfl, hbF⟩
    | true =>
      go_wp2_with fail
      refine (caccepted_any P Q G b Y ys yn yc A al na ca C cl nc cc Z zl nz cz ab HAB HVG HMB HMY hyn han hcn hzn hna hnc hnz hyb _ (kV.out _ HB_2) (kY.out _ HB_2) (kA.out _ HB_2) (kCl.out _ HB_2) (kZ.out _ HB_2)).mono ?_
      rintro e w3 ⟨rfl, hb0⟩
      have HB_3 := Lib.hid (below_ext HB_2.out hb0)
      clear zc0 zc1 zc2 zc3 zc4 zc5
      clear hb0
      obtain ⟨zc0, zc1, zc2, zc3, zc4, zc5⟩ := kC.out _ HB_3
      cases ab with
      | false =>
        obtain rfl : r = false := HRR.out.symm.trans (by simp)
        have hbF := below_ext HBw.out HB_3.out
        go_wp2
        go_ret
        exact ⟨rfl, hbF⟩
      | true =>
        have HCS : Hid (cl.all (scB Q) = true) := Lib.hid (formB_parts (by have h9 := HAB.out; rw [accB, Bool.and_eq_true] at h9; exact h9.1)).2.2.2.2.1
        go_wp2_with fail
        refine (csum_ok P Q G C cl nc cc V HSV hcn hnc HCS (by omega) (by omega) _ (kCl.out _ HB_3)).mono ?_
        rintro e w4 ⟨rfl, hb0⟩
        have HB_4 := Lib.hid (below_ext HB_3.out hb0)
        clear zc0 zc1 zc2 zc3 zc4 zc5
        clear hb0
        obtain ⟨zc0, zc1, zc2, zc3, zc4, zc5⟩ := kC.out _ HB_4
        have htt := HTT.out
        obtain rfl : r = t := HRR.out.symm.trans (by simp)
        have hbF := below_ext HBw.out HB_4.out
        go_wp2
        go_ret
        exact ⟨by first | rfl | rw [htt], hbF⟩
/-- the error of Sum. -/
def sumE (P Q G : Int) (cl : List Int) : Int := if validG P Q G = true then (if cl.length ≤ 16 then (if cl.all (scB Q) = true then 0 else 2) else 1) else 1
/-- what Sum returns. -/
def sumV (P Q G : Int) (cl : List Int) : Int := if sumE P Q G cl = 0 then sumL Q 0 cl else 0
set_option maxHeartbeats 12800000 in
theorem csumf_any (P Q G : Int) (A : Option Addr) (al : List Int) (na ca : Nat) (C : Option Addr) (cl : List Int) (nc cc : Nat) (Z : Option Addr) (zl : List Int) (nz cz : Nat) (r V : Int) (hr : Hid (sumE P Q G cl = r)) (hV : Hid (sumV P Q G cl = V)) (hcn : Hid (cl.length = nc)) (hnc : nc < 1000000) (hQ : Q < 9223372036854775808)
    (w : World) (hv : Hid (Vars w)) (hC : Hid (Sl w C cl)) :
    Calls Tryd.prog 30 #[gv P Q G, choV A na ca C nc cc Z nz cz] w fun e' w' => e' = .returned (.tuple #[.int .i64 V, .int .i64 r]) ∧ Below w.heap.size w w' := by
  obtain ⟨vb, hvb⟩ : ∃ b, validG P Q G = b := ⟨_, rfl⟩
  obtain ⟨sb, hsb⟩ : ∃ b, cl.all (scB Q) = b := ⟨_, rfl⟩
  have HVB := Lib.hid hvb
  have HSB := Lib.hid hsb
  clear hvb hsb
  obtain ⟨w0, hW⟩ : ∃ W, ((w.alloc (gObj P Q G)).alloc (choO A na ca C nc cc Z nz cz)) = W := ⟨_, rfl⟩
  have HBw : Hid (Below w.heap.size w w0) := Lib.hid (by rw [← hW]; exact below_two (Below.refl _ _))
  have hc : w0.cell? ⟨w.heap.size, 0, none⟩ = some (.int .i64 P) ∧ w0.cell? ⟨w.heap.size, 1, none⟩ = some (.int .i64 Q) ∧ w0.cell? ⟨w.heap.size, 2, none⟩ = some (.int .i64 G) ∧ w0.cell? ⟨w.heap.size + 1, 0, none⟩ = some (.slice A na ca) ∧ w0.cell? ⟨w.heap.size + 1, 1, none⟩ = some (.slice C nc cc) ∧ w0.cell? ⟨w.heap.size + 1, 2, none⟩ = some (.slice Z nz cz) := by rw [← hW]; exact ⟨cell_below (allocs_cell (by simp) (by rfl)) (below_box0 _ _), cell_below (allocs_cell (by simp) (by rfl)) (below_box0 _ _), cell_below (allocs_cell (by simp) (by rfl)) (below_box0 _ _), allocs_cell (by simp) (by rfl), allocs_cell (by simp) (by rfl), allocs_cell (by simp) (by rfl)⟩
  have kC := Lib.hid (show ∀ u : World, Hid (Below w0.heap.size w0 u) → u.cell? ⟨w.heap.size, 0, none⟩ = some (.int .i64 P) ∧ u.cell? ⟨w.heap.size, 1, none⟩ = some (.int .i64 Q) ∧ u.cell? ⟨w.heap.size, 2, none⟩ = some (.int .i64 G) ∧ u.cell? ⟨w.heap.size + 1, 0, none⟩ = some (.slice A na ca) ∧ u.cell? ⟨w.heap.size + 1, 1, none⟩ = some (.slice C nc cc) ∧ u.cell? ⟨w.heap.size + 1, 2, none⟩ = some (.slice Z nz cz) from fun u h => ⟨cell_below hc.1 h.out, cell_below hc.2.1 h.out, cell_below hc.2.2.1 h.out, cell_below hc.2.2.2.1 h.out, cell_below hc.2.2.2.2.1 h.out, cell_below hc.2.2.2.2.2 h.out⟩)
  have kV := Lib.hid (show ∀ u : World, Hid (Below w0.heap.size w0 u) → Hid (Vars u) from fun u h => Lib.hid ((hv.out.below) (below_ext HBw.out h.out)))
  have kCl := Lib.hid (show ∀ u : World, Hid (Below w0.heap.size w0 u) → Hid (Sl u C cl) from fun u h => Lib.hid ((hC.out.below) (below_ext HBw.out h.out)))
  have HB_0 : Hid (Below w0.heap.size w0 w0) := Lib.hid (Below.refl _ _)
  have HW := Lib.hid hW
  clear hW hc hv hC
  go_enter Tryd.func30, Tryd.ntmps30
  go_wp2_with fail
  rw [HW.out]
  obtain ⟨zc0, zc1, zc2, zc3, zc4, zc5⟩ := kC.out _ HB_0
  go_wp2_with fail
  refine (valid_any P Q G vb HVB hQ _ (kV.out _ HB_0)).mono ?_
  rintro e w1 ⟨rfl, hb0⟩
  have HB_1 := Lib.hid (below_ext HB_0.out hb0)
  clear zc0 zc1 zc2 zc3 zc4 zc5
  clear hb0
  obtain ⟨zc0, zc1, zc2, zc3, zc4, zc5⟩ := kC.out _ HB_1
  cases vb with
  | false =>
    have hrr : sumE P Q G cl = 1 := by unfold sumE; simp only [HVB.out, Bool.false_eq_true, if_false]
    obtain rfl : r = 1 := hr.out.symm.trans hrr
    obtain rfl : V = 0 := hV.out.symm.trans (by rw [sumV, hrr]; rfl)
    clear hrr
    have hbF := below_ext HBw.out HB_1.out
    go_wp2
    go_ret2
    exact ⟨rfl, hbF⟩
  | true =>
    by_cases h1 : 16 < nc
    · skip
      have d1 : decide ((16 : Int) < (nc : Int)) = true := by simp; omega
      have hrr : sumE P Q G cl = 1 := by unfold sumE; simp only [HVB.out, hcn.out, HSB.out, Bool.false_eq_true, if_true, if_false]; rw [if_neg (by omega)]
      obtain rfl : r = 1 := hr.out.symm.trans hrr
      obtain rfl : V = 0 := hV.out.symm.trans (by rw [sumV, hrr]; rfl)
      clear hrr
      have hbF := below_ext HBw.out HB_1.out
      go_wp2
      go_ret2
      exact ⟨rfl, hbF⟩
    · skip
      have d1 : decide ((16 : Int) < (nc : Int)) = false := by simp; omega
      have hle : nc ≤ 16 := by omega
      have HLE := Lib.hid hle
      clear hle
      obtain ⟨hp2, hp, hq3, hqp⟩ := validG_P HVB.out
      have HCY : Hid ((cl.any fun x => !scB Q x) = !sb) := Lib.hid (by rw [any_not_all, HSB.out])
      have HSY := Lib.hid (says_csu P Q G w.heap.size _ (Lib.hid (show GBox w1 w.heap.size P Q G from ⟨(kC.out _ HB_1).1, (kC.out _ HB_1).2.1, (kC.out _ HB_1).2.2.1⟩)))
      go_wp2_with fail
      refine (cf_csu (.pointer (some ⟨w.heap.size, 0, none⟩)) (fun x => !scB Q x) (!sb) C cl nc cc HCY hcn (Lib.hid hnc) _ (kCl.out _ HB_1) HSY).mono ?_
      rintro e w2 ⟨rfl, hb0⟩
      have HB_2 := Lib.hid (below_ext HB_1.out hb0)
      clear zc0 zc1 zc2 zc3 zc4 zc5
      clear hb0
      obtain ⟨zc0, zc1, zc2, zc3, zc4, zc5⟩ := kC.out _ HB_2
      cases sb with
      | false =>
        have hrr : sumE P Q G cl = 2 := by unfold sumE; simp only [HVB.out, hcn.out, HSB.out, Bool.false_eq_true, if_true, if_false]; rw [if_pos HLE.out]
        obtain rfl : r = 2 := hr.out.symm.trans hrr
        obtain rfl : V = 0 := hV.out.symm.trans (by rw [sumV, hrr]; rfl)
        clear hrr
        have hbF := below_ext HBw.out HB_2.out
        go_wp2
        go_ret2
        exact ⟨rfl, hbF⟩
      | true =>
        have hrr : sumE P Q G cl = 0 := by unfold sumE; simp only [HVB.out, hcn.out, HSB.out, Bool.false_eq_true, if_true, if_false]; rw [if_pos HLE.out]
        obtain rfl : r = 0 := hr.out.symm.trans hrr
        have HSV : Hid (sumL Q 0 cl = V) := Lib.hid (by rw [← hV.out, sumV, if_pos hrr])
        clear hrr
        go_wp2_with fail
        refine (csum_ok P Q G C cl nc cc V HSV hcn hnc HSB (by omega) (by omega) _ (kCl.out _ HB_2)).mono ?_
        rintro e w3 ⟨rfl, hb0⟩
        have HB_3 := Lib.hid (below_ext HB_2.out hb0)
        clear zc0 zc1 zc2 zc3 zc4 zc5
        clear hb0
        obtain ⟨zc0, zc1, zc2, zc3, zc4, zc5⟩ := kC.out _ HB_3
        have hbF := below_ext HBw.out HB_3.out
        go_wp2
        go_ret2
        exact ⟨rfl, hbF⟩
end Go.Proofs.YtijedphpcocfnaaDoor
