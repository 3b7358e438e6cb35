/- Contracts and lemmas: Pvl, TruA, DeaA, TruB, TruC, Two, TruD, DlK, Pts, HdB, HdC, DlL, Pty. -/
import Derived.Maps.OwnSet
import Derived.Deep.AppendLies
import Derived.Laws.AppendOwnNone
import Derived.Test.YticegghameafgaaGreatDoorTh3
set_option linter.unusedVariables false
set_option linter.unusedSimpArgs false
set_option maxRecDepth 100000
set_option maxHeartbeats 25600000
namespace Go.Proofs.YticegghameafgaaGreatDoor
open Go.RowKit jk
theorem EE (c0 : Value) (p : Row → Bool) (A : Option Addr) (xs : List Row) (n c : Nat) (hn : Hid (xs.length = n)) (hbig : Hid (n < 1000000)) (w : World) (hs : Hid (Rw w A xs)) (hp : Hid (CP 76 #[c0] p w)) :
  Calls Tryz.prog 95 #[.slice A n c, .func (.func 76) #[] #[c0]] w (Fu p xs w) := by
 have hn0 : n < 1000000 := hbig.out
 go_in
 go_wp2
 go_loopw [8] (fun i wr => ∃ k : Nat, k ≤ n ∧ i = .int .i64 k ∧ Hid (xs.any p = (xs.drop k).any p) ∧ Hid (Below w.heap.size w wr)) (fun i _ => n - (intOf i).toNat)
 case atStart => exact ⟨0, by omega, rfl, aa rfl, aa (Below.refl _ _)⟩
 case round =>
  obtain ⟨k, hk, rfl, HR, aB⟩ := hrel
  by_cases hlt : k < n
  ·
   have hkl : k < xs.length := by rw [hn.out]; exact hlt
   obtain ⟨⟨b, o, hA, hi⟩, hok⟩ := hs.out.below aB.out k hkl
   subst hA
   cases hpx : p (xs.getD k nu) with
   | false =>
    have HN : Hid (xs.any p = (xs.drop (k + 1)).any p) := aa (HR.out.trans (zD hkl hpx))
    obtain ⟨x, hx⟩ : ∃ x, xs.getD k nu = x := ⟨_, rfl⟩
    rw [hx] at hi hpx hok
    have HC := aa (hp.out x wr aB.out hok)
    have IK := aa hpx
    obtain ⟨xp, xn, xc, xl⟩ := x
    dsimp only [Row.val] at hi
    clear hx hkl hpx HR hok
    go_wp2_with fail
    refine HC.out.mono ?_
    rintro e w2 ⟨rfl, hb0⟩
    rw [IK.out]
    have HB2 := aa (ag aB.out hb0)
    clear hb0
    go_wp2
    go_roundw
    case rel => exact ⟨k + 1, by omega, by go_num, HN, HB2⟩
    case measure => simp [intOf]; omega
   | true =>
    have HN : Hid (decide ((0 : Int) ≤ (k : Int)) = xs.any p) := aa (by rw [HR.out, CG hkl hpx]; simp)
    obtain ⟨x, hx⟩ : ∃ x, xs.getD k nu = x := ⟨_, rfl⟩
    rw [hx] at hi hpx hok
    have HC := aa (hp.out x wr aB.out hok)
    have IK := aa hpx
    obtain ⟨xp, xn, xc, xl⟩ := x
    dsimp only [Row.val] at hi
    clear hx hkl hpx HR hok
    go_wp2_with fail
    refine HC.out.mono ?_
    rintro e w2 ⟨rfl, hb0⟩
    rw [IK.out]
    have HB2 := aa (ag aB.out hb0)
    clear hb0
    go_wp2
    go_ret
    exact ⟨k, rfl, HN.out, HB2.out⟩
  ·
   obtain rfl : k = n := by omega
   have HN : Hid (decide ((0 : Int) ≤ (-1 : Int)) = xs.any p) := aa (by rw [HR.out, ← hn.out]; simp)
   clear HR hlt
   go_wp2
   go_ret
   exact ⟨-1, rfl, HN.out, aB.out⟩
theorem Iq (c0 : Value) (p : Row → Bool) (r : Bool) (A : Option Addr) (xs : List Row) (n c : Nat) (hr : Hid (xs.any p = r)) (hn : Hid (xs.length = n)) (hbig : Hid (n < 1000000)) (w : World) (hs : Hid (Rw w A xs)) (hp : Hid (CP 76 #[c0] p w)) :
  Calls Tryz.prog 75 #[.slice A n c, .func (.func 76) #[] #[c0]] w (Rt w (.bool r)) := by
 go_in
 go_wp2_with fail
 refine (EE c0 p A xs n c hn hbig _ hs hp).mono ?_
 rintro e w1 ⟨i, rfl, hi, hb1⟩
 have hd : decide ((0 : Int) ≤ i) = r := hi.trans hr.out
 clear hi
 go_wp2
 go_ret
 exact ⟨by first | rfl | (rw [← hd]) | simp [hd], hb1⟩
def iG (q : Int) (r : Row) : Bool := decide (1000 < r.n) || ((decide (0 < r.n) && (r.xs.getD (r.n - 1) 0 == 0)) || !(r.xs.all (aQ q)))
theorem D9 (q : Int) (a : Nat) (W : World) (hx : Hid (W.cell? ⟨a, 0, none⟩ = some (.int .i64 q))) :
  CP 76 #[.pointer (some ⟨a, 0, none⟩)] (iG q) W := fun r w1 hb hok => by
 show Calls Tryz.prog 76 #[.slice r.p r.n r.c, .pointer (some ⟨a, 0, none⟩)] w1 fun e w' => e = .returned (.bool (iG q r)) ∧ Below w1.heap.size w1 w'
 have c0 := cell_below hx.out hb
 obtain ⟨A, n, c, xs⟩ := r
 have hn : Hid (xs.length = n) := aa hok.1
 have hS : Hid (Sl w1 A xs) := aa hok.2
 clear hok hb
 by_cases hbig : 1000 < n
 ·
  have e : iG q ⟨A, n, c, xs⟩ = true := by simp [iG, hbig]
  rw [e]
  have d0 : decide ((1000 : Int) < (n : Int)) = true := by simp; omega
  clear e
  go_in
  go_wp2
  go_ret
  exact ⟨rfl, Below.refl _ _⟩
 ·
  have d0 : decide ((1000 : Int) < (n : Int)) = false := by simp; omega
  have QC : Hid (n < 1000000) := aa (by omega)
  obtain ⟨t, ht⟩ : ∃ t, xs.all (aQ q) = t := ⟨_, rfl⟩
  have HT := aa ht
  by_cases h0 : n = 0
  ·
   subst h0
   have e : iG q ⟨A, 0, c, xs⟩ = !t := by simp [iG, ht]
   rw [e]
   have d1 : decide ((0 : Int) < ((0 : Nat) : Int)) = false := by simp
   clear e ht
   go_in
   go_wp2_with fail
   refine (bT q A xs 0 c t HT hn QC _ hS).mono ?_
   rintro e w2 ⟨rfl, hb2⟩
   go_wp2
   go_ret
   exact ⟨rfl, hb2⟩
  ·
   obtain ⟨j, rfl⟩ : ∃ j, n = j + 1 := ⟨n - 1, by omega⟩
   have d1 : decide ((0 : Int) < ((j + 1 : Nat) : Int)) = true := by simp <;> omega
   have d2 : decide ((0 : Int) < (j : Int) + 1) = true := by simp <;> omega
   have d3 : decide ((1000 : Int) < (j : Int) + 1) = false := by simp <;> omega
   have e1 : ((j + 1 : Nat) : Int) - 1 = (j : Int) := by omega
   have e2 : (j : Int) + 1 - 1 = (j : Int) := by omega
   obtain ⟨b, o, hA, hi0⟩ := hS.out j (by rw [hn.out]; omega)
   subst hA
   obtain ⟨v, hv⟩ : ∃ v, xs.getD j 0 = v := ⟨_, rfl⟩
   rw [hv] at hi0
   by_cases hv0 : v = 0
   ·
    have e : iG q ⟨some ⟨b, o, none⟩, j + 1, c, xs⟩ = true := by simp only [iG, Nat.add_sub_cancel, hv, hv0]; simp
    rw [e]
    have dz : ((v : Int) == 0) = true := by simpa using hv0
    clear e hv ht
    go_in
    go_wp2
    go_ret
    exact ⟨rfl, Below.refl _ _⟩
   ·
    have e : iG q ⟨some ⟨b, o, none⟩, j + 1, c, xs⟩ = !t := by
     have : (v == 0) = false := by simpa using hv0
     have h9 : decide (1000 < j + 1) = false := by simp; omega
     simp only [iG, Nat.add_sub_cancel, hv, this, ht, h9]; simp
    rw [e]
    have dz : ((v : Int) == 0) = false := by simpa using hv0
    clear e hv ht
    go_in
    go_wp2_with fail
    refine (bT q (some ⟨b, o, none⟩) xs (j + 1) c t HT hn QC _ hS).mono ?_
    rintro e w2 ⟨rfl, hb2⟩
    go_wp2
    go_ret
    exact ⟨rfl, hb2⟩
theorem Fh {q : Int} {m n c : Nat} {A : Option Addr} {xs : List Int} (h : Pl q m xs) (hn : xs.length = n) (hm : m ≤ 1000) : iG q ⟨A, n, c, xs⟩ = false := by
 have h1 := h.len
 have h9 : decide (1000 < n) = false := by simp; omega
 have h8 : (decide (0 < n) && (xs.getD (n - 1) 0 == 0)) = false := by
  rcases h.trim with e | e
  ·
   have : decide (0 < n) = false := by simp; omega
   rw [this]; rfl
  ·
   rw [hn] at e
   have : (xs.getD (n - 1) 0 == 0) = false := by simpa using e
   rw [this, Bool.and_false]
 simp only [iG, h9, h8, h.sc]; rfl
theorem yU (q : Int) (r : Row) (b : Nat) (h2 : q < 2305843009213693952) (hp : Hid (dB q = true)) (hbad : Hid (iG q r = false)) (w : World) (hv : Hid (Vars w)) (hS : Hid (Rw w (some ⟨b, 0, none⟩) [r])) :
  Calls Tryz.prog 49 #[.int .i64 q, .slice (some ⟨b, 0, none⟩) 1 1] w (Rt w (.bool true)) := by
 have hb0 := af w (.cells #[.int .i64 q] 3)
 have HX0 : Hid ((w.alloc (.cells #[.int .i64 q] 3)).cell? ⟨w.heap.size, 0, none⟩ = some (.int .i64 q)) := aa (ai (heap_alloc_new _ _) 0)
 obtain ⟨W, hW⟩ : ∃ W, w.alloc (.cells #[.int .i64 q] 3) = W := ⟨_, rfl⟩
 rw [hW] at hb0 HX0
 have HW := aa hW
 have HB0 := aa hb0
 have Dp := aa (hv.out.below hb0)
 have Og := aa (hS.out.below hb0)
 have HA : Hid ([r].any (iG q) = false) := aa (by rw [List.any_cons, hbad.out]; rfl)
 clear hv hS hb0 hW
 go_in
 go_upto_region 1 with (fail)
 rw [HW.out]
 have x0 := HX0.out
 go_wp2_with fail
 refine (jb q h2 hp _ Dp).mono ?_
 rintro e w2 ⟨rfl, hb2⟩
 have HB2 := aa (ag HB0.out hb2)
 have KO : Hid (w2.cell? ⟨w.heap.size, 0, none⟩ = some (.int .i64 q)) := aa (cell_below HX0.out hb2)
 have HS2 := aa (Og.out.below hb2)
 have Jp := aa (D9 q w.heap.size w2 KO)
 clear hb2 x0
 go_wp2_with fail
 refine (Iq (.pointer (some ⟨w.heap.size, 0, none⟩)) (iG q) false (some ⟨b, 0, none⟩) [r] 1 1 HA (aa rfl) (aa (by omega)) _ HS2 Jp).mono ?_
 rintro e w3 ⟨rfl, hb3⟩
 have HB3 := ag HB2.out hb3
 clear hb3
 go_wp2
 go_ret
 exact ⟨rfl, HB3⟩
theorem sO (q : Int) (A : Option Addr) (xs : List Int) (n c m : Nat) (x : Int) (h2 : q < 2305843009213693952) (hp : Hid (dB q = true)) (hn : Hid (xs.length = n)) (hpl : Hid (Pl q m xs)) (hm : m ≤ 1000) (x0 : 0 ≤ x) (x1 : x < q) (w : World) (hv : Hid (Vars w)) (hS : Hid (Sl w A xs)) :
  Calls Tryz.prog 13 #[.int .i64 q, .slice A n c, .int .i64 x] w (Rt w (.tuple #[.int .i64 (pv xs x % q), .int .i64 0])) := by
 have q2 := fB hp.out
 have hb0 := af w (.cells #[.slice A n c] 30)
 have FJ : Hid ((w.alloc (.cells #[.slice A n c] 30)).cell? ⟨w.heap.size, 0, none⟩ = some (.slice A n c)) := aa (ai (heap_alloc_new _ _) 0)
 have lM : Hid (Rw (w.alloc (.cells #[.slice A n c] 30)) (some ⟨w.heap.size, 0, none⟩) [⟨A, n, c, xs⟩]) := aa (fun k hk => by
  obtain rfl : k = 0 := by simpa using hk
  exact ⟨⟨w.heap.size, 0, rfl, FJ.out⟩, hn.out, hS.out.below hb0⟩)
 have Dp := aa (hv.out.below hb0)
 have HB0 := aa hb0
 have Tv : Hid (iG q ⟨A, n, c, xs⟩ = false) := aa (Fh hpl.out hn.out hm)
 have HE : Hid (xX q x xs n = pv xs x % q) := aa (vU (by omega) x xs n hn.out)
 clear hb0
 go_in
 go_wp2_with fail
 refine (yU q ⟨A, n, c, xs⟩ w.heap.size h2 hp Tv _ Dp lM).mono ?_
 rintro e w2 ⟨rfl, hb2⟩
 have HB2 := aa (ag HB0.out hb2)
 clear hb2
 go_wp2_with fail
 have R6 := aa (dU (nS w2 3 x))
 have HB3 := aa (ag HB2.out (af w2 (.cells #[.int .i64 x] 3)))
 refine (bT q (some ⟨w2.heap.size, 0, none⟩) [x] 1 1 true (aa (lW x0 x1)) (aa rfl) (aa (by omega)) _ R6).mono ?_
 rintro e w4 ⟨rfl, hb4⟩
 have yH := aa (ag HB3.out hb4)
 have zX := aa (hS.out.below yH.out)
 clear hb4
 go_wp2_with fail
 refine (kJ q A xs n c x (by omega) h2 (aa hpl.out.sc) hn (by have := hpl.out.len; have := hn.out; omega) x0 x1 _ zX).mono ?_
 rintro e w5 ⟨rfl, hb5⟩
 rw [HE.out]
 have Gx := ag yH.out hb5
 clear hb5
 obtain ⟨V, hV⟩ : ∃ V, pv xs x % q = V := ⟨_, rfl⟩
 rw [hV]
 go_wp2
 go_ret2
 exact ⟨by rw [hV]; rfl, Gx⟩
abbrev o6 (need : Int) (Cs : Option Addr) (cn cc : Nat) (Ks : Option Addr) (kn kc : Nat) : Value := .agg #[.int .i64 need, .slice Cs cn cc, .slice Ks kn kc]
abbrev r_ (need : Int) (Cs : Option Addr) (cn cc : Nat) (Ks : Option Addr) (kn kc : Nat) : Obj := .cells #[.int .i64 need, .slice Cs cn cc, .slice Ks kn kc] 32
def kM (Q need : Int) (n : Nat) : Bool := decide (1 ≤ n) && (decide (n ≤ 8) && (decide ((n : Int) < Q) && (decide (1 ≤ need) && decide (need ≤ n))))
def vT (Q i : Int) : Nat → Int
 | 0 => 1
 | k + 1 => vT Q i k * i % Q
def vF (P Q : Int) (cs : List Int) (i : Int) : Nat → Int
 | 0 => 1
 | k + 1 => vF P Q cs i k * pw (cs.getD k 0) (vT Q i k % Q) P % P
def zR (P Q : Int) (cs : List Int) : Nat → List Int → Bool
 | _, [] => true
 | i, y :: t => (y == vF P Q cs ((i : Int) + 1) cs.length) && zR P Q cs (i + 1) t
theorem BI {P Q : Int} {cs ks : List Int} {k : Nat} (hk : k < ks.length) : zR P Q cs k (ks.drop k) = ((ks.getD k 0 == vF P Q cs ((k : Int) + 1) cs.length) && zR P Q cs (k + 1) (ks.drop (k + 1))) := by
 rw [List.drop_eq_getElem_cons hk, zR, List.getD_eq_getElem?_getD, List.getElem?_eq_getElem hk]; rfl
theorem jd {Q i : Int} (hQ : 2 ≤ Q) : ∀ k, 0 ≤ vT Q i k ∧ vT Q i k < Q
 | 0 => ⟨by rw [vT]; omega, by rw [vT]; omega⟩
 | k + 1 => ⟨Int.emod_nonneg _ (by omega), Int.emod_lt_of_pos _ (by omega)⟩
theorem xR {P Q : Int} {cs : List Int} {i : Int} (hP : 2 ≤ P) (hQ : 1 ≤ Q) (h : cs.all (aV P Q) = true) : ∀ k, k ≤ cs.length → aV P Q (vF P Q cs i k) = true
 | 0, _ => EC hP
 | k + 1, hk => ED hP hQ (xR hP hQ h k (by omega)) (vE hP hQ (Int.emod_nonneg _ (by omega)) (mF h (by omega)))
theorem gy {Q need : Int} {n : Nat} (h : kM Q need n = true) : 1 ≤ n ∧ n ≤ 8 ∧ (n : Int) < Q ∧ 1 ≤ need ∧ need ≤ n := by
 unfold kM at h
 simpa using h
theorem qo {w : World} {A : Option Addr} {xs : List Int} (h : Sl w A xs) (hp : 0 < xs.length) : ∃ b o, A = some ⟨b, o, none⟩ := by
 obtain ⟨b, o, h1, _⟩ := h 0 hp
 exact ⟨b, o, h1⟩
def Ah (P Q G need : Int) (cs ks : List Int) : Bool := au P Q G && (kM Q need ks.length && (decide ((cs.length : Int) = need) && (!(cs.getD 0 0 == 1) && (cs.all (aV P Q) && zR P Q cs 0 ks))))
theorem dX (P Q G need : Int) (n : Nat) (r : Bool) (hr : Hid (kM Q need n = r)) (w : World) :
  Calls Tryz.prog 22 #[gv P Q G, .int .i64 need, .int .i64 n] w (Rt w (.bool r)) := by
 have HX := aa (cO w P Q G)
 obtain ⟨c0, c1, c2⟩ := HX.out
 have hb := af w (aM P Q G)
 have hr1 := hr.out
 unfold kM at hr1
 by_cases h0 : 1 ≤ n
 ·
  have d0 : decide ((1 : Int) ≤ (n : Int)) = true := by simp; omega
  by_cases h1 : n ≤ 8
  ·
   have d1 : decide ((n : Int) ≤ 8) = true := by simp; omega
   by_cases h2 : (n : Int) < Q
   ·
    have d2 : decide ((n : Int) < Q) = true := by simp; omega
    by_cases h3 : 1 ≤ need
    ·
     have d3 : decide ((1 : Int) ≤ need) = true := by simp; omega
     by_cases h4 : need ≤ n
     ·
      have d4 : decide (need ≤ (n : Int)) = true := by simp; omega
      obtain rfl : r = true := by rw [← hr1]; simp; omega
      go_in
      go_wp2
      go_ret
      exact ⟨rfl, hb⟩
     ·
      have d4 : decide (need ≤ (n : Int)) = false := by simp; omega
      obtain rfl : r = false := by rw [← hr1]; simp; omega
      go_in
      go_wp2
      go_ret
      exact ⟨rfl, hb⟩
    ·
     have d3 : decide ((1 : Int) ≤ need) = false := by simp; omega
     obtain rfl : r = false := by rw [← hr1]; simp; omega
     go_in
     go_wp2
     go_ret
     exact ⟨rfl, hb⟩
   ·
    have d2 : decide ((n : Int) < Q) = false := by simp; omega
    obtain rfl : r = false := by rw [← hr1]; simp; omega
    go_in
    go_wp2
    go_ret
    exact ⟨rfl, hb⟩
  ·
   have d1 : decide ((n : Int) ≤ 8) = false := by simp; omega
   obtain rfl : r = false := by rw [← hr1]; simp; omega
   go_in
   go_wp2
   go_ret
   exact ⟨rfl, hb⟩
 ·
  have d0 : decide ((1 : Int) ≤ (n : Int)) = false := by simp; omega
  obtain rfl : r = false := by rw [← hr1]; simp; omega
  go_in
  go_wp2
  go_ret
  exact ⟨rfl, hb⟩
theorem xQ (P Q G : Int) (bC oC : Nat) (cs : List Int) (cn cc : Nat) (hbig : cn < 1000000) (idx K : Int) (eu : Hid (au P Q G = true)) (hn : Hid (cs.length = cn)) (hm : Hid (cs.all (aV P Q) = true)) (i0 : 0 ≤ idx) (i1 : idx < Q) (hK : Hid (vF P Q cs idx cs.length = K)) (w : World) (hv : Hid (Vars w)) (hC : Hid (Sl w (some ⟨bC, oC, none⟩) cs)) :
  Calls Tryz.prog 67 #[gv P Q G, .slice (some ⟨bC, oC, none⟩) cn cc, .int .i64 idx] w (Rt w (.int .i64 K)) := by
 obtain ⟨hp2, hp, hq3, LG⟩ := aD eu.out
 have hQ : Q < 9223372036854775808 := by omega
 have hq : Q < 2305843009213693952 := by omega
 obtain ⟨w0, HW, bO, kC⟩ := st1 (aM P Q G) Gi w
 have kV := mkV bO hv
 have oM := mkS bO hC
 have aN := kr w0
 clear hv hC
 go_in
 go_wp2_with fail
 rw [HW.out]
 have zc := kC.out _ aN
 go_wp2
 clear zc
 go_loopw [7, 8, 15] (fun y e i wr => ∃ k : Nat, k ≤ cn ∧ i = .int .i64 k ∧ y = .int .i64 (vF P Q cs idx k) ∧ e = .int .i64 (vT Q idx k) ∧ Hid (Below w0.heap.size w0 wr)) (fun _ _ i _ => cn - (intOf i).toNat)
 case atStart => exact ⟨0, by omega, rfl, rfl, rfl, aN⟩
 case round =>
  obtain ⟨k, hk, rfl, rfl, rfl, aB⟩ := hrel
  have hkm := xR (i := idx) hp2 (by omega) hm.out k (by rw [hn.out]; exact hk)
  obtain ⟨e0, e1⟩ := jd (i := idx) (show 2 ≤ Q by omega) k
  by_cases hlt : k < cn
  ·
   have hkl : k < cs.length := by rw [hn.out]; exact hlt
   obtain ⟨b, o, hA, hi⟩ := (oM.out _ aB).out k hkl
   cases hA
   have hcm := mF hm.out hkl
   have sk : vF P Q cs idx (k + 1) = vF P Q cs idx k * pw (cs.getD k 0) (vT Q idx k % Q) P % P := rfl
   have se : vT Q idx (k + 1) = vT Q idx k * idx % Q := rfl
   obtain ⟨x, hx⟩ : ∃ x, cs.getD k 0 = x := ⟨_, rfl⟩
   obtain ⟨a, ha⟩ : ∃ x, vF P Q cs idx k = x := ⟨_, rfl⟩
   obtain ⟨e, he⟩ : ∃ x, vT Q idx k = x := ⟨_, rfl⟩
   obtain ⟨v, Dk⟩ : ∃ x', pw x (e % Q) P = x' := ⟨_, rfl⟩
   obtain ⟨u, hu⟩ : ∃ x', a * v % P = x' := ⟨_, rfl⟩
   obtain ⟨f, hf⟩ : ∃ x', e * idx % Q = x' := ⟨_, rfl⟩
   rw [hx] at hi hcm sk
   rw [ha] at hkm sk ⊢
   rw [he] at e0 e1 sk se ⊢
   rw [Dk, hu] at sk
   rw [hf] at se
   have ck1 : Hid (kU P Q G [x] = 0) := aa (mE eu.out (by simp [hcm]))
   have mv : aV P Q v = true := by rw [← Dk]; exact vE hp2 (by omega) (Int.emod_nonneg _ (by omega)) hcm
   have ck2 : Hid (kU P Q G [a, v] = 0) := aa (mE eu.out (by simp [hkm, mv]))
   have NV := aa Dk
   have HU := aa hu
   have HF := aa hf
   have SK := aa sk
   have SE := aa se
   clear hx ha he Dk hu hf sk se hcm hkm mv hkl
   have zc := kC.out _ aB
   go_wp2_with fail
   clear zc
   refine oz kC aB (mq P Q G x e v ck1 NV (by omega) (by omega) _ (kV.out _ aB)) fun w1 bW zc => ?_
   go_wp2_with fail
   clear zc
   refine oz kC bW (ES P Q G a v u ck2 HU hQ _ (kV.out _ bW)) fun w2 aL zc => ?_
   go_wp2_with fail
   refine (qf e idx Q f HF hq e0 e1 i0 i1 _).mono ?_
   rintro e9 w9 ⟨rfl, n9, rfl⟩
   have FN := aa (ah aL.out n9)
   go_wp2
   go_roundw
   case rel => exact ⟨k + 1, by omega, by go_num, by rw [SK.out], by rw [SE.out], FN⟩
   case measure => simp [intOf]; omega
  ·
   obtain rfl : k = cn := by omega
   have hkv := hK.out
   rw [hn.out] at hkv
   rw [hkv]
   clear hkv hkm e0 e1
   go_wp2
   go_ret
   exact ⟨rfl, zV bO aB⟩
theorem JU (P Q G need : Int) (Cs : Option Addr) (cn cc : Nat) (Ks : Option Addr) (kn kc : Nat) (eu : Hid (au P Q G = false)) (hQ : Q < 9223372036854775808) (w : World) (hv : Hid (Vars w)) :
  Calls Tryz.prog 31 #[gv P Q G, o6 need Cs cn cc Ks kn kc] w (Rt w (.bool false)) := by
 obtain ⟨w0, HW, bO, kC⟩ := st2 (aM P Q G) wM (r_ need Cs cn cc Ks kn kc) Gi w
 have kV := mkV bO hv
 have aN := kr w0
 clear hv
 go_in
 go_wp2_with fail
 rw [HW.out]
 have zc := kC.out _ aN
 go_wp2_with fail
 clear zc
 refine oz kC aN (aJ P Q G false eu hQ _ (kV.out _ aN)) fun w1 bW zc => ?_
 go_wp2
 go_ret
 exact ⟨rfl, zV bO bW⟩
theorem JS (P Q G need : Int) (Cs : Option Addr) (cn cc : Nat) (Ks : Option Addr) (kn kc : Nat) (eu : Hid (au P Q G = true)) (HN : Hid (kM Q need kn = false)) (hQ : Q < 9223372036854775808) (w : World) (hv : Hid (Vars w)) :
  Calls Tryz.prog 31 #[gv P Q G, o6 need Cs cn cc Ks kn kc] w (Rt w (.bool false)) := by
 obtain ⟨w0, HW, bO, kC⟩ := st2 (aM P Q G) wM (r_ need Cs cn cc Ks kn kc) Gi w
 have kV := mkV bO hv
 have aN := kr w0
 clear hv
 go_in
 go_wp2_with fail
 rw [HW.out]
 have zc := kC.out _ aN
 go_wp2_with fail
 clear zc
 refine oz kC aN (aJ P Q G true eu hQ _ (kV.out _ aN)) fun w1 bW zc => ?_
 go_wp2_with fail
 clear zc
 refine oz kC bW (dX P Q G need kn false HN _) fun w2 aL zc => ?_
 go_wp2
 go_ret
 exact ⟨rfl, zV bO aL⟩
theorem JR (P Q G need : Int) (Cs : Option Addr) (cn cc : Nat) (Ks : Option Addr) (kn kc : Nat) (eu : Hid (au P Q G = true)) (HN : Hid (kM Q need kn = true)) (hne : ¬ ((cn : Int) = need)) (hQ : Q < 9223372036854775808) (w : World) (hv : Hid (Vars w)) :
  Calls Tryz.prog 31 #[gv P Q G, o6 need Cs cn cc Ks kn kc] w (Rt w (.bool false)) := by
 have dn : ((cn : Int) != need) = true := by simpa using hne
 obtain ⟨w0, HW, bO, kC⟩ := st2 (aM P Q G) wM (r_ need Cs cn cc Ks kn kc) Gi w
 have kV := mkV bO hv
 have aN := kr w0
 clear hv
 go_in
 go_wp2_with fail
 rw [HW.out]
 have zc := kC.out _ aN
 go_wp2_with fail
 clear zc
 refine oz kC aN (aJ P Q G true eu hQ _ (kV.out _ aN)) fun w1 bW zc => ?_
 go_wp2_with fail
 clear zc
 refine oz kC bW (dX P Q G need kn true HN _) fun w2 aL zc => ?_
 go_wp2
 go_ret
 exact ⟨rfl, zV bO aL⟩
theorem JQ (P Q G need : Int) (bC oC : Nat) (cs : List Int) (cn cc : Nat) (bK oK : Nat) (ks : List Int) (kn kc : Nat) (hcn : Hid (cs.length = cn)) (hkn : Hid (ks.length = kn)) (eu : Hid (au P Q G = true)) (HN : Hid (kM Q need kn = true)) (hne : Hid ((cn : Int) = need)) (hpos : 0 < cn) (KD : Int) (FJ : Hid (cs.getD 0 0 = KD)) (h1 : (KD == 1) = true) (hQ : Q < 9223372036854775808) (w : World) (hv : Hid (Vars w)) (hC : Hid (Sl w (some ⟨bC, oC, none⟩) cs)) (hK : Hid (Sl w (some ⟨bK, oK, none⟩) ks)) :
  Calls Tryz.prog 31 #[gv P Q G, o6 need (some ⟨bC, oC, none⟩) cn cc (some ⟨bK, oK, none⟩) kn kc] w (Rt w (.bool false)) := by
 have dn : ((cn : Int) != need) = false := by simpa using hne.out
 obtain ⟨w0, HW, bO, kC⟩ := st2 (aM P Q G) wM (r_ need (some ⟨bC, oC, none⟩) cn cc (some ⟨bK, oK, none⟩) kn kc) Gi w
 have kV := mkV bO hv
 have oM := mkS bO hC
 have rP := mkS bO hK
 have aN := kr w0
 clear hv hC hK
 go_in
 go_wp2_with fail
 rw [HW.out]
 have zc := kC.out _ aN
 go_wp2_with fail
 clear zc
 refine oz kC aN (aJ P Q G true eu hQ _ (kV.out _ aN)) fun w1 bW zc => ?_
 obtain ⟨b9, o9, BZ, hi9⟩ := (oM.out _ bW).out 0 (by rw [hcn.out]; exact hpos)
 cases BZ
 rw [FJ.out, Nat.add_zero] at hi9
 have Gt := aa hi9
 clear hi9
 go_wp2_with fail
 clear zc
 refine oz kC bW (dX P Q G need kn true HN _) fun w2 aL zc => ?_
 obtain ⟨b9, o9, BZ, hi9⟩ := (oM.out _ aL).out 0 (by rw [hcn.out]; exact hpos)
 cases BZ
 rw [FJ.out, Nat.add_zero] at hi9
 clear Gt
 go_wp2
 go_ret
 exact ⟨rfl, zV bO aL⟩
theorem JP (P Q G need : Int) (bC oC : Nat) (cs : List Int) (cn cc : Nat) (bK oK : Nat) (ks : List Int) (kn kc : Nat) (hcn : Hid (cs.length = cn)) (hkn : Hid (ks.length = kn)) (eu : Hid (au P Q G = true)) (HN : Hid (kM Q need kn = true)) (hne : Hid ((cn : Int) = need)) (hpos : 0 < cn) (KD : Int) (FJ : Hid (cs.getD 0 0 = KD)) (h1 : (KD == 1) = false) (r : Bool) (hr : Hid ((cs.all (aV P Q) && zR P Q cs 0 ks) = r)) (hQ : Q < 9223372036854775808) (w : World) (hv : Hid (Vars w)) (hC : Hid (Sl w (some ⟨bC, oC, none⟩) cs)) (hK : Hid (Sl w (some ⟨bK, oK, none⟩) ks)) :
  Calls Tryz.prog 31 #[gv P Q G, o6 need (some ⟨bC, oC, none⟩) cn cc (some ⟨bK, oK, none⟩) kn kc] w (Rt w (.bool r)) := by
 have dn : ((cn : Int) != need) = false := by simpa using hne.out
 obtain ⟨n1, n2, n3, n4, n5⟩ := gy HN.out
 have Km : cn < 1000000 := by have := hne.out; omega
 obtain ⟨w0, HW, bO, kC⟩ := st2 (aM P Q G) wM (r_ need (some ⟨bC, oC, none⟩) cn cc (some ⟨bK, oK, none⟩) kn kc) Gi w
 have kV := mkV bO hv
 have oM := mkS bO hC
 have rP := mkS bO hK
 have aN := kr w0
 clear hv hC hK
 go_in
 go_wp2_with fail
 rw [HW.out]
 have zc := kC.out _ aN
 go_wp2_with fail
 clear zc
 refine oz kC aN (aJ P Q G true eu hQ _ (kV.out _ aN)) fun w1 bW zc => ?_
 obtain ⟨b9, o9, BZ, hi9⟩ := (oM.out _ bW).out 0 (by rw [hcn.out]; exact hpos)
 cases BZ
 rw [FJ.out, Nat.add_zero] at hi9
 have Gt := aa hi9
 clear hi9
 go_wp2_with fail
 clear zc
 refine oz kC bW (dX P Q G need kn true HN _) fun w2 aL zc => ?_
 obtain ⟨b9, o9, BZ, hi9⟩ := (oM.out _ aL).out 0 (by rw [hcn.out]; exact hpos)
 cases BZ
 rw [FJ.out, Nat.add_zero] at hi9
 clear Gt
 go_wp2
 clear zc
 clear hi9
 go_loopw [40] (fun i wr => ∃ k : Nat, k ≤ cn ∧ i = .int .i64 k ∧ Hid (cs.all (aV P Q) = (cs.drop k).all (aV P Q)) ∧ Hid (Below w0.heap.size w0 wr)) (fun i _ => cn - (intOf i).toNat)
 case atStart => exact ⟨0, by omega, rfl, aa rfl, aL⟩
 case round =>
  obtain ⟨k, hk, rfl, HR, aB⟩ := hrel
  by_cases hlt : k < cn
  ·
   have hkl : k < cs.length := by rw [hcn.out]; exact hlt
   obtain ⟨b, o, hA, hi⟩ := (oM.out _ aB).out k hkl
   cases hA
   cases F6 : aV P Q (cs.getD k 0) with
   | true =>
    have HS : Hid (cs.all (aV P Q) = (cs.drop (k + 1)).all (aV P Q)) := aa (HR.out.trans (iM hkl F6))
    obtain ⟨x, hx⟩ : ∃ x, cs.getD k 0 = x := ⟨_, rfl⟩
    rw [hx] at hi F6
    have HM := aa F6
    clear hx F6 HR hkl
    have zc := kC.out _ aB
    go_wp2_with fail
    clear zc
    refine oz kC aB (jV P Q G x true (aa (by rw [Cv, eu.out, HM.out]; rfl)) hQ _ (kV.out _ aB)) fun w3 ek zc => ?_
    go_wp2
    go_roundw
    case rel => exact ⟨k + 1, by omega, by go_num, HS, ek⟩
    case measure => simp [intOf]; omega
   | false =>
    obtain rfl : r = false := by rw [← hr.out, HR.out, jY hkl F6]; rfl
    obtain ⟨x, hx⟩ : ∃ x, cs.getD k 0 = x := ⟨_, rfl⟩
    rw [hx] at hi F6
    have HM := aa F6
    clear hx F6 HR hkl
    have zc := kC.out _ aB
    go_wp2_with fail
    clear zc
    refine oz kC aB (jV P Q G x false (aa (by rw [Cv, eu.out, HM.out]; rfl)) hQ _ (kV.out _ aB)) fun w3 ek zc => ?_
    go_wp2
    go_ret
    exact ⟨rfl, zV bO ek⟩
  ·
   obtain rfl : k = cn := by omega
   have ig : Hid (cs.all (aV P Q) = true) := aa (by rw [HR.out, ← hcn.out]; simp)
   have HR2 : Hid (zR P Q cs 0 ks = r) := aa (by rw [← hr.out, ig.out]; rfl)
   clear HR
   have zc := kC.out _ aB
   go_wp2
   clear zc
   go_loopw [52] (fun i wr => ∃ j : Nat, j ≤ kn ∧ i = .int .i64 j ∧ Hid (zR P Q cs j (ks.drop j) = r) ∧ Hid (Below w0.heap.size w0 wr)) (fun i _ => kn - (intOf i).toNat)
   case atStart => exact ⟨0, by omega, rfl, HR2, aB⟩
   case round =>
    obtain ⟨j, hj, rfl, Jr, lu⟩ := hrel
    by_cases qO : j < kn
    ·
     have hjl : j < ks.length := by rw [hkn.out]; exact qO
     obtain ⟨b, o, hA, hi⟩ := (rP.out _ lu).out j hjl
     cases hA
     have hst := BI (P := P) (Q := Q) (cs := cs) hjl
     obtain ⟨y, hy⟩ : ∃ x, ks.getD j 0 = x := ⟨_, rfl⟩
     obtain ⟨K, Jj⟩ : ∃ x, vF P Q cs ((j : Int) + 1) cs.length = x := ⟨_, rfl⟩
     rw [hy] at hi hst
     rw [Jj] at hst
     have Qg := aa Jj
     have dw : IntKind.i64.wrap ((j : Int) + 1) = (j : Int) + 1 := IntWalk.i64_in _ (by omega)
     have Ux : wrap64 ((j : Int) + 1) = (j : Int) + 1 := IntWalk.wrap64_in _ (by omega)
     clear hy Jj
     cases hyk : (y == K) with
     | true =>
      have Si : Hid (zR P Q cs (j + 1) (ks.drop (j + 1)) = r) := aa (by rw [← Jr.out, hst, hyk]; rfl)
      have Rz : (y != K) = false := by simpa using hyk
      clear hst Jr hjl hyk
      have zc := kC.out _ lu
      go_wp2_with fail
      clear zc
      refine oz kC lu (xQ P Q G bC oC cs k cc Km ((j : Int) + 1) K eu hcn ig (by omega) (by omega) Qg _ (kV.out _ lu) (oM.out _ lu)) fun w3 ek zc => ?_
      go_wp2
      go_roundw
      case rel => exact ⟨j + 1, by omega, by go_num, Si, ek⟩
      case measure => simp [intOf]; omega
     | false =>
      obtain rfl : r = false := by rw [← Jr.out, hst, hyk]; rfl
      have Rz : (y != K) = true := by simpa using hyk
      clear hst Jr hjl hyk
      have zc := kC.out _ lu
      go_wp2_with fail
      clear zc
      refine oz kC lu (xQ P Q G bC oC cs k cc Km ((j : Int) + 1) K eu hcn ig (by omega) (by omega) Qg _ (kV.out _ lu) (oM.out _ lu)) fun w3 ek zc => ?_
      go_wp2
      go_ret
      exact ⟨rfl, zV bO ek⟩
    ·
     obtain rfl : j = kn := by omega
     obtain rfl : r = true := by rw [← Jr.out, ← hkn.out, List.drop_length]; rfl
     clear Jr
     have zc := kC.out _ lu
     go_wp2
     go_ret
     exact ⟨rfl, zV bO lu⟩
theorem lV (P Q G need : Int) (Cs : Option Addr) (cs : List Int) (cn cc : Nat) (Ks : Option Addr) (ks : List Int) (kn kc : Nat) (hcn : Hid (cs.length = cn)) (hkn : Hid (ks.length = kn)) (r : Bool) (hr : Hid (Ah P Q G need cs ks = r)) (hQ : Q < 9223372036854775808) (w : World) (hv : Hid (Vars w)) (hC : Hid (Sl w Cs cs)) (hK : Hid (Sl w Ks ks)) :
  Calls Tryz.prog 31 #[gv P Q G, o6 need Cs cn cc Ks kn kc] w (Rt w (.bool r)) := by
 have hr1 := hr.out
 unfold Ah at hr1
 rw [hkn.out, hcn.out] at hr1
 cases h1 : au P Q G with
 | false =>
  obtain rfl : r = false := by rw [← hr1, h1]; rfl
  exact JU P Q G need Cs cn cc Ks kn kc (aa h1) hQ w hv
 | true =>
  cases h2 : kM Q need kn with
  | false =>
   obtain rfl : r = false := by rw [← hr1, h1, h2]; rfl
   exact JS P Q G need Cs cn cc Ks kn kc (aa h1) (aa h2) hQ w hv
  | true =>
   by_cases h3 : (cn : Int) = need
   ·
    obtain ⟨n1, n2, n3, n4, n5⟩ := gy h2
    have hpos : 0 < cn := by omega
    obtain ⟨bC, oC, rfl⟩ := qo hC.out (by rw [hcn.out]; exact hpos)
    obtain ⟨bK, oK, rfl⟩ := qo hK.out (by rw [hkn.out]; exact n1)
    cases h4 : (cs.getD 0 0 == 1) with
    | true =>
     obtain rfl : r = false := by rw [← hr1, h1, h2, decide_eq_true h3, h4]; rfl
     exact JQ P Q G need bC oC cs cn cc bK oK ks kn kc hcn hkn (aa h1) (aa h2) (aa h3) hpos _ (aa rfl) h4 hQ w hv hC hK
    | false => exact JP P Q G need bC oC cs cn cc bK oK ks kn kc hcn hkn (aa h1) (aa h2) (aa h3) hpos _ (aa rfl) h4 r (aa (by rw [← hr1, h1, h2, decide_eq_true h3, h4]; rfl)) hQ w hv hC hK
   ·
    obtain rfl : r = false := by rw [← hr1, h1, h2, decide_eq_false h3]; rfl
    exact JR P Q G need Cs cn cc Ks kn kc (aa h1) (aa h2) h3 hQ w hv
theorem Bt (q : Int) (A : Option Addr) (xs : List Int) (n c m : Nat) (h2 : q < 2305843009213693952) (hp : Hid (dB q = true)) (hn : Hid (xs.length = n)) (hnc : n ≤ c) (hm : n ≤ m) (hbig : n ≤ 1000) (hs : Hid (xs.all (aQ q) = true)) (w : World) (hv : Hid (Vars w)) (hS : Hid (Sl w A xs)) :
  Calls Tryz.prog 25 #[.int .i64 q, .slice A n c] w (fun e w' => ∃ A c L, e = .returned (.tuple #[.slice A L.length c, .int .i64 0]) ∧ Sl w' A L ∧ Pl q m L ∧ (∀ X, Cg q (pv L X) (pv xs X)) ∧ Below w.heap.size w w') := by
 have HB0 : Hid (Below w.heap.size w w) := aa (Below.refl _ _)
 have d0 : decide ((1000 : Int) < (n : Int)) = false := by simp; omega
 go_in
 go_wp2_with fail
 refine (jb q h2 hp _ hv).mono ?_
 rintro e w2 ⟨rfl, hb2⟩
 have HB2 := aa (ag HB0.out hb2)
 clear hb2
 go_wp2_with fail
 refine (bT q A xs n c true hs hn (aa (by omega)) _ (aa (hS.out.below HB2.out))).mono ?_
 rintro e w3 ⟨rfl, hb3⟩
 have HB3 := aa (ag HB2.out hb3)
 clear hb3
 go_wp2_with fail
 refine (fM q A xs n c m hn hnc hm (by omega) hs _ (aa (hS.out.below HB3.out))).mono ?_
 rintro e w4 ⟨A2, c2, L, rfl, hL, hP, hC, hb4⟩
 have HL := aa hL
 have Sm := aa hP
 have Tn := aa hC
 have yH := ag HB3.out hb4
 clear hb4 hL hP hC
 go_wp2
 go_ret2
 exact ⟨A2, c2, L, rfl, HL.out, Sm.out, Tn.out, yH⟩
theorem aU : (Tryz.prog.info? 32).map (·.size) = some 3 := by kernel_rfl
theorem bD {P : Program} {fn : Func} {p q r s : Tmp} {ty ty2 : TypeId} (h : fn.results = #[.cell p ty, .tmp q, .cell r ty2, .tmp s]) (tmps : Array Value) (w : World) (a b : Addr) (v u x y : Value)
  (hp : tmps.getD p undef = .pointer (some a)) (hq : tmps.getD q undef = u) (hr : tmps.getD r undef = .pointer (some b)) (hs : tmps.getD s undef = y) (hl : (loadVar ty a).run P w = .ok v w) (hl2 : (loadVar ty2 b).run P w = .ok x w) : (results fn tmps).run P w = .ok (.tuple #[v, u, x, y]) w := by
 have hp' : tmps[p]?.getD undef = .pointer (some a) := by simpa using hp
 have hq' : tmps[q]?.getD undef = u := by simpa using hq
 have hr' : tmps[r]?.getD undef = .pointer (some b) := by simpa using hr
 have hs' : tmps[s]?.getD undef = y := by simpa using hs
 simp [results, h, hp', hq', hr', hs', asAddr, hl, hl2]
abbrev zn (e : Int) : Value := .tuple #[o6 0 none 0 0 none 0 0, .slice none 0 0, .agg (aC (aH 32) 0), .int .i64 e]
abbrev oq (need : Int) (v u : Value) : Array Value := #[.int .i64 need, v, u]
abbrev j_ : Array Value := oq 0 (.slice none 0 0) (.slice none 0 0)
theorem dP (need : Int) {v u : Value} (hv : v.oneCell' = true) (hu : u.oneCell' = true) : (oq need v u).all (·.oneCell') = true := by
 simp only [oq, List.all_toArray, List.all_cons, List.all_nil, hv, hu]
 rfl
theorem fP (x : Int) (w : World) : Calls Tryz.prog 19 #[.int .i64 x] w (Rt w (zn x)) := by
 obtain ⟨W, hW⟩ : ∃ W, (w.alloc (.cells j_ 32)).alloc (.cells #[.int .u8 0, .int .u8 0, .int .u8 0, .int .u8 0, .int .u8 0, .int .u8 0, .int .u8 0, .int .u8 0, .int .u8 0, .int .u8 0, .int .u8 0, .int .u8 0, .int .u8 0, .int .u8 0, .int .u8 0, .int .u8 0, .int .u8 0, .int .u8 0, .int .u8 0, .int .u8 0, .int .u8 0, .int .u8 0, .int .u8 0, .int .u8 0, .int .u8 0, .int .u8 0, .int .u8 0, .int .u8 0, .int .u8 0, .int .u8 0, .int .u8 0, .int .u8 0, .int .i64 0] 27) = W := ⟨_, rfl⟩
 have iN : Hid (Below w.heap.size w W) := aa (by rw [← hW]; exact aZ (Below.refl _ _))
 have HT0 : Hid (W.heap[w.heap.size]? = some (.cells j_ 32 (0, 0))) := aa (by rw [← hW]; exact heap_alloc2_old _ _ _)
 have lM : Hid (aG W (w.heap.size + 1) (aH 32) 0) := aa (by rw [← hW, I9]; exact heap_alloc2_new _ _ _)
 have HW := aa hW
 clear hW
 go_in
 go_upto_region 1 with (fail)
 rw [HW.out]
 clear HW
 have HR1 : Hid (aG (W.setRow w.heap.size j_) (w.heap.size + 1) (aH 32) 0) := aa ((setRow_other _ _ _ _ (by omega)).trans lM.out)
 have HB1 := aa (ak (cs := j_) iN.out (Nat.le_refl _))
 go_wp2_with (first
  | ((with_reducible show wpList _ _ _ (⟨some 7, _, _, _, _, _⟩ :: _) _ _); refine bS rfl 27 _ rfl _ rq ?_)
  | ((with_reducible show wpList _ _ _ (⟨none, Op.store _ (Operand.tmp 2) _, _, _, _, _⟩ :: _) _ _); refine wpList_store_row rfl 32 _ _ rfl w.heap.size j_ rfl rfl _ _ HT0.out aU rfl (dP 0 rfl rfl) ?_)
  | ((with_reducible show wpList _ _ _ (⟨none, Op.store _ (Operand.tmp 4) _, _, _, _, _⟩ :: _) _ _); refine wpList_store_row rfl 27 _ _ rfl (w.heap.size + 1) (aC (aH 32) 0) rfl rfl _ _ HR1.out (aj rfl) rfl (aF _ _) ?_))
 have HRR : Hid (aG ((W.setRow w.heap.size j_).setRow (w.heap.size + 1) (aC (aH 32) 0)) (w.heap.size + 1) (aH 32) 0) := aa HR1.out.setRow
 have NZ : Hid (((W.setRow w.heap.size j_).setRow (w.heap.size + 1) (aC (aH 32) 0)).heap[w.heap.size]? = some (.cells j_ 32 (0, 0))) := aa ((setRow_other _ _ _ _ (by omega)).trans (setRow_heap _ _ _ _ _ _ HT0.out))
 have og := ak (cs := aC (aH 32) 0) HB1.out (Nat.le_succ _)
 exact bodyPost_ret (v := zn x) (bD (p := 2) (q := 3) (r := 4) (s := 5) (ty := 32) (ty2 := 27) rfl _ _ ⟨w.heap.size, 0, none⟩ ⟨w.heap.size + 1, 0, none⟩ _ _ _ _ rfl rfl rfl rfl (run_loadVar_row _ _ _ _ _ _ _ NZ.out Tryz.underlying32 rfl aU) (run_loadVar_row _ _ _ _ _ _ _ HRR.out Tryz.underlying27 rfl (aj rfl))) rfl ⟨rfl, og⟩
theorem Cq {j n : Nat} (h : j < n) (h8 : n ≤ 8) : IntKind.i64.wrap ((j : Int) + 1 - 1) = (j : Int) ∧ IntKind.i64.wrap (j : Int) = (j : Int) ∧ IntKind.i64.wrap ((j : Int) + 1 + 1) = (j : Int) + 1 + 1 ∧ wrap64 ((j : Int) + 1 - 1) = (j : Int) ∧ wrap64 ((j : Int) + 1 + 1) = (j : Int) + 1 + 1 :=
 ⟨by rw [Int.add_sub_cancel]; exact IntWalk.i64_in _ (by omega), IntWalk.i64_in _ (by omega), IntWalk.i64_in _ (by omega), by rw [Int.add_sub_cancel]; exact IntWalk.wrap64_in _ (by omega), IntWalk.wrap64_in _ (by omega)⟩
end Go.Proofs.YticegghameafgaaGreatDoor
namespace Go.Proofs.YticegghameafgaaGreatDoor
open Go.RowKit jk Go.Maps
theorem tF : Keyed Tryz.prog 3 := int_keyed Tryz.underlying3
theorem JH (w : World) : (zeroValue 4).run Tryz.prog w = .ok (.bool false) w := by kernel_rfl
theorem jQ {a b : Int} (h : a ≠ b) : (Lit.int .i64 a) ≠ Lit.int .i64 b := fun e => h (by injection e)
theorem iY {P : Program} {e : TypeId} (he : P.underlying e = some .bool) {v : Value} {z : DataW Unit × List MemPlace} (h : plainElem P e v = some z) : ∃ x, v = .bool x ∧ z.1 = .lit (.bool x) := by
 unfold plainElem at h
 rw [he] at h
 cases v <;> simp at h
 exact ⟨_, rfl, by rw [← h]⟩
theorem tC {a b : Bool} (h : (DataW.lit (.bool a) : DataW Unit) = .lit (.bool b)) : a = b := by
 injection h with h1
 injection h1
def Mj (xs : List Int) (wr : World) (B k : Nat) : Prop :=
 ∃ D : DataW Unit, wr.ownsMap Tryz.prog 3 (plainElem Tryz.prog 4) B k D ∧ (∀ a : Int, has D (.int .i64 a) = true → D.atKey (.int .i64 a) (.lit (.bool false)) = .lit (.bool true) ∧ ∃ j, j < k ∧ a = xs.getD j 0) ∧ (∀ j, j < k → has D (.int .i64 (xs.getD j 0)) = true)
theorem Ae (xs : List Int) (w : World) : Mj xs (w.alloc (.map #[] 0)) w.heap.size 0 :=
 ⟨.map [], World.ownsMap_made _ _ _ _, fun a h => by simp [has] at h, fun j h => absurd h (by omega)⟩
theorem DY {xs : List Int} {w' : World} {B k : Nat} {x : Int} {D : DataW Unit} (hx : xs.getD k 0 = x) (ht : Tidy D)
  (h1 : w'.ownsMap Tryz.prog 3 (plainElem Tryz.prog 4) B (k + 1) (D.put (.int .i64 x) (.lit (.bool true))))
  (hA : ∀ a : Int, has D (.int .i64 a) = true → D.atKey (.int .i64 a) (.lit (.bool false)) = .lit (.bool true) ∧ ∃ j, j < k ∧ a = xs.getD j 0) (hB : ∀ j, j < k → has D (.int .i64 (xs.getD j 0)) = true) : Mj xs w' B (k + 1) := by
 refine ⟨_, h1, fun a ha => ?_, fun j hj => ?_⟩
 ·
  by_cases hax : a = x
  ·
   subst hax
   exact ⟨atKey_put_same ht.isMap (by simp [WideAt.IsKeyLit]) _ _, k, by omega, hx.symm⟩
  ·
   rw [has_put_other (jQ hax)] at ha
   rw [atKey_put_other (jQ hax)]
   obtain ⟨e1, j, hj, e2⟩ := hA a ha
   exact ⟨e1, j, by omega, e2⟩
 ·
  by_cases Nu : xs.getD j 0 = x
  · rw [Nu]; exact has_put_same ht.isMap (by simp [WideAt.IsKeyLit]) _
  ·
   rw [has_put_other (jQ Nu)]
   have hjk : j ≠ k := fun e => Nu (by rw [e]; exact hx)
   exact hB j (by omega)
def KI (xs : List Int) (k : Nat) : Prop := ∀ i j, i < k → j < i → xs.getD i 0 ≠ xs.getD j 0
theorem oZ (A : Option Addr) (xs : List Int) (n c : Nat) (r : Bool) (hr : Hid (r = false ↔ bI xs)) (hn : Hid (xs.length = n)) (hbig : n < 1000000) (hw : Hid (∀ k, k < n → -9223372036854775808 ≤ xs.getD k 0 ∧ xs.getD k 0 < 9223372036854775808)) (w : World) (hs : Hid (Sl w A xs)) :
  Calls Tryz.prog 35 #[.slice A n c] w (Rt w (.bool r)) := by
 have hmm := fun t w => run_makeMap (P := Tryz.prog) t w
 have JA := aa (Ae xs w)
 have Qz : Hid (Below w.heap.size w (w.alloc (.map #[] 0))) := aa (af _ _)
 obtain ⟨B, LZ⟩ : ∃ B, w.heap.size = B := ⟨_, rfl⟩
 obtain ⟨W, LM⟩ : ∃ W, w.alloc (.map #[] 0) = W := ⟨_, rfl⟩
 rw [LZ, LM] at JA Qz
 have MQ := aa LZ
 have RL := aa LM
 have uG : Hid (B ≤ W.heap.size) := aa (by rw [← LZ, ← LM]; simp)
 clear LZ LM
 go_in
 go_wp2
 rw [RL.out, MQ.out]
 go_loopw [9] (fun i wr => ∃ k : Nat, k ≤ n ∧ i = .int .i64 k ∧ Hid (KI xs k) ∧ Hid (Mj xs wr B k) ∧ Hid (Below B w wr)) (fun i _ => n - (intOf i).toNat)
 case atStart => exact ⟨0, by omega, rfl, aa (fun i j h _ => absurd h (by omega)), JA, Qz⟩
 case round =>
  obtain ⟨k, hk, rfl, Jw, SC, aB⟩ := hrel
  by_cases hlt : k < n
  ·
   have hkl : k < xs.length := by rw [hn.out]; exact hlt
   obtain ⟨b, o, hA, hi0⟩ := (hs.out.below (show Below w.heap.size w wr by rw [MQ.out]; exact aB.out)) k hkl
   subst hA
   obtain ⟨w1, w2⟩ := hw.out k hlt
   obtain ⟨x, hx⟩ : ∃ x, xs.getD k 0 = x := ⟨_, rfl⟩
   rw [hx] at hi0 w1 w2
   obtain ⟨D, hown, hA, hB⟩ := SC.out
   have HX := aa hx
   have MS := aa hA
   have FN := aa hB
   have HT := aa (hown.tidy tF)
   have wf1 : (Lit.int .i64 x).wf = true := WalkArith.wf_i64 (by omega)
   have hkey : keyOf Tryz.prog 3 (.int .i64 x) = some (.int .i64 x) := keyOf_int_mk Tryz.underlying3 wf1
   obtain ⟨v9, TS, hrun, Dk⟩ := hown.lookup tF Tryz.underlying93 (JH wr) (plainElem_bool Tryz.underlying4 false) hkey
   obtain ⟨bv, rfl, hbv⟩ := iY Tryz.underlying4 Dk
   clear Dk hA hB hx
   cases hh : has D (.int .i64 x) with
   | true =>
    obtain ⟨e1, j, hj, e2⟩ := MS.out x hh
    have hbt : bv = true := by
     rw [e1] at hbv
     exact (tC hbv).symm
    subst hbt
    obtain rfl : r = true := by
     cases hrr : r with
     | true => rfl
     | false => exact absurd (HX.out.trans e2) ((hr.out.1 hrr) k j hkl hj)
    clear e1 e2 hbv hh
    go_wp2
    go_ret
    exact ⟨rfl, by rw [MQ.out]; exact aB.out⟩
   | false =>
    have hbf : bv = false := by
     rw [atKey_of_not_has hh] at hbv
     exact (tC hbv).symm
    subst hbf
    have Jy : Hid (KI xs (k + 1)) := aa (fun i j hi hj => by
     by_cases e : i = k
     ·
      subst e
      intro h
      have := FN.out j hj
      rw [← h, HX.out, hh] at this
      cases this
     · exact Jw.out i j (by omega) hj)
    clear hbv hh
    go_wp2_with (at_mapUpdate; refine wpList_mapUpdate_own _ rfl _ _ _ 93 rfl 3 4 tF Tryz.underlying93 _ B k _ rfl hown (by unfold maxLen; omega) _ _ _ rfl rfl hkey _ [] (plainElem_bool Tryz.underlying4 true) ?_; intro DI hown1 hgrow1)
    have FC : Hid (Mj xs DI B (k + 1)) := aa (DY HX.out HT.out hown1 MS.out FN.out)
    have Q7 := hown.lt
    have FO : Hid (Below B w DI) := aa (aB.out.grown hgrow1 (by omega) (fun j hj => by cases hj; exact Nat.le_refl _))
    clear hown hown1 hgrow1
    go_roundw
    case rel => exact ⟨k + 1, by omega, by go_num, Jy, FC, FO⟩
    case measure => simp [intOf]; omega
  ·
   obtain rfl : k = n := by omega
   obtain rfl : r = false := hr.out.2 (fun i j hi hj => Jw.out i j (by rw [← hn.out]; exact hi) hj)
   go_wp2
   go_ret
   exact ⟨rfl, by rw [MQ.out]; exact aB.out⟩
theorem fO {P Q G : Int} (h : au P Q G = true) : aV P Q G = true := by
 obtain ⟨h1, h2, h3, h4⟩ := aD h
 simp [au] at h
 simp [aV]
 omega
abbrev JV (ix v : Int) : Value := .agg #[.int .i64 ix, .int .i64 v]
abbrev kg (ix v : Int) : Obj := .cells #[.int .i64 ix, .int .i64 v] 39
def iE (n : Nat) (i : Int) : Bool := decide (1 ≤ i) && decide (i ≤ n)
def gQ (P Q G : Int) (ks : List Int) (ix v : Int) : Bool := iE ks.length ix && (aQ Q v && (pw G (v % Q) P == ks.getD (ix - 1).toNat 0))
theorem nC {n : Nat} {i : Int} (h : iE n i = true) : ∃ m : Nat, m < n ∧ i = (m : Int) + 1 := by
 unfold iE at h
 simp only [Bool.and_eq_true, decide_eq_true_eq] at h
 exact ⟨(i - 1).toNat, by omega, by omega⟩
theorem dL (need : Int) (Cs : Option Addr) (cn cc : Nat) (Ks : Option Addr) (kn kc : Nat) (i : Int) (r : Bool) (hr : Hid (iE kn i = r)) (w : World) :
  Calls Tryz.prog 32 #[o6 need Cs cn cc Ks kn kc, .int .i64 i] w (Rt w (.bool r)) := by
 have HX := af w (r_ need Cs cn cc Ks kn kc)
 have hc : (w.alloc (r_ need Cs cn cc Ks kn kc)).cell? ⟨w.heap.size, 0, none⟩ = some (.int .i64 need) ∧ (w.alloc (r_ need Cs cn cc Ks kn kc)).cell? ⟨w.heap.size, 1, none⟩ = some (.slice Cs cn cc) ∧ (w.alloc (r_ need Cs cn cc Ks kn kc)).cell? ⟨w.heap.size, 2, none⟩ = some (.slice Ks kn kc) := ⟨ai (heap_alloc_new _ _) 0, ai (heap_alloc_new _ _) 1, ai (heap_alloc_new _ _) 2⟩
 obtain ⟨c0, c1, c2⟩ := hc
 have hr1 := hr.out
 unfold iE at hr1
 by_cases h0 : (1 : Int) ≤ i
 ·
  have d0 : decide ((1 : Int) ≤ i) = true := by simp; omega
  by_cases h1 : i ≤ (kn : Int)
  ·
   have d1 : decide (i ≤ (kn : Int)) = true := by simp; omega
   obtain rfl : r = true := by rw [← hr1]; simp; omega
   go_in
   go_wp2
   go_ret
   exact ⟨rfl, HX⟩
  ·
   have d1 : decide (i ≤ (kn : Int)) = false := by simp; omega
   obtain rfl : r = false := by rw [← hr1]; simp; omega
   go_in
   go_wp2
   go_ret
   exact ⟨rfl, HX⟩
 ·
  have d0 : decide ((1 : Int) ≤ i) = false := by simp; omega
  obtain rfl : r = false := by rw [← hr1]; simp; omega
  go_in
  go_wp2
  go_ret
  exact ⟨rfl, HX⟩
theorem gm (P Q G x : Int) (r : Bool) (hr : Hid (aQ Q x = r)) (w : World) :
  Calls Tryz.prog 33 #[gv P Q G, .int .i64 x] w (Rt w (.bool r)) := by
 have HX := af w (aM P Q G)
 have hc : (w.alloc (aM P Q G)).cell? ⟨w.heap.size, 0, none⟩ = some (.int .i64 P) ∧ (w.alloc (aM P Q G)).cell? ⟨w.heap.size, 1, none⟩ = some (.int .i64 Q) ∧ (w.alloc (aM P Q G)).cell? ⟨w.heap.size, 2, none⟩ = some (.int .i64 G) := ⟨ai (heap_alloc_new _ _) 0, ai (heap_alloc_new _ _) 1, ai (heap_alloc_new _ _) 2⟩
 obtain ⟨c0, c1, c2⟩ := hc
 have hr1 := hr.out
 unfold aQ at hr1
 by_cases h0 : (0 : Int) ≤ x
 ·
  have d0 : decide ((0 : Int) ≤ x) = true := by simp; omega
  by_cases h1 : x < Q
  ·
   have d1 : decide (x < Q) = true := by simp; omega
   obtain rfl : r = true := by rw [← hr1]; simp; omega
   go_in
   go_wp2
   go_ret
   exact ⟨rfl, HX⟩
  ·
   have d1 : decide (x < Q) = false := by simp; omega
   obtain rfl : r = false := by rw [← hr1]; simp; omega
   go_in
   go_wp2
   go_ret
   exact ⟨rfl, HX⟩
 ·
  have d0 : decide ((0 : Int) ≤ x) = false := by simp; omega
  obtain rfl : r = false := by rw [← hr1]; simp; omega
  go_in
  go_wp2
  go_ret
  exact ⟨rfl, HX⟩
theorem right_1 (P Q G need : Int) (Cs : Option Addr) (cn cc : Nat) (Ks : Option Addr) (kn kc : Nat) (ix v : Int) (hm : Hid (iE kn ix = false)) (w : World) :
  Calls Tryz.prog 34 #[gv P Q G, o6 need Cs cn cc Ks kn kc, JV ix v] w (Rt w (.bool false)) := by
 obtain ⟨w0, HW, bO, kC⟩ := Lv (aM P Q G) wM (r_ need Cs cn cc Ks kn kc) wM (kg ix v) Dm w
 have aN := kr w0
 go_in
 go_wp2_with fail
 rw [HW.out]
 have zc := kC.out _ aN
 go_wp2_with fail
 clear zc
 refine oz kC aN (dL need Cs cn cc Ks kn kc ix false hm _) fun w1 bW zc => ?_
 go_wp2
 go_ret
 exact ⟨rfl, zV bO bW⟩
theorem Eg (P Q G need : Int) (Cs : Option Addr) (cn cc : Nat) (Ks : Option Addr) (kn kc : Nat) (ix v : Int) (hm : Hid (iE kn ix = true)) (hsc : Hid (aQ Q v = false)) (w : World) :
  Calls Tryz.prog 34 #[gv P Q G, o6 need Cs cn cc Ks kn kc, JV ix v] w (Rt w (.bool false)) := by
 obtain ⟨w0, HW, bO, kC⟩ := Lv (aM P Q G) wM (r_ need Cs cn cc Ks kn kc) wM (kg ix v) Dm w
 have aN := kr w0
 go_in
 go_wp2_with fail
 rw [HW.out]
 have zc := kC.out _ aN
 go_wp2_with fail
 clear zc
 refine oz kC aN (dL need Cs cn cc Ks kn kc ix true hm _) fun w1 bW zc => ?_
 go_wp2_with fail
 clear zc
 refine oz kC bW (gm P Q G v false hsc _) fun w2 aL zc => ?_
 go_wp2
 go_ret
 exact ⟨rfl, zV bO aL⟩
theorem Ef (P Q G need : Int) (Cs : Option Addr) (cn cc : Nat) (bK oK : Nat) (ks : List Int) (kn kc : Nat) (m : Nat) (hmk : m < kn) (v : Int) (hkn : Hid (ks.length = kn)) (hkb : kn ≤ 8) (hm : Hid (iE kn ((m : Int) + 1) = true)) (hsc : Hid (aQ Q v = true)) (eu : Hid (au P Q G = true)) (a y : Int) (ha : Hid (pw G (v % Q) P = a)) (hy : Hid (ks.getD m 0 = y)) (b : Bool) (hb : (a == y) = b) (w : World) (hv : Hid (Vars w)) (hK : Hid (Sl w (some ⟨bK, oK, none⟩) ks)) :
  Calls Tryz.prog 34 #[gv P Q G, o6 need Cs cn cc (some ⟨bK, oK, none⟩) kn kc, JV ((m : Int) + 1) v] w (Rt w (.bool b)) := by
 obtain ⟨p1, p2, p3, p4⟩ := aD eu.out
 have v0 := kE hsc.out
 have v1 := kF hsc.out
 obtain ⟨dj, UD, UC, UB, UA⟩ := Cq hmk hkb
 have hml : m < ks.length := by rw [hkn.out]; exact hmk
 have ck : Hid (kU P Q G [G] = 0) := aa (mE eu.out (by simp [fO eu.out]))
 obtain ⟨w0, HW, bO, kC⟩ := Lv (aM P Q G) wM (r_ need Cs cn cc (some ⟨bK, oK, none⟩) kn kc) wM (kg ((m : Int) + 1) v) Dm w
 have kV := mkV bO hv
 have rP := mkS bO hK
 have aN := kr w0
 clear hv hK
 have kI := aa (show ∀ u : World, Hid (Below w0.heap.size w0 u) → u.cell? ⟨bK, oK + m, none⟩ = some (.int .i64 y) from fun u h => by
  obtain ⟨b9, o9, hA, hi⟩ := (rP.out u h).out m hml
  cases hA
  rwa [hy.out] at hi)
 go_in
 go_wp2_with fail
 rw [HW.out]
 have zc := kC.out _ aN
 have I_ := kI.out _ aN
 go_wp2_with fail
 clear zc I_
 refine L9 aN (dL need Cs cn cc (some ⟨bK, oK, none⟩) kn kc ((m : Int) + 1) true hm _) fun w1 bW => ?_
 have zc := kC.out _ bW
 have I_ := kI.out _ bW
 go_wp2_with fail
 clear zc I_
 refine L9 bW (gm P Q G v true hsc _) fun w2 aL => ?_
 have zc := kC.out _ aL
 have I_ := kI.out _ aL
 go_wp2_with fail
 clear zc I_
 refine L9 aL (mq P Q G G v a ck ha (by omega) (by omega) _ (kV.out _ aL)) fun w3 ek => ?_
 have zc := kC.out _ ek
 have I_ := kI.out _ ek
 have eP := ag bO.out ek.out
 go_wp2
 go_ret
 exact ⟨by first | rfl | rw [hb] | simp [hb], eP⟩
theorem kH (P Q G need : Int) (Cs : Option Addr) (cn cc : Nat) (Ks : Option Addr) (ks : List Int) (kn kc : Nat) (ix v : Int) (hkn : Hid (ks.length = kn)) (hkb : kn ≤ 8) (eu : Hid (au P Q G = true)) (r : Bool) (hr : Hid (gQ P Q G ks ix v = r)) (w : World) (hv : Hid (Vars w)) (hK : Hid (Sl w Ks ks)) :
  Calls Tryz.prog 34 #[gv P Q G, o6 need Cs cn cc Ks kn kc, JV ix v] w (Rt w (.bool r)) := by
 have hr1 := hr.out
 unfold gQ at hr1
 rw [hkn.out] at hr1
 cases h1 : iE kn ix with
 | false =>
  obtain rfl : r = false := by rw [← hr1, h1]; rfl
  exact right_1 P Q G need Cs cn cc Ks kn kc ix v (aa h1) w
 | true =>
  cases h2 : aQ Q v with
  | false =>
   obtain rfl : r = false := by rw [← hr1, h1, h2]; rfl
   exact Eg P Q G need Cs cn cc Ks kn kc ix v (aa h1) (aa h2) w
  | true =>
   obtain ⟨m, hmk, rfl⟩ := nC h1
   obtain ⟨bK, oK, rfl⟩ := qo hK.out (by rw [hkn.out]; omega)
   exact Ef P Q G need Cs cn cc bK oK ks kn kc m hmk v hkn hkb (aa h1) (aa h2) eu _ _ (aa rfl) (aa rfl) r (by rw [← hr1, h1, h2, show ((m : Int) + 1 - 1).toNat = m by omega]; rfl) w hv hK
end Go.Proofs.YticegghameafgaaGreatDoor
namespace Go.Proofs.YticegghameafgaaGreatDoor
open Go.RowKit jk
structure eH (w0 : World) (hb : Nat) (box : Obj) (vX : Value) (nX : Nat) (xs : List Int) (vY : Value) (nY : Nat) (ys : List Int) (u : World) : Prop where
 b : Below w0.heap.size w0 u
 x : u.heap[hb]? = some box
 ox : u.ownsRow w0.heap.size 3 1 vX nX (xs.map (Value.int .i64))
 oy : u.ownsRow w0.heap.size 3 1 vY nY (ys.map (Value.int .i64))
 nxy : ∀ j, vX.ownBlock = some j → vY.ownBlock ≠ some j
 nx : vX.ownBlock ≠ some hb
 ny : vY.ownBlock ≠ some hb
theorem dW (v : Value) : v.ownBlock = none ∨ v.ownBlock ≠ none := by
 cases h : v.ownBlock with
 | none => exact .inl rfl
 | some j => exact .inr (by simp)
theorem fE {u : World} {g : Nat} {o : Obj} (h : u.heap[g]? = some o) : g < u.heap.size := (Array.getElem?_eq_some_iff.1 h).1
section
variable {w0 : World} {hb : Nat} {box : Obj} {vX vY : Value} {nX nY : Nat} {xs ys : List Int} {u u2 : World}
theorem eH.below (h : eH w0 hb box vX nX xs vY nY ys u) (hq : Below u.heap.size u u2) : eH w0 hb box vX nX xs vY nY ys u2 :=
 ⟨ag h.b hq, (hq.block hb (fE h.x)).trans h.x, h.ox.kept (aA hq none) (dW _), h.oy.kept (aA hq none) (dW _), h.nxy, h.nx, h.ny⟩
theorem own_ne {g : Nat} {v v' : Value} (h : ∀ j, v.ownBlock = some j → v'.ownBlock ≠ some j) : v'.ownBlock = none ∨ v'.ownBlock ≠ v.ownBlock := by
 cases e : v'.ownBlock with
 | none => exact .inl rfl
 | some j => exact .inr (fun e2 => h j e2.symm e)
theorem eH.appX (h : eH w0 hb box vX nX xs vY nY ys u) {a : Int} {g cap : Nat} (ho : u2.ownsRow w0.heap.size 3 1 (.slice (some ⟨g, 0, none⟩) (nX + 1) cap) (nX + 1) (xs.map (Value.int .i64) ++ [.int .i64 a])) (hg : u.grownBy u2 vX.ownBlock) (hgg : vX.ownBlock = some g ∨ g = u.heap.size) :
  eH w0 hb box (.slice (some ⟨g, 0, none⟩) (nX + 1) cap) (nX + 1) (xs ++ [a]) vY nY ys u2 := by
 have hl := fE h.x
 refine ⟨h.b.grown hg h.b.size (fun j hj => (h.ox.lt j hj).1), (hg.block hb hl (fun e => h.nx e.symm)).trans h.x, by simpa using ho, h.oy.kept hg (own_ne (g := 0) h.nxy), fun j hj => ?_, fun e => ?_, h.ny⟩
 ·
  obtain rfl : g = j := by simpa [Value.ownBlock] using hj
  rcases hgg with e | e
  · exact h.nxy _ e
  ·
   intro e2
   have := (h.oy.lt _ e2).2
   omega
 ·
  obtain rfl : g = hb := by simpa [Value.ownBlock] using e
  rcases hgg with e2 | e2
  · exact h.nx e2
  · omega
theorem eH.swap (h : eH w0 hb box vX nX xs vY nY ys u) : eH w0 hb box vY nY ys vX nX xs u :=
 ⟨h.b, h.x, h.oy, h.ox, fun j h1 h2 => h.nxy j h2 h1, h.ny, h.nx⟩
theorem eH.appY (h : eH w0 hb box vX nX xs vY nY ys u) {a : Int} {g cap : Nat} (ho : u2.ownsRow w0.heap.size 3 1 (.slice (some ⟨g, 0, none⟩) (nY + 1) cap) (nY + 1) (ys.map (Value.int .i64) ++ [.int .i64 a])) (hg : u.grownBy u2 vY.ownBlock) (hgg : vY.ownBlock = some g ∨ g = u.heap.size) :
  eH w0 hb box vX nX xs (.slice (some ⟨g, 0, none⟩) (nY + 1) cap) (nY + 1) (ys ++ [a]) u2 := (h.swap.appX ho hg hgg).swap
structure aR (u : World) (g : Nat) (a : Int) (vX vY : Value) : Prop where
 c : u.heap[g]? = some (.cells #[.int .i64 a] 3)
 nx : vX.ownBlock ≠ some g
 ny : vY.ownBlock ≠ some g
theorem aR.new (h : eH w0 hb box vX nX xs vY nY ys u) (a : Int) : aR (u.alloc (.cells #[.int .i64 a] 3)) u.heap.size a vX vY :=
 ⟨heap_alloc_new _ _, fun e => by have := (h.ox.lt _ e).2; omega, fun e => by have := (h.oy.lt _ e).2; omega⟩
theorem aR.below {g : Nat} {a : Int} (h : aR u g a vX vY) (hq : Below u.heap.size u u2) : aR u2 g a vX vY :=
 ⟨(hq.block g (fE h.c)).trans h.c, h.nx, h.ny⟩
theorem aR.appX {g : Nat} {a : Int} (h : aR u g a vX vY) {gX n cap : Nat} (hg : u.grownBy u2 vX.ownBlock) (hgg : vX.ownBlock = some gX ∨ gX = u.heap.size) : aR u2 g a (.slice (some ⟨gX, 0, none⟩) n cap) vY := by
 have hl := fE h.c
 refine ⟨(hg.block g hl (fun e => h.nx e.symm)).trans h.c, fun e => ?_, h.ny⟩
 obtain rfl : gX = g := by simpa [Value.ownBlock] using e
 rcases hgg with e2 | e2
 · exact h.nx e2
 · omega
theorem aR.news {g : Nat} {a : Int} (h : aR u g a vX vY) : ∀ j v, [Value.int .i64 a][j]? = some v → u.cell? ((⟨g, 0, none⟩ : Addr).add j) = some v :=
 World.news_of_block (cs := #[.int .i64 a]) (t := 3) (fr := (0, 0)) h.c
end
def Sh (w : World) (A : Option Addr) (l : List (Int × Int)) : Prop := ∀ k, k < l.length → ∃ b o, A = some ⟨b, o, none⟩ ∧ w.cell? ⟨b, o + k * 2, none⟩ = some (.int .i64 (l.getD k (0, 0)).1) ∧ w.cell? ⟨b, o + k * 2 + 1, none⟩ = some (.int .i64 (l.getD k (0, 0)).2)
theorem Sh.below {w w' : World} {A : Option Addr} {l : List (Int × Int)} (h : Sh w A l) (hb : Below w.heap.size w w') : Sh w' A l := fun k hk => by
 obtain ⟨b, o, h1, h2, h3⟩ := h k hk
 exact ⟨b, o, h1, cell_below h2 hb, cell_below h3 hb⟩
def GJ (p : Int × Int) : Prop := -9223372036854775808 ≤ p.1 ∧ p.1 < 9223372036854775808
abbrev ixs (l : List (Int × Int)) : List Int := l.map (·.1)
abbrev dA (l : List (Int × Int)) : List Int := l.map (·.2)
theorem bZ {l : List (Int × Int)} {k : Nat} (h : k < l.length) : (ixs l).getD k 0 = (l.getD k (0, 0)).1 := by
 rw [List.getD_eq_getElem?_getD, List.getElem?_map, List.getElem?_eq_getElem h, List.getD_eq_getElem?_getD, List.getElem?_eq_getElem h]; rfl
theorem lU {l : List (Int × Int)} {k : Nat} (h : k < l.length) : (dA l).getD k 0 = (l.getD k (0, 0)).2 := by
 rw [List.getD_eq_getElem?_getD, List.getElem?_map, List.getElem?_eq_getElem h, List.getD_eq_getElem?_getD, List.getElem?_eq_getElem h]; rfl
theorem Am {l : List (Int × Int)} {k : Nat} (h : k < l.length) : ixs (l.take (k + 1)) = ixs (l.take k) ++ [(l.getD k (0, 0)).1] := by
 rw [ixs, List.take_add_one, List.map_append, List.getElem?_eq_getElem h, List.getD_eq_getElem?_getD, List.getElem?_eq_getElem h]; rfl
theorem Al {l : List (Int × Int)} {k : Nat} (h : k < l.length) : dA (l.take (k + 1)) = dA (l.take k) ++ [(l.getD k (0, 0)).2] := by
 rw [dA, List.take_add_one, List.map_append, List.getElem?_eq_getElem h, List.getD_eq_getElem?_getD, List.getElem?_eq_getElem h]; rfl
theorem p9 {f : Int × Int → Bool} {l : List (Int × Int)} {k : Nat} (hk : k < l.length) (h : f (l.getD k (0, 0)) = true) : (l.drop k).all f = (l.drop (k + 1)).all f := by
 rw [List.drop_eq_getElem_cons hk, List.all_cons]
 rw [List.getD_eq_getElem?_getD, List.getElem?_eq_getElem hk] at h
 simp at h
 rw [h, Bool.true_and]
theorem nU {f : Int × Int → Bool} {l : List (Int × Int)} {k : Nat} (hk : k < l.length) (h : f (l.getD k (0, 0)) = false) : (l.drop k).all f = false := by
 rw [List.drop_eq_getElem_cons hk, List.all_cons]
 rw [List.getD_eq_getElem?_getD, List.getElem?_eq_getElem hk] at h
 simp at h
 rw [h, Bool.false_and]
noncomputable def zP (Q : Int) (xs ys : List Int) : Nat → Int
 | 0 => 0
 | m + 1 => (zP Q xs ys m + rM Q xs 0 m * ys.getD m 0 % Q) % Q
theorem bX {P Q G : Int} (h : au P Q G = true) : dB Q = true := by
 simp [au] at h
 exact h.2.2.2.2.1
theorem jE {w : World} {B : Nat} {v : Value} {n : Nat} {xs : List Int} (h : w.ownsRow B 3 1 v n (xs.map (Value.int .i64))) (hn : xs.length = n) : ∃ A c, v = .slice A n c ∧ Sl w A xs ∧ n ≤ c := by
 have ho : aT w B v xs := by unfold aT; rw [hn]; exact h
 obtain ⟨A, c, hv, hs, _⟩ := ho.sl
 rw [hn] at hv
 refine ⟨A, c, hv, hs, ?_⟩
 rcases h.2 with ⟨h1, h2⟩ | ⟨g, cap, cur, h1, _, _, h2, _⟩
 · omega
 ·
  rw [hv] at h1
  cases h1
  exact h2
theorem uS {Q : Int} (hQ : 2 ≤ Q) (xs ys : List Int) : ∀ k, 0 ≤ zP Q xs ys k ∧ zP Q xs ys k < Q
 | 0 => ⟨by rw [zP]; omega, by rw [zP]; omega⟩
 | k + 1 => ⟨Int.emod_nonneg _ (by omega), Int.emod_lt_of_pos _ (by omega)⟩
theorem GD {P Q G : Int} {ks : List Int} {l : List (Int × Int)} {j : Nat} (h : l.all (fun p => gQ P Q G ks p.1 p.2) = true) (hj : j < l.length) : aQ Q ((dA l).getD j 0) = true := by
 rw [lU hj, List.getD_eq_getElem?_getD, List.getElem?_eq_getElem hj]
 have := List.all_eq_true.1 h _ (List.getElem_mem hj)
 simp only [gQ, Bool.and_eq_true] at this
 exact this.2.1
theorem DF (a b m v : Int) (hv : Hid ((a + b) % m = v)) (h2 : m < 2305843009213693952) (ha0 : 0 ≤ a) (ha : a < m) (hb0 : 0 ≤ b) (hb : b < m) (w : World) :
  Calls Tryz.prog 38 #[.int .i64 a, .int .i64 b, .int .i64 m] w fun e w' => e = .returned (.tuple #[.int .i64 v, .int .i64 0]) ∧ w = w' := by
 have hc := aa (nR (by omega) h2 ha0 ha hb0 hb)
 have hm : ((m : Int) == 0) = false := by simp; omega
 have hmn : ¬ (m = 0) := by omega
 have d1 : IntKind.i64.wrap (a + b) = a + b := IntWalk.i64_in _ (by omega)
 have e1 : wrap64 (a + b) = a + b := IntWalk.wrap64_in _ (by omega)
 have Kc : (a + b).tmod m = v := iq (by omega) hv.out
 have v0 : 0 ≤ v := by rw [← hv.out]; exact Int.emod_nonneg _ (by omega)
 have v1 : v < m := by rw [← hv.out]; exact Int.emod_lt_of_pos _ (by omega)
 have hwt : IntKind.i64.wrap v = v := IntWalk.i64_in _ (by omega)
 go_in
 go_wp2_with (go_at_call 68; refine (dO _ _ _ _).mono ?_; rintro e w' ⟨rfl, rfl⟩; rw [hc.out])
 go_ret2
 exact ⟨rfl, rfl⟩
theorem jJ {xs : List Int} {m : Nat} (h : bI xs) : bI (xs.take m) := fun i j hi hj => by
 have hi2 : i < m ∧ i < xs.length := by rw [List.length_take] at hi; omega
 have := h i j hi2.2 hj
 rw [List.getD_eq_getElem?_getD, List.getElem?_take_of_lt hi2.1, ← List.getD_eq_getElem?_getD, List.getD_eq_getElem?_getD (l := xs.take m), List.getElem?_take_of_lt (by omega), ← List.getD_eq_getElem?_getD]
 exact this
theorem G_ {P Q G : Int} {ks : List Int} {l : List (Int × Int)} {kn m : Nat} (h : l.all (fun p => gQ P Q G ks p.1 p.2) = true) (hkn : ks.length = kn) (hq : (kn : Int) < Q) : ((ixs l).take m).all (aQ Q) = true := by
 rw [List.all_eq_true]
 intro x hx
 obtain ⟨p, hp, rfl⟩ := List.mem_map.1 (List.mem_of_mem_take hx)
 have := List.all_eq_true.1 h p hp
 simp only [gQ, iE, Bool.and_eq_true, decide_eq_true_eq] at this
 simp [aQ]
 omega
theorem kD {P Q G need : Int} {cs ks : List Int} {cn kn : Nat} (h : Ah P Q G need cs ks = true) (hcn : cs.length = cn) (hkn : ks.length = kn) : Hid (au P Q G = true) ∧ 1 ≤ kn ∧ kn ≤ 8 ∧ (kn : Int) < Q ∧ 1 ≤ need ∧ need ≤ kn ∧ Hid ((cn : Int) = need) := by
 unfold Ah at h
 simp only [Bool.and_eq_true, decide_eq_true_eq] at h
 obtain ⟨n1, n2, n3, n4, n5⟩ := gy h.2.1
 rw [hkn] at n1 n2 n3 n5
 exact ⟨aa h.1, n1, n2, n3, n4, n5, aa (by rw [← hcn]; exact h.2.2.1)⟩
noncomputable def lN (P Q G need : Int) (ks : List Int) (l : List (Int × Int)) : Int := if l.all (fun p => gQ P Q G ks p.1 p.2) = true then (if @decide (bI (ixs l)) (Classical.propDecidable _) = true then (if (l.length : Int) < need then 7 else 0) else 8) else 11
noncomputable def sF (P Q G need : Int) (ks : List Int) (l : List (Int × Int)) : Int := if lN P Q G need ks l = 0 then zP Q ((ixs l).take need.toNat) (dA l) need.toNat else 0
theorem JW (P Q G : Int) (m : Nat) (Cs : Option Addr) (cs : List Int) (cn cc : Nat) (Ks : Option Addr) (ks : List Int) (kn kc : Nat) (hcn : Hid (cs.length = cn)) (hkn : Hid (ks.length = kn)) (A : Option Addr) (l : List (Int × Int)) (n c : Nat) (hn : Hid (l.length = n)) (hnb : n ≤ 100) (hlr : Hid (∀ k, k < n → GJ (l.getD k (0, 0)))) (hr : Hid (Ah P Q G (m : Int) cs ks = true)) (hQ : Q < 9223372036854775808) (w : World) (hv : Hid (Vars w)) (hC : Hid (Sl w Cs cs)) (hK : Hid (Sl w Ks ks)) (hA : Hid (Sh w A l)) :
  Calls Tryz.prog 10 #[gv P Q G, o6 (m : Int) Cs cn cc Ks kn kc, .slice A n c] w (Rt w (.tuple #[.int .i64 (sF P Q G (m : Int) ks l), .int .i64 (lN P Q G (m : Int) ks l)])) := by
 obtain ⟨i0, hi, hz0, hz1, hz2⟩ := info_parts fD
 obtain ⟨eu, n1, n2, n3, n4, n5, n6⟩ := kD hr.out hcn.out hkn.out
 obtain ⟨w0, HW, bO, kC⟩ := st2 (aM P Q G) wM (r_ (m : Int) Cs cn cc Ks kn kc) Gi w
 have kV := mkV bO hv
 have oM := mkS bO hC
 have rP := mkS bO hK
 have kA := LD (fun u => Sh u A l) bO hA (·.below)
 have aN := kr w0
 clear hv hC hK hA
 go_in
 go_wp2_with fail
 rw [HW.out]
 have zc := kC.out _ aN
 go_wp2_with fail
 clear zc
 refine oz kC aN (lV P Q G (m : Int) Cs cs cn cc Ks ks kn kc hcn hkn true hr hQ _ (kV.out _ aN) (oM.out _ aN) (rP.out _ aN)) fun w1 bW zc => ?_
 go_wp2
 clear zc
 go_loopw [8, 9, 25] (fun vx vy i wr => ∃ k : Nat, k ≤ n ∧ i = .int .i64 k ∧ Hid (l.all (fun p => gQ P Q G ks p.1 p.2) = (l.drop k).all (fun p => gQ P Q G ks p.1 p.2)) ∧ Hid (wr.ownsRow w0.heap.size 3 1 vx k ((ixs (l.take k)).map (Value.int .i64))) ∧ Hid (wr.ownsRow w0.heap.size 3 1 vy k ((dA (l.take k)).map (Value.int .i64))) ∧ Hid (∀ j, vx.ownBlock = some j → vy.ownBlock ≠ some j) ∧ Hid (Below w0.heap.size w0 wr)) (fun _ _ i _ => n - (intOf i).toNat)
 case atStart => exact ⟨0, by omega, rfl, aa rfl, aa (World.ownsRow_nil _ _ _ _), aa (World.ownsRow_nil _ _ _ _), aa (fun j h => by cases h), bW⟩
 case round =>
  obtain ⟨k, hk, rfl, HR, Dt, Dr, wY, aB⟩ := hrel
  by_cases hlt : k < n
  ·
   have hkl : k < l.length := by rw [hn.out]; exact hlt
   obtain ⟨b, o, hA, y_, ze⟩ := (kA.out _ aB).out k hkl
   subst hA
   have tx := Am hkl
   have ty := Al hkl
   obtain ⟨px, hpx⟩ : ∃ x, l.getD k (0, 0) = x := ⟨_, rfl⟩
   obtain ⟨ix, v⟩ := px
   rw [hpx] at y_ ze tx ty
   have TX := aa tx
   have TY := aa ty
   clear tx ty
   dsimp only at y_ ze
   cases hrg : gQ P Q G ks ix v with
   | true =>
    have HS : Hid (l.all (fun p => gQ P Q G ks p.1 p.2) = (l.drop (k + 1)).all (fun p => gQ P Q G ks p.1 p.2)) := aa (HR.out.trans (p9 hkl (by rw [hpx]; exact hrg)))
    have Gp := aa hrg
    clear hrg HR hpx
    have bJ := kr wr
    have zc := kC.out _ aB
    obtain ⟨w2, hw, qb, CU, zY, kS⟩ := Jm (kg ix v) Dm wr
    have aL := Gh aB qb
    have bu := Gh bJ qb
    have bz := kr w2
    clear qb
    have Dz := kC.out _ aL
    have oD := kS.out _ bz
    go_wp2_with fail
    clear zc Dz oD hw
    have zc := kC.out _ aL
    have rR := kS.out _ bz
    clear y_ ze
    clear zc rR
    have zc := kC.out _ aL
    have rR := kS.out _ bz
    go_wp2_with fail
    clear zc rR
    refine wC aL bu bz (kH P Q G (m : Int) Cs cn cc Ks ks kn kc ix v hkn n2 eu true Gp _ (kV.out _ aL) (rP.out _ aL)) fun w3 ek fH cu => ?_
    have zc := kC.out _ ek
    have rR := kS.out _ cu
    have HT : Hid (eH w0 wr.heap.size (kg ix v) u8 k (ixs (l.take k)) u9 k (dA (l.take k)) w3) := aa ⟨ek.out, (cu.out.block _ (fE zY.out)).trans zY.out, Dt.out.kept (aA fH.out none) (dW _), Dr.out.kept (aA fH.out none) (dW _), wY.out, fun e => by have := (Dt.out.lt _ e).2; omega, fun e => by have := (Dr.out.lt _ e).2; omega⟩
    go_upto_region 9 with (fail)
    clear zc rR
    have hS := aa (show ∀ (za : Value) (zi : Nat) (zl : List Int) (zb : Value) (zj : Nat) (zm : List Int) (zu : World), Hid (eH w0 (wr.heap.size) (kg ix v) za (zi) (zl) zb (zj) (zm) zu) → (zu.cell? ⟨w.heap.size, 0, none⟩ = some (.int .i64 P) ∧ zu.cell? ⟨w.heap.size, 1, none⟩ = some (.int .i64 Q) ∧ zu.cell? ⟨w.heap.size, 2, none⟩ = some (.int .i64 G) ∧ zu.cell? ⟨w.heap.size + 1, 0, none⟩ = some (.int .i64 (m : Int)) ∧ zu.cell? ⟨w.heap.size + 1, 1, none⟩ = some (.slice Cs cn cc) ∧ zu.cell? ⟨w.heap.size + 1, 2, none⟩ = some (.slice Ks kn kc) ∧ zu.cell? ⟨wr.heap.size, 0, none⟩ = some (.int .i64 ix) ∧ zu.cell? ⟨wr.heap.size, 1, none⟩ = some (.int .i64 v)) from fun za zi zl zb zj zm zu h => by
     obtain ⟨y0, y1, y2, y3, y4, y5⟩ := kC.out _ (aa h.out.b)
     exact ⟨y0, y1, y2, y3, y4, y5, ai h.out.x 0, ai h.out.x 1⟩)
    have IE := aa (HT.out.below (Below.refl _ _).drew)
    refine dR (S := fun w' => w'.cell? ⟨w.heap.size, 0, none⟩ = some (.int .i64 P) ∧ w'.cell? ⟨w.heap.size, 1, none⟩ = some (.int .i64 Q) ∧ w'.cell? ⟨w.heap.size, 2, none⟩ = some (.int .i64 G) ∧ w'.cell? ⟨w.heap.size + 1, 0, none⟩ = some (.int .i64 (m : Int)) ∧ w'.cell? ⟨w.heap.size + 1, 1, none⟩ = some (.slice Cs cn cc) ∧ w'.cell? ⟨w.heap.size + 1, 2, none⟩ = some (.slice Ks kn kc) ∧ w'.cell? ⟨wr.heap.size, 0, none⟩ = some (.int .i64 ix) ∧ w'.cell? ⟨wr.heap.size, 1, none⟩ = some (.int .i64 v)) (E := []) (by kernel_rfl) (hS.out _ _ _ _ _ _ _ IE) (fun hHeld => ?_)
    obtain ⟨wD, Kb⟩ : ∃ u, w3.drew = u := ⟨_, rfl⟩
    rw [Kb] at IE hHeld ⊢
    clear Kb
    refine o7 0 ?_
    refine o7 1 ?_
    refine o7 2 ?_
    refine o7 5 ?_
    refine o7 6 ?_
    refine o7 7 ?_
    refine oV (fun T a0 hT ha0 => ?_)
    clear hHeld
    have oh : ∀ (g3 : Nat) (gX : Nat) (cX : Nat) (g8 : Nat) (gY : Nat) (cY : Nat) (uT : World), (Hid (eH w0 (wr.heap.size) (kg ix v) (.slice (some ⟨gX, 0, none⟩) (k + 1) cX) (k + 1) (ixs (l.take k) ++ [ix]) (.slice (some ⟨gY, 0, none⟩) (k + 1) cY) (k + 1) (dA (l.take k) ++ [v]) uT)) → T 2 #[true, true, true, true, true, true, true, true, true, true, false, false] ((((a0.put (some 37) (.slice (some ⟨g3, 0, none⟩) 1 1)).put (some 38) (.slice (some ⟨gX, 0, none⟩) (k + 1) cX)).put (some 42) (.slice (some ⟨g8, 0, none⟩) 1 1)).put (some 43) (.slice (some ⟨gY, 0, none⟩) (k + 1) cY)) uT := by
     intro g3 gX cX g8 gY cY uT FT
     have hHeld := hS.out _ _ _ _ _ _ _ FT
     rw [hT, ha0]
     try simp only [qq]
     refine o7 10 ?_
     refine o7 11 ?_
     refine Aj ?_
     clear hHeld hT ha0
     have Lr := aa FT.out.b
     have hox := FT.out.ox
     have hoy := FT.out.oy
     rw [← TX.out] at hox
     rw [← TY.out] at hoy
     have CZ := aa hox
     have CY := aa hoy
     have IP := aa FT.out.nxy
     clear hox hoy FT
     have zc := kC.out _ Lr
     go_wp2
     go_roundw
     case rel => exact ⟨k + 1, by omega, by go_num, HS, CZ, CY, IP, Lr⟩
     case measure => simp [intOf]; omega
    have om : ∀ (g3 : Nat) (gX : Nat) (cX : Nat) (g8 : Nat) (uT : World), (Hid (eH w0 (wr.heap.size) (kg ix v) (.slice (some ⟨gX, 0, none⟩) (k + 1) cX) (k + 1) (ixs (l.take k) ++ [ix]) u9 (k) (dA (l.take k)) uT)) → (Hid (aR uT g8 (v) (.slice (some ⟨gX, 0, none⟩) (k + 1) cX) u9)) → T 3 #[true, true, true, true, true, true, true, true, true, false, false, false] (((a0.put (some 37) (.slice (some ⟨g3, 0, none⟩) 1 1)).put (some 38) (.slice (some ⟨gX, 0, none⟩) (k + 1) cX)).put (some 42) (.slice (some ⟨g8, 0, none⟩) 1 1)) uT := by
     intro g3 gX cX g8 uT FT F8
     have hHeld := hS.out _ _ _ _ _ _ _ FT
     rw [hT, ha0]
     try simp only [qq]
     refine mK 9 fun K hK => ?_
     refine step_append_lies _ (by rfl) _ _ _ (by rfl) w0.heap.size 3 i0 _ 1 8 Tryz.underlying30 hi hz0 hz1 hz2 rfl (by omega) u9 (k) ((dA (l.take k)).map (Value.int .i64)) (by rfl) FT.out.oy ⟨g8, 0, none⟩ 1 1 [.int .i64 (v)] (by rfl) (by rfl) F8.out.news (ints_oneCell .i64 [v]) (by omega) (by unfold maxLen; omega) (by omega) FT.out.b.size uT.heap.size rfl ?_
     intro gY cY uN hown1 hgrow1 hgg hlt1
     have fo := aa (FT.out.appY hown1 hgrow1 hgg)
     refine hK.out _ _ ?_ (fun hHeld => ?_)
     · exact hS.out _ _ _ _ _ _ _ fo
     clear hK K hHeld
     try simp only [qq]
     have hG := oh g3 gX cX g8 gY cY uN fo
     rw [hT, ha0] at hG
     (try simp only [qq] at hG)
     exact hG
    have I7 : ∀ (g3 : Nat) (gX : Nat) (cX : Nat) (uT : World), (Hid (eH w0 (wr.heap.size) (kg ix v) (.slice (some ⟨gX, 0, none⟩) (k + 1) cX) (k + 1) (ixs (l.take k) ++ [ix]) u9 (k) (dA (l.take k)) uT)) → T 4 #[true, true, true, true, true, true, true, true, false, false, false, false] ((a0.put (some 37) (.slice (some ⟨g3, 0, none⟩) 1 1)).put (some 38) (.slice (some ⟨gX, 0, none⟩) (k + 1) cX)) uT := by
     intro g3 gX cX uT FT
     have hHeld := hS.out _ _ _ _ _ _ _ FT
     rw [hT, ha0]
     try simp only [qq]
     refine mK 8 fun K hK => ?_
     go_simp
     have fo := aa (FT.out.below (af uT (.cells #[.int .i64 (v)] 3)))
     refine hK.out _ _ ?_ (fun hHeld => ?_)
     · exact hS.out _ _ _ _ _ _ _ fo
     clear hK K hHeld
     try simp only [qq]
     have hG := om g3 gX cX (uT.heap.size) (uT.alloc (.cells #[.int .i64 (v)] 3)) fo (aa (aR.new FT.out (v)))
     rw [hT, ha0] at hG
     (try simp only [qq] at hG)
     exact hG
    have Dj : ∀ (g3 : Nat) (g8 : Nat) (uT : World), (Hid (eH w0 (wr.heap.size) (kg ix v) u8 (k) (ixs (l.take k)) u9 (k) (dA (l.take k)) uT)) → (Hid (aR uT g3 (ix) u8 u9)) → (Hid (aR uT g8 (v) u8 u9)) → T 4 #[true, true, true, true, false, true, true, true, true, false, false, false] ((a0.put (some 37) (.slice (some ⟨g3, 0, none⟩) 1 1)).put (some 42) (.slice (some ⟨g8, 0, none⟩) 1 1)) uT := by
     intro g3 g8 uT FT F3 F8
     have hHeld := hS.out _ _ _ _ _ _ _ FT
     rw [hT, ha0]
     try simp only [qq]
     refine mK 4 fun K hK => ?_
     refine step_append_lies _ (by rfl) _ _ _ (by rfl) w0.heap.size 3 i0 _ 1 8 Tryz.underlying30 hi hz0 hz1 hz2 rfl (by omega) u8 (k) ((ixs (l.take k)).map (Value.int .i64)) (by rfl) FT.out.ox ⟨g3, 0, none⟩ 1 1 [.int .i64 (ix)] (by rfl) (by rfl) F3.out.news (ints_oneCell .i64 [ix]) (by omega) (by unfold maxLen; omega) (by omega) FT.out.b.size uT.heap.size rfl ?_
     intro gX cX uN hown1 hgrow1 hgg hlt1
     have fo := aa (FT.out.appX hown1 hgrow1 hgg)
     refine hK.out _ _ ?_ (fun hHeld => ?_)
     · exact hS.out _ _ _ _ _ _ _ fo
     clear hK K hHeld
     try simp only [qq]
     have hG := om g3 gX cX g8 uN fo (aa (F8.out.appX hgrow1 hgg))
     rw [hT, ha0] at hG
     (try simp only [qq] at hG)
     exact hG
    have G3 : ∀ (g3 : Nat) (uT : World), (Hid (eH w0 (wr.heap.size) (kg ix v) u8 (k) (ixs (l.take k)) u9 (k) (dA (l.take k)) uT)) → (Hid (aR uT g3 (ix) u8 u9)) → T 5 #[true, true, true, true, false, true, true, true, false, false, false, false] (a0.put (some 37) (.slice (some ⟨g3, 0, none⟩) 1 1)) uT := by
     intro g3 uT FT F3
     have hHeld := hS.out _ _ _ _ _ _ _ FT
     rw [hT, ha0]
     try simp only [qq]
     refine lT (i1 := 4) (i2 := 8) (by kernel_rfl) rfl rfl (fun K hK => ?_) (fun K hK => ?_)
     ·
      refine step_append_lies _ (by rfl) _ _ _ (by rfl) w0.heap.size 3 i0 _ 1 8 Tryz.underlying30 hi hz0 hz1 hz2 rfl (by omega) u8 (k) ((ixs (l.take k)).map (Value.int .i64)) (by rfl) FT.out.ox ⟨g3, 0, none⟩ 1 1 [.int .i64 (ix)] (by rfl) (by rfl) F3.out.news (ints_oneCell .i64 [ix]) (by omega) (by unfold maxLen; omega) (by omega) FT.out.b.size uT.heap.size rfl ?_
      intro gX cX uN hown1 hgrow1 hgg hlt1
      have fo := aa (FT.out.appX hown1 hgrow1 hgg)
      refine hK.out _ _ ?_ (fun hHeld => ?_)
      · exact hS.out _ _ _ _ _ _ _ fo
      clear hK K hHeld
      try simp only [qq]
      have hG := I7 g3 gX cX uN fo
      rw [hT, ha0] at hG
      (try simp only [qq] at hG)
      exact hG
     ·
      go_simp
      have fo := aa (FT.out.below (af uT (.cells #[.int .i64 (v)] 3)))
      refine hK.out _ _ ?_ (fun hHeld => ?_)
      · exact hS.out _ _ _ _ _ _ _ fo
      clear hK K hHeld
      try simp only [qq]
      have hG := Dj g3 (uT.heap.size) (uT.alloc (.cells #[.int .i64 (v)] 3)) fo (aa (F3.out.below (af uT (.cells #[.int .i64 (v)] 3)))) (aa (aR.new FT.out (v)))
      rw [hT, ha0] at hG
      (try simp only [qq] at hG)
      exact hG
    have G8 : ∀ (g8 : Nat) (uT : World), (Hid (eH w0 (wr.heap.size) (kg ix v) u8 (k) (ixs (l.take k)) u9 (k) (dA (l.take k)) uT)) → (Hid (aR uT g8 (v) u8 u9)) → T 5 #[true, true, true, false, false, true, true, true, true, false, false, false] (a0.put (some 42) (.slice (some ⟨g8, 0, none⟩) 1 1)) uT := by
     intro g8 uT FT F8
     have hHeld := hS.out _ _ _ _ _ _ _ FT
     rw [hT, ha0]
     try simp only [qq]
     refine mK 3 fun K hK => ?_
     go_simp
     have fo := aa (FT.out.below (af uT (.cells #[.int .i64 (ix)] 3)))
     refine hK.out _ _ ?_ (fun hHeld => ?_)
     · exact hS.out _ _ _ _ _ _ _ fo
     clear hK K hHeld
     try simp only [qq]
     have hG := Dj (uT.heap.size) g8 (uT.alloc (.cells #[.int .i64 (ix)] 3)) fo (aa (aR.new FT.out (ix))) (aa (F8.out.below (af uT (.cells #[.int .i64 (ix)] 3))))
     rw [hT, ha0] at hG
     (try simp only [qq] at hG)
     exact hG
    have G0 : ∀  (uT : World), (Hid (eH w0 (wr.heap.size) (kg ix v) u8 (k) (ixs (l.take k)) u9 (k) (dA (l.take k)) uT)) → T 6 #[true, true, true, false, false, true, true, true, false, false, false, false] a0 uT := by
     intro  uT FT
     have hHeld := hS.out _ _ _ _ _ _ _ FT
     rw [hT, ha0]
     try simp only [qq]
     refine lT (i1 := 3) (i2 := 8) (by kernel_rfl) rfl rfl (fun K hK => ?_) (fun K hK => ?_)
     ·
      go_simp
      have fo := aa (FT.out.below (af uT (.cells #[.int .i64 (ix)] 3)))
      refine hK.out _ _ ?_ (fun hHeld => ?_)
      · exact hS.out _ _ _ _ _ _ _ fo
      clear hK K hHeld
      try simp only [qq]
      have hG := G3 (uT.heap.size) (uT.alloc (.cells #[.int .i64 (ix)] 3)) fo (aa (aR.new FT.out (ix)))
      rw [hT, ha0] at hG
      (try simp only [qq] at hG)
      exact hG
     ·
      go_simp
      have fo := aa (FT.out.below (af uT (.cells #[.int .i64 (v)] 3)))
      refine hK.out _ _ ?_ (fun hHeld => ?_)
      · exact hS.out _ _ _ _ _ _ _ fo
      clear hK K hHeld
      try simp only [qq]
      have hG := G8 (uT.heap.size) (uT.alloc (.cells #[.int .i64 (v)] 3)) fo (aa (aR.new FT.out (v)))
      rw [hT, ha0] at hG
      (try simp only [qq] at hG)
      exact hG
    exact G0 _ IE
   | false =>
    have HF : Hid (lN P Q G (m : Int) ks l = 11) := aa (by rw [lN, HR.out, nU hkl (by rw [hpx]; exact hrg)]; rfl)
    have Gp := aa hrg
    clear hrg HR hpx
    have bJ := kr wr
    have zc := kC.out _ aB
    obtain ⟨w2, hw, qb, CU, zY, kS⟩ := Jm (kg ix v) Dm wr
    have aL := Gh aB qb
    have bu := Gh bJ qb
    have bz := kr w2
    clear qb
    have Dz := kC.out _ aL
    have oD := kS.out _ bz
    go_wp2_with fail
    clear zc Dz oD hw
    have zc := kC.out _ aL
    have rR := kS.out _ bz
    clear y_ ze
    clear zc rR
    have zc := kC.out _ aL
    have rR := kS.out _ bz
    go_wp2_with fail
    clear zc rR
    refine wC aL bu bz (kH P Q G (m : Int) Cs cn cc Ks ks kn kc ix v hkn n2 eu false Gp _ (kV.out _ aL) (rP.out _ aL)) fun w3 ek fH cu => ?_
    have zc := kC.out _ ek
    have rR := kS.out _ cu
    have eP := ag bO.out ek.out
    go_wp2
    go_ret2
    exact ⟨by rw [sF, HF.out]; rfl, eP⟩
  ·
   obtain rfl : k = n := by omega
   have hall : l.all (fun p => gQ P Q G ks p.1 p.2) = true := by rw [HR.out, ← hn.out, List.drop_length]; rfl
   have hox := Dt.out
   have hoy := Dr.out
   rw [List.take_of_length_le (by rw [hn.out]; exact Nat.le_refl _)] at hox hoy
   have H8 : (ixs l).length = k := by rw [List.length_map]; exact hn.out
   have Hr : (dA l).length = k := by rw [List.length_map]; exact hn.out
   obtain ⟨AX, cX, M_, sX, Rf⟩ := jE hox H8
   obtain ⟨AY, cY, M9, sY, Re⟩ := jE hoy Hr
   subst M_
   subst M9
   have KU := aa sX
   have Jp := aa sY
   have FH := aa H8
   have KP := aa Hr
   have ig := aa hall
   have Lg : Hid (∀ j, j < k → -9223372036854775808 ≤ (ixs l).getD j 0 ∧ (ixs l).getD j 0 < 9223372036854775808) := aa (fun j hj => by rw [bZ (by rw [hn.out]; exact hj)]; exact hlr.out j hj)
   clear hall hox hoy H8 Hr sX sY HR Dt Dr wY
   have bJ := kr wr
   have kX := FV (w := wr) (fun u => Sl u AX (ixs l)) KU.out (·.below)
   have kY := FV (w := wr) (fun u => Sl u AY (dA l)) Jp.out (·.below)
   have zc := kC.out _ aB
   by_cases hnt : bI (ixs l)
   ·
    have zJ := aa hnt
    clear hnt
    go_wp2_with fail
    clear zc
    refine KA aB bJ (oZ AX (ixs l) k cX false (aa ⟨fun _ => zJ.out, fun _ => rfl⟩) FH (by omega) Lg _ (kX.out _ bJ)) fun w2 aL bu => ?_
    have zc := kC.out _ aL
    by_cases hfw : k < m
    ·
     have HF : Hid (lN P Q G (m : Int) ks l = 7) := aa (by rw [lN, if_pos ig.out]; simp [zJ.out, hn.out]; omega)
     have df : decide ((k : Int) < (m : Int)) = true := by simp; omega
     have eP := ag bO.out aL.out
     go_wp2
     go_ret2
     exact ⟨by rw [sF, HF.out]; rfl, eP⟩
    ·
     have HF : Hid (lN P Q G (m : Int) ks l = 0) := aa (by rw [lN, if_pos ig.out]; simp [zJ.out, hn.out]; omega)
     have RS : Hid (sF P Q G (m : Int) ks l = zP Q ((ixs l).take m) (dA l) m) := aa (by rw [sF, HF.out]; rfl)
     have df : decide ((k : Int) < (m : Int)) = false := by simp; omega
     have hmc : m ≤ cX := by omega
     have Jo : Hid (((ixs l).take m).length = m) := aa (by rw [List.length_take, FH.out]; omega)
     have N7 : Hid (((ixs l).take m).all (aQ Q) = true) := aa (G_ ig.out hkn.out n3)
     have NZ : Hid (bI ((ixs l).take m)) := aa (jJ zJ.out)
     obtain ⟨q1, q2, q3, q4⟩ := aD eu.out
     have Gq : Hid (dB Q = true) := aa (bX eu.out)
     have M7 := aa (show ∀ u : World, Hid (Below wr.heap.size wr u) → Hid (Sl u AX ((ixs l).take m)) from fun u h => aa ((iw (KU.out.below h.out) m)))
     go_upto_region 15 with (fail)
     clear zc
     have hO := aa (fun (u : World) (h : Hid (Below w0.heap.size w0 u ∧ Below wr.heap.size wr u)) => kC.out u (aa h.out.1))
     refine Jd (fun u => Below w0.heap.size w0 u ∧ Below wr.heap.size wr u) [] (bb2 (aa ⟨aL.out, bu.out⟩) ((Below.refl _ _).drew)) (fun hHeld => ?_)
     refine gJ 0 1 2 3 ?_
     refine lC 4 ?_
     refine lC 5 ?_
     refine mK 6 fun K hK => ?_
     go_simp
     refine (rW Q AX ((ixs l).take m) m cX 0 (by omega) Gq Jo (by omega) N7 (by omega) (by omega) hmc NZ _ (kV.out _ (aa hHeld.out.1)) (M7.out _ (aa hHeld.out.2))).mono ?_
     intro e wA hW
     obtain ⟨vw, rfl, Px, qP⟩ := hW
     have HOW := aa Px
     clear Px
     refine hK.out _ _ (bb2 hHeld qP) (fun hHeld => ?_)
     clear hK K
     refine gJ 7 8 9 10 ?_
     refine lC 11 ?_
     refine Aj ?_
     clear hO
     have lq := (aa hHeld.out.1)
     have IW := (aa hHeld.out.2)
     clear hHeld
     have zc := kC.out _ lq
     have LV := HOW.out
     unfold aT at LV
     rw [eT] at LV
     obtain ⟨AW, cW, hvw, sW, hcW⟩ := jE LV (eT _ _ _ _)
     subst hvw
     have Mv := aa sW
     clear LV sW HOW
     clear zc
     have MR := kr wA
     have kW := FV (w := wA) (fun u => Sl u AW (zO Q ((ixs l).take m) 0 m)) Mv.out (·.below)
     have zc := kC.out _ lq
     go_wp2
     clear zc
     go_loopw [14, 69] (fun a i wz => ∃ j : Nat, j ≤ m ∧ i = .int .i64 j ∧ a = .int .i64 (zP Q ((ixs l).take m) (dA l) j) ∧ Hid (Below wA.heap.size wA wz)) (fun _ i _ => m - (intOf i).toNat)
     case atStart => exact ⟨0, by omega, rfl, rfl, aa (Below.refl _ _)⟩
     case round =>
      obtain ⟨j, hj, rfl, rfl, ku⟩ := hrel
      have lJ := aa (ag lq.out ku.out)
      have yC := aa (ag IW.out ku.out)
      have hsb := uS (Q := Q) (by omega) ((ixs l).take m) (dA l) j
      by_cases qO : j < m
      ·
       have hkl : j < l.length := by have := hn.out; omega
       obtain ⟨b1, o1, hA1, i1⟩ := (kW.out _ ku).out j (by rw [eT]; exact qO)
       obtain ⟨b2, o2, hA2, i2⟩ := (kY.out _ yC).out j (by rw [KP.out]; omega)
       subst hA1
       subst hA2
       rw [DC _ _ _ _ _ qO] at i1
       have ss : zP Q ((ixs l).take m) (dA l) (j + 1) = (zP Q ((ixs l).take m) (dA l) j + rM Q ((ixs l).take m) 0 j * (dA l).getD j 0 % Q) % Q := rfl
       obtain ⟨x0, x1⟩ := uO (q := Q) (by omega) ((ixs l).take m) 0 j
       have hyb := GD ig.out hkl
       obtain ⟨x, hx⟩ : ∃ x, rM Q ((ixs l).take m) 0 j = x := ⟨_, rfl⟩
       obtain ⟨y, hy⟩ : ∃ x, (dA l).getD j 0 = x := ⟨_, rfl⟩
       obtain ⟨s9, Dl⟩ : ∃ x, zP Q ((ixs l).take m) (dA l) j = x := ⟨_, rfl⟩
       rw [hx] at i1 x0 x1 ss
       rw [hy] at i2 ss hyb
       rw [Dl] at ss hsb ⊢
       obtain ⟨p, hp⟩ : ∃ z, x * y % Q = z := ⟨_, rfl⟩
       obtain ⟨t9, Nb⟩ : ∃ z, (s9 + p) % Q = z := ⟨_, rfl⟩
       rw [hp, Nb] at ss
       have p0 : 0 ≤ p := by rw [← hp]; exact Int.emod_nonneg _ (by omega)
       have p1 : p < Q := by rw [← hp]; exact Int.emod_lt_of_pos _ (by omega)
       obtain ⟨s0, s1⟩ := hsb
       have y0 := kE hyb
       have y1 := kF hyb
       have SS := aa ss
       have HP := aa hp
       have R3 := aa Nb
       clear ss hx hy Dl hp Nb hkl hyb
       have zc := kC.out _ lJ
       go_wp2
       go_quiet ((go_at_call 37; exact Calls.quiet_of (qf x y Q p HP (by omega) x0 x1 y0 y1 _)))
       go_wp2_with fail
       refine (DF s9 p Q t9 R3 (by omega) s0 s1 p0 p1 _).mono ?_
       rintro e9 w9 ⟨rfl, rfl⟩
       have HB2 := aa (ah ku.out nq)
       go_wp2
       go_roundw
       case rel => exact ⟨j + 1, by omega, by go_num, by rw [SS.out], HB2⟩
       case measure => simp [intOf]; omega
      ·
       obtain rfl : j = m := by omega
       have zc := kC.out _ lJ
       have eP := ag bO.out lJ.out
       go_wp2
       go_ret2
       exact ⟨by rw [RS.out, HF.out]; rfl, eP⟩
   ·
    have HF : Hid (lN P Q G (m : Int) ks l = 8) := aa (by rw [lN, if_pos ig.out]; simp [hnt])
    have zJ := aa hnt
    clear hnt
    go_wp2_with fail
    clear zc
    refine KA aB bJ (oZ AX (ixs l) k cX true (aa ⟨fun h => (by cases h), fun h => absurd h zJ.out⟩) FH (by omega) Lg _ (kX.out _ bJ)) fun w2 aL bu => ?_
    have zc := kC.out _ aL
    have eP := ag bO.out aL.out
    go_wp2
    go_ret2
    exact ⟨by rw [sF, HF.out]; rfl, eP⟩
theorem aS {P : Program} {ops : Array Oper} {rest : List Oper} {o : Oper} {a : Act} {w : World} {Q : Exit → Act → World → Prop} (hw : Region.wanted o (yielded ops a.tmps) = true) (ty : TypeId) (x : Operand) (ho : o.op = .load ty x)
  (g : Nat) (hx : a.eval x = .pointer (some ⟨g, 0, none⟩)) (t : TypeId) (cs : Array Value) (fr : Nat × Nat) (d : TypeDesc) (hg : w.heap[g]? = some (.cells cs t fr))
  (hu : P.underlying ty = some d) (hd : (match d with | .struct _ | .array _ _ => true | _ => false) = true) (hi : (P.info? ty).map (·.size) = some cs.size)
  (h : wpList P ops Q rest (a.put o.dst (.agg cs)) w) : wpList P ops Q (o :: rest) a w :=
 wpList_step fun K hK => by
  rw [if_pos hw]
  unfold Oper.wp execOp
  simp only [ho, hx, Instr.loadAt, Instr.sureAddr, Sem.run_bind, Sem.run_pure, Result.andThen_ok, run_loadVar_row w g t ty cs fr d hg hu hd hi]
  exact hK _ _ h
def bE (w : World) (b : Nat) (need : Int) (v u : Value) : Prop := w.heap[b]? = some (.cells (oq need v u) 32 (0, 0))
theorem bE.lt {w : World} {b : Nat} {need : Int} {v u : Value} (h : bE w b need v u) : b < w.heap.size := (Array.getElem?_eq_some_iff.1 h).1
theorem bE.below {w w' : World} {b : Nat} {need : Int} {v u : Value} (h : bE w b need v u) (hb : Below w.heap.size w w') : bE w' b need v u := (hb.block b h.lt).trans h
theorem bE.grown {w w' : World} {b : Nat} {r : Option Nat} {need : Int} {v u : Value} (h : bE w b need v u) (hb : w.grownBy w' r) (hne : r ≠ some b) : bE w' b need v u := (hb.block b h.lt (fun e => hne e.symm)).trans h
theorem bE.c0 {w : World} {b : Nat} {need : Int} {v u : Value} (h : bE w b need v u) : Own w ⟨b, 0, none⟩ (.int .i64 need) := ⟨ai h 0, bq h 0⟩
theorem bE.c1 {w : World} {b : Nat} {need : Int} {v u : Value} (h : bE w b need v u) : Own w ⟨b, 1, none⟩ v := ⟨ai h 1, bq h 1⟩
theorem bE.c2 {w : World} {b : Nat} {need : Int} {v u : Value} (h : bE w b need v u) : Own w ⟨b, 2, none⟩ u := ⟨ai h 2, bq h 2⟩
theorem bE.set1 {w : World} {b : Nat} {need : Int} {v u : Value} (h : bE w b need v u) (x : Value) : bE (w.setCell ⟨b, 1, none⟩ x) b need x u := heap_setCell_same _ _ _ _ _ _ h
theorem bE.set2 {w : World} {b : Nat} {need : Int} {v u : Value} (h : bE w b need v u) (x : Value) : bE (w.setCell ⟨b, 2, none⟩ x) b need v x := heap_setCell_same _ _ _ _ _ _ h
theorem bE.setRow {w : World} {b : Nat} {need need' : Int} {v u v' u' : Value} (h : bE w b need v u) : bE (w.setRow b (oq need' v' u')) b need' v' u' := setRow_heap w b _ _ _ _ h
theorem bE.row {w : World} {b k : Nat} {need : Int} {v u : Value} {cs : Array Value} (h : bE w b need v u) (hne : b ≠ k) : bE (w.setRow k cs) b need v u := (setRow_other _ _ _ _ hne).trans h
theorem aG.row {w : World} {b k : Nat} {h : List Int} {c : Int} {cs : Array Value} (H : aG w b h c) (hne : b ≠ k) : aG (w.setRow k cs) b h c := (setRow_other _ _ _ _ hne).trans H
structure iD (w : World) (P Q G : Int) (h : List Int) (c : Int) (u : World) : Prop where
 g : u.heap[w.heap.size]? = some (aM P Q G)
 d : aG u (w.heap.size + 1) h c
 p : bE u (w.heap.size + 2) 0 (.slice none 0 0) (.slice none 0 0)
 e : aG u (w.heap.size + 3) (aH 32) 0
 b : Below w.heap.size w u
section
variable {w u u' : World} {P Q G c c' : Int} {h h' : List Int}
theorem iD.z (H : iD w P Q G h c u) : w.heap.size + 4 ≤ u.heap.size := H.e.lt
theorem iD.gb (H : iD w P Q G h c u) : zN u w.heap.size P Q G := ⟨ai H.g 0, ai H.g 1, ai H.g 2⟩
theorem iD.below (H : iD w P Q G h c u) (hb : Below u.heap.size u u') : iD w P Q G h c u' :=
 ⟨(hb.block _ (Array.getElem?_eq_some_iff.1 H.g).1).trans H.g, H.d.below hb, H.p.below hb, H.e.below hb, ag H.b hb⟩
theorem iD.grown {b : Nat} (H : iD w P Q G h c u) (hb : u.grownBy u' (some b)) (hB : w.heap.size + 4 ≤ b) : iD w P Q G h c u' :=
 have hz := H.z
 have f : ∀ k, k < w.heap.size + 4 → u'.heap[k]? = u.heap[k]? := fun k hk => hb.block k (by omega) (fun e => by injection e with e; omega)
 ⟨(f _ (by omega)).trans H.g, (f _ (by omega)).trans H.d, (f _ (by omega)).trans H.p, (f _ (by omega)).trans H.e, H.b.trans (gB hb (by omega) (by omega))⟩
theorem iD.put (H : iD w P Q G h c u) : iD w P Q G h' c' (u.setRow (w.heap.size + 1) (aC h' c')) :=
 ⟨(setRow_other _ _ _ _ (by omega)).trans H.g, H.d.setRow, H.p.row (by omega), H.e.row (by omega), ak H.b (by omega)⟩
theorem iD.start (w : World) (P Q G : Int) (h : List Int) (c : Int) :
  iD w P Q G h c ((((w.alloc (aM P Q G)).alloc (.cells (aC h c) 27)).alloc (.cells j_ 32)).alloc (.cells #[.int .u8 0, .int .u8 0, .int .u8 0, .int .u8 0, .int .u8 0, .int .u8 0, .int .u8 0, .int .u8 0, .int .u8 0, .int .u8 0, .int .u8 0, .int .u8 0, .int .u8 0, .int .u8 0, .int .u8 0, .int .u8 0, .int .u8 0, .int .u8 0, .int .u8 0, .int .u8 0, .int .u8 0, .int .u8 0, .int .u8 0, .int .u8 0, .int .u8 0, .int .u8 0, .int .u8 0, .int .u8 0, .int .u8 0, .int .u8 0, .int .u8 0, .int .u8 0, .int .i64 0] 27)) := by
 have e1 : (w.alloc (aM P Q G)).heap.size = w.heap.size + 1 := by simp
 have e2 : ((w.alloc (aM P Q G)).alloc (.cells (aC h c) 27)).heap.size = w.heap.size + 2 := by simp
 have g0 : (w.alloc (aM P Q G)).heap[w.heap.size]? = some (aM P Q G) := heap_alloc_new _ _
 have step : ∀ {u : World} {o : Obj}, u.heap[w.heap.size]? = some (aM P Q G) → (u.alloc o).heap[w.heap.size]? = some (aM P Q G) := fun {u o} hh => ((af u o).block _ (Array.getElem?_eq_some_iff.1 hh).1).trans hh
 refine ⟨step (step (step g0)), ?_, ?_, ?_, ?_⟩
 · rw [← e1]; exact ((aG.new _ _ _).below (af _ _)).below (af _ _)
 · rw [← e2]; exact heap_alloc2_old _ _ _
 · rw [show w.heap.size + 3 = ((w.alloc (aM P Q G)).alloc (.cells (aC h c) 27)).heap.size + 1 by rw [e2], I9]; exact heap_alloc2_new _ _ _
 · exact ag (ag (aZ (Below.refl _ _)) (af _ _)) (af _ _)
theorem iD.fail (H : iD w P Q G h c u) :
  bE ((u.setRow (w.heap.size + 2) j_).setRow (w.heap.size + 3) (aC (aH 32) 0)) (w.heap.size + 2) 0 (.slice none 0 0) (.slice none 0 0) ∧
  aG ((u.setRow (w.heap.size + 2) j_).setRow (w.heap.size + 3) (aC (aH 32) 0)) (w.heap.size + 3) (aH 32) 0 ∧
  aG (u.setRow (w.heap.size + 2) j_) (w.heap.size + 3) (aH 32) 0 ∧
  Below w.heap.size w ((u.setRow (w.heap.size + 2) j_).setRow (w.heap.size + 3) (aC (aH 32) 0)) := by
 have h1 : aG (u.setRow (w.heap.size + 2) j_) (w.heap.size + 3) (aH 32) 0 := H.e.row (by omega)
 exact ⟨H.p.setRow.row (by omega), h1.setRow, h1, ak (ak H.b (by omega)) (by omega)⟩
end
theorem Ay {w u : World} {A : Option Addr} {xs : List Int} {b : Nat} (h : Sl w A xs) (hg : w.grownBy u (some b)) (hA : ∀ g o, A = some ⟨g, o, none⟩ → g < b) (hb : b < w.heap.size) : Sl u A xs := fun k hk => by
 obtain ⟨g, o, e, hc⟩ := h k hk
 have h1 := hA g o e
 refine ⟨g, o, e, ?_⟩
 rw [World.cell?_of_block (w := w) (w' := u) (a := ⟨g, o + k, none⟩) (hg.block g (by omega) (fun e => by injection e with e; omega))]
 exact hc
def kR (P Q G : Int) (f : List Int) : List Int := f.map (fun x => pw G (x % Q) P)
def xZ (Q : Int) (f : List Int) (k : Nat) : Int := pv f ((k : Int) + 1) % Q
def rQ (P Q G : Int) (f : List Int) (n : Nat) : List Int := (List.range n).map (fun k => pw G (xZ Q f k % Q) P)
def ko (Q : Int) (f : List Int) (n : Nat) : List (Int × Int) := (List.range n).map (fun k : Nat => ((k : Int) + 1, xZ Q f k))
theorem Co {P Q G : Int} {f : List Int} {k : Nat} (hk : k < f.length) : (kR P Q G f).take (k + 1) = (kR P Q G f).take k ++ [pw G (f.getD k 0 % Q) P] := by
 have h1 : k < (kR P Q G f).length := by rw [kR, List.length_map]; exact hk
 rw [List.take_succ_eq_append_getElem h1]
 simp [kR, List.getD_eq_getElem?_getD, List.getElem?_eq_getElem hk]
theorem Cn (P Q G : Int) (f : List Int) (k : Nat) : rQ P Q G f (k + 1) = rQ P Q G f k ++ [pw G (xZ Q f k % Q) P] := by simp [rQ, List.range_succ]
theorem Cm (Q : Int) (f : List Int) (k : Nat) : ko Q f (k + 1) = ko Q f k ++ [((k : Int) + 1, xZ Q f k)] := by simp [ko, List.range_succ]
def uI (l : List (Int × Int)) : List Value := l.flatMap (fun p => [.int .i64 p.1, .int .i64 p.2])
theorem xB (l : List (Int × Int)) (a b : Int) : uI (l ++ [(a, b)]) = uI l ++ [.int .i64 a, .int .i64 b] := by simp [uI]
theorem D7 (l : List (Int × Int)) : (uI l).length = l.length * 2 := by
 induction l with
 | nil => rfl
 | cons p t ih => simp only [uI, List.flatMap_cons, List.length_append, List.length_cons, List.length_nil] at ih ⊢; omega
theorem BN : (Tryz.prog.info? 39).map (fun i => (i.zero, i.size, i.bytes)) = some (some (.agg #[.int .i64 0, .int .i64 0]), 2, 16) := by kernel_rfl
def Lt (P Q G : Int) (f : List Int) (need n : Nat) (h : List Int) (c : Int) (w : World) (e : Ending) (w' : World) : Prop := ∃ A ca B cb S cs, e = .returned (.tuple #[o6 need A need ca B n cb, .slice S n cs, .agg (aC h c), .int .i64 0]) ∧ Sl w' A (kR P Q G f) ∧ Sl w' B (rQ P Q G f n) ∧ Sh w' S (ko Q f n) ∧ Below w.heap.size w w'
def ni (Q need n : Int) : Bool := decide (1 ≤ n) && kM Q need n.toNat
theorem ng {Q need n : Int} (h : ni Q need n = true) : ∃ m k : Nat, need = m ∧ n = k ∧ 1 ≤ m ∧ m ≤ k ∧ k ≤ 8 ∧ (k : Int) < Q := by
 unfold ni at h
 simp only [Bool.and_eq_true, decide_eq_true_eq] at h
 obtain ⟨n1, n2, n3, n4, n5⟩ := gy h.2
 exact ⟨need.toNat, n.toNat, by omega, by omega, by omega, by omega, n2, by omega⟩
theorem jH (P Q G need n : Int) (r : Bool) (hr : Hid (ni Q need n = r)) (w : World) :
  Calls Tryz.prog 22 #[gv P Q G, .int .i64 need, .int .i64 n] w (Rt w (.bool r)) := by
 by_cases h1 : 1 ≤ n
 ·
  obtain ⟨k, rfl⟩ : ∃ k : Nat, n = k := ⟨n.toNat, by omega⟩
  refine dX P Q G need k r (aa ?_) w
  have h2 := hr.out
  unfold ni at h2
  rw [decide_eq_true h1, Bool.true_and, Int.toNat_natCast] at h2
  exact h2
 ·
  have e : r = false := by rw [← hr.out, ni, decide_eq_false h1]; rfl
  subst e
  have d0 : decide ((1 : Int) ≤ n) = false := by simp; omega
  have HX := aa (cO w P Q G)
  obtain ⟨c0, c1, c2⟩ := HX.out
  have hb := af w (aM P Q G)
  go_in
  go_wp2
  go_ret
  exact ⟨rfl, hb⟩
theorem iP {P : Program} {w : World} {ops : Array Oper} {rest : List Oper} {o : Oper} {a : Act} {Q : Exit → Act → World → Prop} (hgd : o.guard = none) (s x : Operand) (t : TypeId)
  (ho : o.op = .call { callee := .builtin .append, args := #[s, x], argTypes := #[t, t] })
  (base : Nat) (e : TypeId) (i : TypeInfo) (z : Value) (size bytes : Nat) (ht : P.underlying t = some (.slice e)) (hi : P.info? e = some i) (hz : i.zero = some z)
  (hsize : i.size = size) (hby : i.bytes = bytes) (hzs : z.cells.size = size) (hsz : 0 < size)
  (v : Value) (n : Nat) (xs : List Value) (hs : a.eval s = v) (hown : w.ownsRow base e size v n xs)
  (b2 : Nat) (v2 : Value) (m : Nat) (ys : List Value) (hx : a.eval x = v2) (hown2 : w.ownsRow b2 e size v2 m ys) (h1 : ∀ u ∈ ys, u.oneCell' = true)
  (h63 : n + m ≤ maxLen) (hbytes : (n + m) * bytes ≤ 140737488355328) (hbase : base ≤ w.heap.size)
  (h : ∀ v' w', w'.ownsRow base e size v' (n + m) (xs ++ ys) → w.grownBy w' v.ownBlock → wpList P ops Q rest (a.put o.dst v') w') : wpList P ops Q (o :: rest) a w := by
 obtain ⟨hl, h2⟩ := hown2
 rcases h2 with ⟨rfl, rfl⟩ | ⟨g, cap, cur, rfl, _, hg, hnc, _, Rb, htk⟩
 ·
  have e0 : ys = [] := List.length_eq_zero_iff.1 (by omega)
  subst e0
  exact wpList_append_own_none hgd s x t ho base e i size ht hi v n xs hs hown hx (h v w (by rw [Nat.add_zero, List.append_nil]; exact hown) (aA (Below.refl _ _) _))
 ·
  refine wpList_append_own w hgd s x t ho base e i z size bytes ht hi hz hsize hby hzs hsz v n xs hs hown ⟨g, 0, none⟩ m cap ys hx hl (fun j u hj => ?_) h1 h63 hbytes hbase (fun v' w' h3 h4 _ => h v' w' h3 h4)
  have hj2 : j < m * size := by rw [← hl]; exact (List.getElem?_eq_some_iff.1 hj).1
  rw [← htk, List.getElem?_take_of_lt hj2] at hj
  have ha : (⟨g, 0, none⟩ : Addr).add j = ⟨g, j, none⟩ := by unfold Addr.add; split <;> simp_all
  rw [ha, cell_of_row w g j _ _ _ hg]
  simpa using hj
abbrev bM (l : List (Int × Int)) (k : Nat) : Int × Int := l.getD k (0, 0)
def fq (Q : Int) (kn : Nat) (p : Int × Int) : Bool := iE kn p.1 && aQ Q p.2
def valOf : List (Int × Int) → Int → Option Int
 | [], _ => none
 | p :: t, x => if p.1 = x then some p.2 else valOf t x
def pts (l : List (Int × Int)) : Nat → List (Int × Int)
 | 0 => []
 | k + 1 => match valOf (pts l k) (bM l k).1 with
  | some _ => pts l k
  | none => pts l k ++ [bM l k]
def fI (l : List (Int × Int)) : Nat → Bool
 | 0 => true
 | k + 1 => fI l k && (match valOf (pts l k) (bM l k).1 with
  | some v => v == (bM l k).2
  | none => true)
theorem pQ {l : List (Int × Int)} {k : Nat} (h : fI l k = false) : ∀ m, k ≤ m → fI l m = false
  | 0, hm => by obtain rfl : k = 0 := by omega
                exact h
  | m + 1, hm => by
    by_cases e : k = m + 1
    · rw [← e]; exact h
    · rw [fI, pQ h m (by omega)]; rfl
theorem xJ (l : List (Int × Int)) : ∀ k, (pts l k).length ≤ k
 | 0 => Nat.le_refl _
 | k + 1 => by
  have := xJ l k
  rw [pts]
  split
  · omega
  · rw [List.length_append]; simp; omega
theorem qA {l : List (Int × Int)} : ∀ k, k ≤ l.length → ∀ p ∈ pts l k, p ∈ l
 | 0, _, p, hp => by cases hp
 | k + 1, hk, p, hp => by
  rw [pts] at hp
  split at hp
  · exact qA k (by omega) p hp
  ·
   rcases List.mem_append.1 hp with h | h
   · exact qA k (by omega) p h
   ·
    rw [List.mem_singleton.1 h, bM, List.getD_eq_getElem?_getD, List.getElem?_eq_getElem (by omega)]
    exact List.getElem_mem _
theorem uQ {D : List (Int × Int)} {x : Int} (h : valOf D x = none) : ∀ j, j < D.length → (bM D j).1 ≠ x := by
 induction D with
 | nil => exact fun j hj => absurd hj (by simp)
 | cons p t ih =>
  rw [valOf] at h
  split at h
  · cases h
  ·
   rename_i hne
   intro j hj
   cases j with
   | zero => exact hne
   | succ j => exact ih h j (by simpa using hj)
theorem iA {D : List (Int × Int)} {p : Int × Int} {j : Nat} (h : j < D.length) : bM (D ++ [p]) j = bM D j := by
 rw [bM, bM, List.getD_eq_getElem?_getD, List.getD_eq_getElem?_getD, List.getElem?_append_left h]
theorem pg {D : List (Int × Int)} {p : Int × Int} : bM (D ++ [p]) D.length = p := by
 rw [bM, List.getD_eq_getElem?_getD, List.getElem?_append_right (Nat.le_refl _), Nat.sub_self]; rfl
theorem uZ (l : List (Int × Int)) : ∀ k i j, i < (pts l k).length → j < i → (bM (pts l k) i).1 ≠ (bM (pts l k) j).1
 | 0, i, j, hi, _ => absurd hi (by simp [pts])
 | k + 1, i, j, hi, hj => by
  cases hv : valOf (pts l k) (bM l k).1 with
  | some v =>
   rw [pts, hv] at hi ⊢
   exact uZ l k i j hi hj
  | none =>
   have he : pts l (k + 1) = pts l k ++ [bM l k] := by rw [pts, hv]
   rw [he] at hi ⊢
   rw [List.length_append] at hi
   by_cases e : i = (pts l k).length
   ·
    rw [e, pg, iA (by omega)]
    exact (uQ hv j (by omega)).symm
   ·
    have hi2 : i < (pts l k).length := by simp at hi; omega
    rw [iA hi2, iA (by omega)]
    exact uZ l k i j hi2 hj
theorem He (l : List (Int × Int)) (k : Nat) : bI (ixs (pts l k)) := fun i j hi hj => by
 rw [List.length_map] at hi
 rw [bZ hi, bZ (by omega)]
 exact uZ l k i j hi hj
def qx (Q : Int) : Nat → Option Int
 | 0 => some 1
 | k + 1 => match qx Q k with
  | none => none
  | some n => if 2305843009213693951 / Q < n then none else some (n * Q)
theorem sJ {Q : Int} {k : Nat} (h : qx Q k = none) : ∀ m, k ≤ m → qx Q m = none
  | 0, hm => by obtain rfl : k = 0 := by omega
                exact h
  | m + 1, hm => by
    by_cases e : k = m + 1
    · rw [← e]; exact h
    · rw [qx, sJ h m (by omega)]
theorem iW {Q : Int} (hQ : 2 ≤ Q) : ∀ k n, qx Q k = some n → 1 ≤ n ∧ n < 2305843009213693952
 | 0, n, h => by cases h; omega
 | k + 1, n, h => by
  rw [qx] at h
  cases hp : qx Q k with
  | none => rw [hp] at h; cases h
  | some m =>
   rw [hp] at h
   dsimp only at h
   split at h
   · cases h
   ·
    rename_i hle
    cases h
    obtain ⟨m1, _⟩ := iW hQ k m hp
    have h1 : m * Q ≤ 2305843009213693951 / Q * Q := Int.mul_le_mul_of_nonneg_right (by omega) (by omega)
    have h2 : 2305843009213693951 / Q * Q ≤ 2305843009213693951 := Int.ediv_mul_le _ (by omega)
    have h3 : 1 * 2 ≤ m * Q := Int.mul_le_mul m1 hQ (by omega) (by omega)
    omega
noncomputable def kZ (Q : Int) (D : List (Int × Int)) (m : Nat) : Nat → Bool
 | 0 => true
 | k + 1 => kZ Q D m k && (decide (k < m) || smT Q ((ixs D).getD k 0) ((ixs D).take m) (dA D) m == (dA D).getD k 0)
theorem p_ {Q : Int} {D : List (Int × Int)} {m k : Nat} (h : kZ Q D m k = false) : ∀ j, k ≤ j → kZ Q D m j = false
  | 0, hm => by obtain rfl : k = 0 := by omega
                exact h
  | j + 1, hm => by
    by_cases e : k = j + 1
    · rw [← e]; exact h
    · rw [kZ, p_ h j (by omega)]; rfl
noncomputable def jB (Q : Int) (m kn : Nat) (l : List (Int × Int)) : Int :=
 if l.all (fq Q kn) = true then (if fI l l.length = true then (if m < (pts l l.length).length then 0 else if (qx Q (m - (pts l l.length).length)).isNone = true then 9 else 0) else 0) else 2
noncomputable def jA (Q : Int) (m kn : Nat) (l : List (Int × Int)) : Int :=
 if l.all (fq Q kn) = true then (if fI l l.length = true then (if m < (pts l l.length).length then (if kZ Q (pts l l.length) m (pts l l.length).length = true then 1 else 0) else (qx Q (m - (pts l l.length).length)).getD 0) else 0) else 0
theorem BL : ((List.range 114).all fun Q : Nat => !dB (Q : Int) || (List.range Q).all fun d => d == 0 || (List.range Q).any fun u => d * u % Q == 1) = true := by kernel_rfl
theorem vG {Q d : Nat} (hQ : Q ≤ 113) (hp : dB (Q : Int) = true) (h1 : 1 ≤ d) (h2 : d < Q) : ∃ u : Nat, d * u % Q = 1 := by
 have h := List.all_eq_true.1 BL Q (List.mem_range.2 (by omega))
 rw [hp, Bool.not_true, Bool.false_or] at h
 have h3 := List.all_eq_true.1 h d (List.mem_range.2 h2)
 have h4 : (d == 0) = false := by simp; omega
 rw [h4, Bool.false_or] at h3
 obtain ⟨u, _, hu⟩ := List.any_eq_true.1 h3
 exact ⟨u, by simpa using hu⟩
theorem yT {P Q G x : Int} (hQ : Q ≤ 113) (hv : au P Q G = true) (h1 : 0 < x) (h2 : x < Q) : pw G x P ≠ 1 := by
 intro h
 have hm := fO hv
 obtain ⟨hP, _, hq, _⟩ := aD hv
 obtain ⟨q, rfl⟩ := Int.eq_ofNat_of_zero_le (show 0 ≤ Q by omega)
 obtain ⟨d, rfl⟩ := Int.eq_ofNat_of_zero_le (show 0 ≤ x by omega)
 obtain ⟨u, hu⟩ := vG (Q := q) (d := d) (by omega) (bX hv) (by omega) (by omega)
 have hg2 : G ≠ 1 := by
  have h3 := hv
  simp [au] at h3
  omega
 have e1 : pw G ((d : Int) * u) P = 1 := by rw [← sK _ _ _ _ (by omega) (by omega), h, qy _ _ hP]
 have e2 : pw G ((d : Int) * u) P = pw G (((d : Int) * u) % q) P := Bf hP (by omega) (Int.mul_nonneg (by omega) (by omega)) (jM hm)
 have e3 : ((d : Int) * u) % q = 1 := by rw [← Int.natCast_mul, ← Int.natCast_emod, hu]; rfl
 rw [e3, uX, Int.emod_eq_of_lt (by have := mg hm; omega) (mh hm)] at e2
 exact hg2 (e2.symm.trans e1)
def Gc (Q i : Int) (f : List Int) : Nat → Int
 | 0 => 0
 | k + 1 => Gc Q i f k + f.getD k 0 * vT Q i k
theorem Ci (Q i : Int) : ∀ k, Cg Q (vT Q i k) (i ^ k)
 | 0 => Cg.of_eq (by rw [vT, Int.pow_zero])
 | k + 1 => by
  rw [vT, Int.pow_succ]
  exact (Cg.mod _ _).trans ((Ci Q i k).mul (Cg.refl _ _))
theorem Ch {Q i : Int} {f : List Int} : ∀ k, k ≤ f.length → Cg Q (Gc Q i f k) (pv (f.take k) i)
 | 0, _ => Cg.refl _ _
 | k + 1, h => by
  rw [Gc, iB i f k (by omega)]
  exact (Ch k (by omega)).add ((Cg.refl _ _).mul (Ci Q i k))
theorem qR {Q i : Int} {f : List Int} (hQ : 2 ≤ Q) (hf : f.all (aQ Q) = true) : ∀ k, k ≤ f.length → 0 ≤ Gc Q i f k
 | 0, _ => Int.le_refl _
 | k + 1, h => by
  rw [Gc]
  have h1 := qR (i := i) hQ hf k (by omega)
  have h2 := (cK hf (k := k) (by omega)).1
  have h3 := Int.mul_nonneg h2 (jd (i := i) hQ k).1
  omega
theorem x_ {P Q G : Int} {f : List Int} (hf : f.all (aQ Q) = true) {k : Nat} (hk : k < f.length) : (kR P Q G f).getD k 0 = pw G (f.getD k 0) P := by
 have h2 := cK hf hk
 have h3 : (kR P Q G f).getD k 0 = pw G (f.getD k 0 % Q) P := by
  rw [kR, List.getD_eq_getElem?_getD, List.getElem?_map, List.getElem?_eq_getElem hk, List.getD_eq_getElem?_getD, List.getElem?_eq_getElem hk]; rfl
 rw [h3, Int.emod_eq_of_lt h2.1 h2.2]
theorem BJ {P Q G i : Int} {f : List Int} (hQ : 2 ≤ Q) (hf : f.all (aQ Q) = true) : ∀ k, k ≤ f.length → 2 ≤ P → vF P Q (kR P Q G f) i k = pw G (Gc Q i f k) P
 | 0, _, hP => by rw [vF, Gc, xH hP]
 | k + 1, h, hP => by
  have e := jd (i := i) hQ k
  have h2 := (cK hf (k := k) (by omega)).1
  rw [vF, BJ hQ hf k (by omega) hP, x_ hf (by omega), Int.emod_eq_of_lt e.1 e.2, sK _ _ _ _ h2 e.1, Gc, Bg _ _ _ _ (qR hQ hf k (by omega)) (Int.mul_nonneg h2 e.1)]
where xH {a m : Int} (h : 2 ≤ m) : 1 = pw a 0 m := by rw [pw]; show 1 = a ^ 0 % m; rw [Int.pow_zero]; exact (Int.emod_eq_of_lt (by omega) (by omega)).symm
theorem G7 {P Q G i : Int} {f : List Int} (hv : au P Q G = true) (hf : f.all (aQ Q) = true) : vF P Q (kR P Q G f) i (kR P Q G f).length = pw G (pv f i % Q) P := by
 obtain ⟨hP, _, hq, _⟩ := aD hv
 have hl : (kR P Q G f).length = f.length := by rw [kR, List.length_map]
 rw [hl, BJ (by omega) hf f.length (Nat.le_refl _) hP, Bf hP (by omega) (qR (by omega) hf _ (Nat.le_refl _)) (jM (fO hv)), (Ch f.length (Nat.le_refl _)).eq, List.take_length]
theorem BH {P Q : Int} {cs : List Int} : ∀ (ks : List Int) (i : Nat), (∀ k, k < ks.length → ks.getD k 0 = vF P Q cs (((i + k : Nat) : Int) + 1) cs.length) → zR P Q cs i ks = true
 | [], _, _ => rfl
 | y :: t, i, h => by
  have h0 := h 0 (by simp)
  rw [zR, BH t (i + 1) (fun k hk => by
   have h1 := h (k + 1) (by simpa using hk)
   rw [List.getD_cons_succ] at h1
   rw [h1, show i + (k + 1) = i + 1 + k by omega]), Bool.and_true]
  rw [List.getD_cons_zero, Nat.add_zero] at h0
  rw [h0]
  simp
theorem qV (P Q G : Int) (f : List Int) (n : Nat) : (rQ P Q G f n).length = n := by simp [rQ]
theorem x9 (P Q G : Int) (f : List Int) : (kR P Q G f).length = f.length := by simp [kR]
theorem EU (Q : Int) (f : List Int) (n : Nat) : (ko Q f n).length = n := by simp [ko]
theorem EW (Q : Int) (f : List Int) {n k : Nat} (hk : k < n) : (ko Q f n).getD k (0, 0) = ((k : Int) + 1, xZ Q f k) := by
 simp [ko, List.getD_eq_getElem?_getD, List.getElem?_eq_getElem, hk]
theorem EX (P Q G : Int) (f : List Int) {n k : Nat} (hk : k < n) : (rQ P Q G f n).getD k 0 = pw G (xZ Q f k % Q) P := by
 simp [rQ, List.getD_eq_getElem?_getD, List.getElem?_eq_getElem, hk]
theorem Ck {P Q G : Int} {f : List Int} {m nn : Nat} (hv : au P Q G = true) (hQ : Q ≤ 113) (hf : f.all (aQ Q) = true) (hl : f.length = m) (h0 : 0 < f.getD 0 0) (h1 : 1 ≤ m) (h2 : m ≤ nn) (h3 : nn ≤ 8) (h4 : (nn : Int) < Q) : Ah P Q G (m : Int) (kR P Q G f) (rQ P Q G f nn) = true := by
 obtain ⟨hP, _, hq, _⟩ := aD hv
 have hm := fO hv
 have e1 : kM Q (m : Int) nn = true := by simp [kM]; omega
 have x0 := cK hf (k := 0) (by omega)
 have e2 : (kR P Q G f).getD 0 0 ≠ 1 := by rw [x_ hf (by omega)]; exact yT hQ hv h0 x0.2
 have e3 : (kR P Q G f).all (aV P Q) = true := by
  rw [List.all_eq_true]
  intro y hy
  obtain ⟨x, _, rfl⟩ := List.mem_map.1 hy
  exact vE hP (by omega) (Int.emod_nonneg _ (by omega)) hm
 have e4 : zR P Q (kR P Q G f) 0 (rQ P Q G f nn) = true := BH _ 0 fun k hk => by
  rw [qV] at hk
  rw [EX _ _ _ _ hk, G7 hv hf, xZ, Nat.zero_add, Int.emod_emod]
 have e5 : ((kR P Q G f).getD 0 0 == 1) = false := by simpa using e2
 rw [Ah, hv, qV, e1, x9, hl, e5, e3, e4]
 simp
structure qa (Q : Int) (f : List Int) (nn : Nat) (l : List (Int × Int)) : Prop where
 rng : ∀ k, k < l.length → 1 ≤ (bM l k).1 ∧ (bM l k).1 ≤ nn ∧ (bM l k).2 = pv f (bM l k).1 % Q
 ne : ∀ i j, i < l.length → j < i → (bM l i).1 ≠ (bM l j).1
theorem rX {x : Int} : ∀ D : List (Int × Int), (∀ j, j < D.length → (bM D j).1 ≠ x) → valOf D x = none
 | [], _ => rfl
 | p :: t, h => by
  rw [valOf, if_neg (show p.1 ≠ x from h 0 (by simp)), rX t (fun j hj => h (j + 1) (by simpa using hj))]
theorem AB {l : List (Int × Int)} {j k : Nat} (h : j < k) : bM (l.take k) j = bM l j := by
 rw [bM, bM, List.getD_eq_getElem?_getD, List.getElem?_take_of_lt h, ← List.getD_eq_getElem?_getD]
section
variable {Q : Int} {f : List Int} {nn : Nat} {l : List (Int × Int)}
theorem qa.val (h : qa Q f nn l) {k : Nat} (hk : k < l.length) : valOf (l.take k) (bM l k).1 = none := rX _ fun j hj => by
 rw [List.length_take] at hj
 rw [AB (by omega)]
 exact fun e => h.ne k j hk (by omega) e.symm
theorem qa.pts (h : qa Q f nn l) : ∀ k, k ≤ l.length → pts l k = l.take k
 | 0, _ => rfl
 | k + 1, hk => by
  rw [Go.Proofs.YticegghameafgaaGreatDoor.pts, h.pts k (by omega), h.val (by omega), List.take_add_one, List.getElem?_eq_getElem (by omega), bM, List.getD_eq_getElem?_getD, List.getElem?_eq_getElem (by omega)]
  rfl
theorem qa.fit (h : qa Q f nn l) : ∀ k, k ≤ l.length → fI l k = true
 | 0, _ => rfl
 | k + 1, hk => by
  rw [fI, h.fit k (by omega), h.pts k (by omega), h.val (by omega)]; rfl
theorem qa.all (h : qa Q f nn l) (hQ : 2 ≤ Q) : l.all (fq Q nn) = true := by
 rw [List.all_eq_true]
 intro p hp
 obtain ⟨k, hk, rfl⟩ := List.getElem_of_mem hp
 have h1 := h.rng k hk
 rw [bM, List.getD_eq_getElem?_getD, List.getElem?_eq_getElem hk] at h1
 simp only [Option.getD_some] at h1
 rw [fq, iE, h1.2.2, lX (by omega)]
 simp
 omega
theorem qa.un (h : qa Q f nn l) (hp : dB Q = true) (h8 : nn ≤ 8) (hq : (nn : Int) < Q) {i j : Nat} (hi : i < l.length) (hj : j < l.length) (hne : i ≠ j) : Un Q (bV (ixs l) i - bV (ixs l) j) := by
 have h1 : 1 ≤ (l.getD i (0, 0)).1 ∧ (l.getD i (0, 0)).1 ≤ nn ∧ _ := h.rng i hi
 have h2 : 1 ≤ (l.getD j (0, 0)).1 ∧ (l.getD j (0, 0)).1 ≤ nn ∧ _ := h.rng j hj
 show Un Q ((ixs l).getD i 0 - (ixs l).getD j 0)
 rw [bZ hi, bZ hj]
 refine qg hp h1.1 (by have := h1.2.1; omega) (by have := h1.2.1; omega) (by have := h2.1; omega) (by have := h2.2.1; omega) (by have := h2.2.1; omega) fun e => ?_
 rcases Nat.lt_or_gt_of_ne hne with h3 | h3
 · exact h.ne j i hj h3 e.symm
 · exact h.ne i j hi h3 e
end
theorem Ex {q : Int} {xs ys f : List Int} {n : Nat} (hu : ∀ i j, i < n → j < n → i ≠ j → Un q (bV xs i - bV xs j)) (hf : f.length ≤ n) (h : ∀ i, i < n → Cg q (pv f (bV xs i)) (bV ys i)) : rC q xs ys n f := by
 obtain ⟨kp, hk⟩ := kN (ys := bV ys) n hu
 obtain ⟨L, h1, h2⟩ := qF (bV xs) (bV ys) kp n
 refine ⟨kp, hk, fun X => ?_⟩
 have h3 := agree (f := f) (g := L) hu hf h1 fun i hi => (h i hi).trans ((Cg.of_eq (h2 _)).trans (xO hk n hi (Nat.le_refl _))).symm
 exact (CJ h3 X).trans (Cg.of_eq (h2 X))
theorem mM {xs : List Int} {m i : Nat} (h : i < m) : bV (xs.take m) i = bV xs i := by
 show (xs.take m).getD i 0 = xs.getD i 0
 rw [List.getD_eq_getElem?_getD, List.getElem?_take_of_lt h, ← List.getD_eq_getElem?_getD]
theorem qa.smT {Q : Int} {f : List Int} {nn m : Nat} {l : List (Int × Int)} (h : qa Q f nn l) (hp : dB Q = true) (h8 : nn ≤ 8) (hq : (nn : Int) < Q) (hf : f.length ≤ m) (hm : m ≤ l.length) (t : Int) : smT Q t ((ixs l).take m) (dA l) m = pv f t % Q := by
 have hu : ∀ i j, i < m → j < m → i ≠ j → Un Q (bV ((ixs l).take m) i - bV ((ixs l).take m) j) := fun i j hi hj hne => by
  rw [mM hi, mM hj]
  exact h.un hp h8 hq (by omega) (by omega) hne
 refine (jG (fB hp) (by rw [List.length_take, List.length_map]; omega) (Ex hu hf fun i hi => ?_) hu t).symm
 rw [mM hi]
 have h1 := (h.rng i (by omega)).2.2
 show Cg Q (pv f ((ixs l).getD i 0)) ((dA l).getD i 0)
 rw [bZ (by omega), lU (by omega), h1]
 exact (Cg.mod _ _).symm
theorem qa.aft {Q : Int} {f : List Int} {nn m : Nat} {l : List (Int × Int)} (h : qa Q f nn l) (hp : dB Q = true) (h8 : nn ≤ 8) (hq : (nn : Int) < Q) (hf : f.length ≤ m) (hm : m ≤ l.length) : ∀ k, k ≤ l.length → kZ Q l m k = true
 | 0, _ => rfl
 | k + 1, hk => by
  rw [kZ, h.aft hp h8 hq hf hm k (by omega), h.smT hp h8 hq hf hm, bZ (by omega), lU (by omega), (h.rng k (by omega)).2.2]
  simp
theorem FR {Q : Int} (h0 : 1 ≤ Q) (hQ : Q ≤ 113) : ∀ k : Nat, Q ^ k ≤ 113 ^ k
 | 0 => by rw [Int.pow_zero, Int.pow_zero]; exact Int.le_refl 1
 | k + 1 => by
  rw [Int.pow_succ, Int.pow_succ]
  exact Int.mul_le_mul (FR h0 hQ k) hQ (by omega) (Int.pow_nonneg (by decide))
theorem GL (a b : Nat) (h : a ≤ b) : (113 : Int) ^ a ≤ 113 ^ b := by
 have h1 : (113 : Nat) ^ a ≤ 113 ^ b := Nat.pow_le_pow_right (by decide) h
 have h2 : ((113 ^ a : Nat) : Int) ≤ ((113 ^ b : Nat) : Int) := Int.ofNat_le.2 h1
 rwa [Int.natCast_pow, Int.natCast_pow] at h2
theorem Kz {Q : Int} (h0 : 1 ≤ Q) (hQ : Q ≤ 113) : 2305843009213693951 / 113 ≤ 2305843009213693951 / Q := by
 rw [Int.le_ediv_iff_mul_le (by omega)]
 have h1 : 2305843009213693951 / 113 * Q ≤ 2305843009213693951 / 113 * 113 := Int.mul_le_mul_of_nonneg_left hQ (by decide)
 have h2 : (2305843009213693951 : Int) / 113 * 113 ≤ 2305843009213693951 := Int.ediv_mul_le _ (by decide)
 omega
theorem xG {Q : Int} (h0 : 1 ≤ Q) (hQ : Q ≤ 113) : ∀ k, k ≤ 8 → qx Q k = some (Q ^ k)
 | 0, _ => by rw [qx, Int.pow_zero]
 | k + 1, hk => by
  have h1 : Q ^ k ≤ 113 ^ k := FR h0 hQ k
  have h2 : (113 : Int) ^ k ≤ 113 ^ 7 := GL k 7 (by omega)
  have h3 : (113 : Int) ^ 7 ≤ 2305843009213693951 / 113 := by decide +kernel
  have h4 : 2305843009213693951 / 113 ≤ 2305843009213693951 / Q := Kz h0 hQ
  rw [qx, xG h0 hQ k (by omega)]
  dsimp only
  rw [if_neg (by omega), Int.pow_succ]
section
variable {Q : Int} {f : List Int} {nn m : Nat} {l : List (Int × Int)}
theorem qa.ply (h : qa Q f nn l) (hp : dB Q = true) (hQ : Q ≤ 113) (h8 : nn ≤ 8) (hq : (nn : Int) < Q) (hf : f.length ≤ m) (hm : m ≤ 8) : jB Q m nn l = 0 ∧ jA Q m nn l = if l.length ≤ m then Q ^ (m - l.length) else 1 := by
 have q2 := fB hp
 have hl : Go.Proofs.YticegghameafgaaGreatDoor.pts l l.length = l := by rw [h.pts l.length (Nat.le_refl _), List.take_length]
 unfold jB jA
 rw [if_pos (h.all q2), if_pos (h.fit l.length (Nat.le_refl _)), if_pos (h.all q2), if_pos (h.fit l.length (Nat.le_refl _)), hl]
 by_cases hlt : m < l.length
 ·
  rw [if_pos hlt, if_pos hlt, if_pos (h.aft hp h8 hq hf (by omega) l.length (Nat.le_refl _)), if_neg (by omega)]
  exact ⟨rfl, rfl⟩
 ·
  rw [if_neg hlt, if_neg hlt, xG (by omega) hQ _ (by omega)]
  exact ⟨by simp, by rw [if_pos (by omega)]; rfl⟩
end
theorem qQ {W u u' : World} {r : Option Nat} {b : Nat} (h : W.grownBy u (some b)) (h2 : u.grownBy u' r) (hr : ∀ j, r = some j → W.heap.size ≤ j) : W.grownBy u' (some b) :=
 ⟨h2.os.trans h.os, h2.tape.trans h.tape, h2.output.trans h.output, Nat.le_trans h.size h2.size, fun k hk hne => (h2.block k (Nat.lt_of_lt_of_le hk h.size) (fun e => by have := hr k e.symm; omega)).trans (h.block k hk hne)⟩
def CQ (v : Value) : Prop := ∀ k x, v ≠ .int k x
theorem lF (A : Option Addr) (n c : Nat) : CQ (.slice A n c) := fun k x e => by cases e
theorem Aw {w u : World} {A : Option Addr} {xs : List Int} {b : Nat} {need : Int} {v v2 v3 v4 : Value} (h : Sl w A xs) (hg : w.grownBy u (some b)) (h1 : bE w b need v v2) (h2 : bE u b need v3 v4) (n1 : CQ v) (n2 : CQ v2) : Sl u A xs := fun k hk => by
 obtain ⟨g, o, e, hc⟩ := h k hk
 refine ⟨g, o, e, ?_⟩
 by_cases hb : g = b
 ·
  subst hb
  generalize o + k = j at hc ⊢
  rw [cell_of_row w g j _ _ _ h1] at hc
  rw [cell_of_row u g j _ _ _ h2]
  match j, hc with
  | 0, hc => exact hc
  | 1, hc => exact absurd (by simpa using hc) (n1 _ _)
  | 2, hc => exact absurd (by simpa using hc) (n2 _ _)
  | j + 3, hc => simp at hc
 ·
  by_cases hs : g < w.heap.size
  ·
   rw [World.cell?_of_block (w := w) (w' := u) (a := ⟨g, o + k, none⟩) (hg.block g hs (fun e => by injection e with e; exact hb e))]
   exact hc
  ·
   exfalso
   have h0 : w.heap[g]? = none := Array.getElem?_eq_none (by omega)
   simp [World.cell?, h0] at hc
theorem mX {w : World} {b n : Nat} {v : Value} {xs : List Int} (h : w.ownsRow b 3 1 v n (xs.map (Value.int .i64))) : ∃ A c, v = .slice A n c ∧ n ≤ c ∧ xs.length = n ∧ Sl w A xs ∧ ∀ g o, A = some ⟨g, o, none⟩ → b ≤ g ∧ g < w.heap.size := by
 have hl : xs.length = n := by have := h.1; rw [List.length_map] at this; omega
 have hO : aT w b v xs := by unfold aT; rw [hl]; exact h
 obtain ⟨_, h2⟩ := h
 rcases h2 with ⟨rfl, h0⟩ | ⟨g, cap, cur, rfl, hbg, hg, hnc, _⟩
 ·
  have e : xs = [] := List.eq_nil_of_length_eq_zero (by omega)
  subst e
  exact ⟨none, 0, by rw [h0], by omega, hl, sl0 _ _, fun g o e => by cases e⟩
 ·
  obtain ⟨A, c, e, hS, _⟩ := hO.sl
  cases e
  exact ⟨_, _, by rw [← hl], hnc, hl, hS, fun g o e => by cases e; exact ⟨hbg, fE hg⟩⟩
theorem xA (l : List (Int × Int)) : ∀ k, k < l.length → (uI l)[k * 2]? = some (.int .i64 (l.getD k (0, 0)).1) ∧ (uI l)[k * 2 + 1]? = some (.int .i64 (l.getD k (0, 0)).2) := by
 induction l with
 | nil => intro k hk; simp at hk
 | cons p t ih =>
  intro k hk
  cases k with
  | zero => exact ⟨rfl, rfl⟩
  | succ j =>
   have h := ih j (by simpa using hk)
   have e : uI (p :: t) = .int .i64 p.1 :: .int .i64 p.2 :: uI t := rfl
   rw [e, show (j + 1) * 2 = j * 2 + 1 + 1 by omega, List.getElem?_cons_succ, List.getElem?_cons_succ, show j * 2 + 1 + 1 + 1 = (j * 2 + 1) + 1 + 1 by omega, List.getElem?_cons_succ, List.getElem?_cons_succ, List.getD_cons_succ]
   exact h
theorem mV {w : World} {b n : Nat} {v : Value} {l : List (Int × Int)} (h : w.ownsRow b 39 2 v n (uI l)) : ∃ A c, v = .slice A n c ∧ l.length = n ∧ Sh w A l ∧ ∀ g o, A = some ⟨g, o, none⟩ → b ≤ g ∧ g < w.heap.size := by
 obtain ⟨h1, h2⟩ := h
 have hl : l.length = n := by rw [D7] at h1; omega
 rcases h2 with ⟨rfl, h0⟩ | ⟨g, cap, cur, rfl, hbg, hg, hnc, _, hcs, htk⟩
 ·
  have e : l = [] := List.eq_nil_of_length_eq_zero (by omega)
  subst e
  exact ⟨none, 0, by rw [h0], hl, fun k hk => absurd hk (by simp), fun g o e => by cases e⟩
 ·
  refine ⟨some ⟨g, 0, none⟩, cap, rfl, hl, fun k hk => ⟨g, 0, rfl, ?_, ?_⟩, fun g o e => by cases e; exact ⟨hbg, fE hg⟩⟩
  ·
   have h3 := (xA l k hk).1
   rw [← htk, List.getElem?_take_of_lt (by omega)] at h3
   rw [cell_of_row w g _ _ _ _ hg, Nat.zero_add]
   simpa using h3
  ·
   have h3 := (xA l k hk).2
   rw [← htk, List.getElem?_take_of_lt (by omega)] at h3
   rw [cell_of_row w g _ _ _ _ hg, Nat.zero_add]
   simpa using h3
theorem qp {w : World} {A : Option Addr} {xs : List Int} {k : Nat} {cs : Array Value} (h : Sl w A xs) (hA : ∀ g o, A = some ⟨g, o, none⟩ → g ≠ k) : Sl (w.setRow k cs) A xs := fun j hj => by
 obtain ⟨g, o, e, hc⟩ := h j hj
 exact ⟨g, o, e, by rw [cell_setRow_other _ _ _ _ (hA g o e)]; exact hc⟩
theorem AA {w : World} {A : Option Addr} {l : List (Int × Int)} {k : Nat} {cs : Array Value} (h : Sh w A l) (hA : ∀ g o, A = some ⟨g, o, none⟩ → g ≠ k) : Sh (w.setRow k cs) A l := fun j hj => by
 obtain ⟨g, o, e, hc, hd⟩ := h j hj
 exact ⟨g, o, e, by rw [cell_setRow_other _ _ _ _ (hA g o e)]; exact hc, by rw [cell_setRow_other _ _ _ _ (hA g o e)]; exact hd⟩
theorem yL {w u : World} {A : Option Addr} {xs : List Int} {b : Nat} (h : Sl w A xs) (hg : w.grownBy u (some b)) (hA : ∀ g o, A = some ⟨g, o, none⟩ → g ≠ b) : Sl u A xs := fun k hk => by
 obtain ⟨g, o, e, hc⟩ := h k hk
 refine ⟨g, o, e, ?_⟩
 by_cases hs : g < w.heap.size
 ·
  rw [World.cell?_of_block (w := w) (w' := u) (a := ⟨g, o + k, none⟩) (hg.block g hs (fun e2 => by injection e2 with e2; exact hA g o e e2))]
  exact hc
 ·
  exfalso
  have h0 : w.heap[g]? = none := Array.getElem?_eq_none (by omega)
  simp [World.cell?, h0] at hc
theorem E5 {q a b : Int} (h : Cg q a b) : a % q = b % q := by
 obtain ⟨t, rfl⟩ := h
 rw [Int.add_mul_emod_self_left]
theorem mW {w w' : World} {b n s : Nat} {T : TypeId} {v : Value} {xs : List Value} {k : Nat} (h : w.ownsRow b T s v n xs) (hg : w.grownBy w' (some k)) (hk : k < b) : w'.ownsRow b T s v n xs :=
 World.ownsRow.kept h hg (Or.inr (fun e => by have := (World.ownsRow.lt h _ e).1; omega))
theorem own_below {w w' : World} {b n s : Nat} {T : TypeId} {v : Value} {xs : List Value} (h : w.ownsRow b T s v n xs) (hb : Below w.heap.size w w') : w'.ownsRow b T s v n xs :=
 World.ownsRow.kept h (aA hb none) (by cases hq : v.ownBlock with | none => exact Or.inl rfl | some j => exact Or.inr (by simp))
theorem pI {w w' : World} {b n s : Nat} {T : TypeId} {v u : Value} {xs : List Value} (h : w.ownsRow b T s v n xs) (hg : w.grownBy w' u.ownBlock) (hne : ∀ j, v.ownBlock = some j → u.ownBlock ≠ some j) : w'.ownsRow b T s v n xs := by
 refine World.ownsRow.kept h hg ?_
 cases hq : v.ownBlock with
 | none => exact Or.inl rfl
 | some j => exact Or.inr (fun e => hne j hq e.symm)
end Go.Proofs.YticegghameafgaaGreatDoor
namespace Go.Proofs.YticegghameafgaaGreatDoor
open Go.RowKit jk Go.Maps
theorem yJ (D : List (Int × Int)) (p : Int × Int) (a : Int) : valOf (D ++ [p]) a = (match valOf D a with | some v => some v | none => if p.1 = a then some p.2 else none) := by
 induction D with
 | nil => rfl
 | cons q t ih =>
  rw [List.cons_append, valOf, valOf]
  by_cases h : q.1 = a
  · rw [if_pos h, if_pos h]
  · rw [if_neg h, if_neg h, ih]
theorem zZ (w : World) : (zeroValue 3).run Tryz.prog w = .ok (.int .i64 0) w := by kernel_rfl
theorem tu {a b : Int} (h : (DataW.lit (.int .i64 a) : DataW Unit) = .lit (.int .i64 b)) : a = b := by
 injection h with h1
 injection h1
def yA (pt : List (Int × Int)) (wr : World) (B kk : Nat) : Prop := ∃ D : DataW Unit, wr.ownsMap Tryz.prog 3 (plainElem Tryz.prog 3) B kk D ∧ ∀ a : Int, has D (.int .i64 a) = (valOf pt a).isSome ∧ ∀ v, valOf pt a = some v → D.atKey (.int .i64 a) (.lit (.int .i64 0)) = .lit (.int .i64 v)
theorem BA (w : World) : yA [] (w.alloc (.map #[] 0)) w.heap.size 0 := ⟨.map [], World.ownsMap_made _ _ _ _, fun a => ⟨by simp [has, valOf], fun v h => by cases h⟩⟩
theorem Ez {pt : List (Int × Int)} {w' : World} {B kk : Nat} {x v : Int} {D : DataW Unit} (ht : Tidy D) (hx : valOf pt x = none)
  (h1 : w'.ownsMap Tryz.prog 3 (plainElem Tryz.prog 3) B (kk + 1) (D.put (.int .i64 x) (.lit (.int .i64 v))))
  (hA : ∀ a : Int, has D (.int .i64 a) = (valOf pt a).isSome ∧ ∀ v, valOf pt a = some v → D.atKey (.int .i64 a) (.lit (.int .i64 0)) = .lit (.int .i64 v)) : yA (pt ++ [(x, v)]) w' B (kk + 1) := by
 refine ⟨_, h1, fun a => ?_⟩
 rw [yJ]
 by_cases hax : a = x
 ·
  subst hax
  rw [hx]
  dsimp only
  rw [if_pos rfl]
  refine ⟨has_put_same ht.isMap (by simp [WideAt.IsKeyLit]) _, fun v' h => ?_⟩
  cases h
  exact atKey_put_same ht.isMap (by simp [WideAt.IsKeyLit]) _ _
 ·
  rw [has_put_other (jQ hax), atKey_put_other (jQ hax)]
  have e : (match valOf pt a with | some v => some v | none => if (x, v).1 = a then some (x, v).2 else none) = valOf pt a := by
   cases valOf pt a with
   | some _ => rfl
   | none => exact if_neg (fun e => hax e.symm)
  rw [e]
  exact hA a
theorem yA.blk {pt : List (Int × Int)} {w w' : World} {B kk : Nat} (h : yA pt w B kk) (hb : w'.heap[B]? = w.heap[B]?) : yA pt w' B kk := by
 obtain ⟨D, ⟨es, clock, h1, h2⟩, h3⟩ := h
 exact ⟨D, ⟨es, clock, hb.trans h1, h2⟩, h3⟩
theorem yA.obj {pt : List (Int × Int)} {w : World} {B kk : Nat} (h : yA pt w B kk) : ∃ o, w.heap[B]? = some o := by
 obtain ⟨D, ⟨es, clock, h1, h2⟩, h3⟩ := h
 exact ⟨_, h1⟩
theorem yA.lt {pt : List (Int × Int)} {w : World} {B kk : Nat} (h : yA pt w B kk) : B < w.heap.size := by
 obtain ⟨o, h1⟩ := h.obj
 exact fE h1
structure dH (w0 : World) (hb : Nat) (box : Obj) (mb : Nat) (mo : Obj) (vX : Value) (nX : Nat) (xs : List Int) (vY : Value) (nY : Nat) (ys : List Int) (u : World) : Prop where
 a : eH w0 hb box vX nX xs vY nY ys u
 c : eH w0 mb mo vX nX xs vY nY ys u
section
variable {w0 : World} {hb : Nat} {box : Obj} {mb : Nat} {mo : Obj} {vX vY : Value} {nX nY : Nat} {xs ys : List Int} {u u2 : World}
theorem dH.b (h : dH w0 hb box mb mo vX nX xs vY nY ys u) : Below w0.heap.size w0 u := h.a.b
theorem dH.x (h : dH w0 hb box mb mo vX nX xs vY nY ys u) : u.heap[hb]? = some box := h.a.x
theorem dH.ox (h : dH w0 hb box mb mo vX nX xs vY nY ys u) : u.ownsRow w0.heap.size 3 1 vX nX (xs.map (Value.int .i64)) := h.a.ox
theorem dH.oy (h : dH w0 hb box mb mo vX nX xs vY nY ys u) : u.ownsRow w0.heap.size 3 1 vY nY (ys.map (Value.int .i64)) := h.a.oy
theorem dH.nxy (h : dH w0 hb box mb mo vX nX xs vY nY ys u) : ∀ j, vX.ownBlock = some j → vY.ownBlock ≠ some j := h.a.nxy
theorem dH.below (h : dH w0 hb box mb mo vX nX xs vY nY ys u) (hq : Below u.heap.size u u2) : dH w0 hb box mb mo vX nX xs vY nY ys u2 := ⟨h.a.below hq, h.c.below hq⟩
theorem dH.appX (h : dH w0 hb box mb mo vX nX xs vY nY ys u) {a : Int} {g cap : Nat} (ho : u2.ownsRow w0.heap.size 3 1 (.slice (some ⟨g, 0, none⟩) (nX + 1) cap) (nX + 1) (xs.map (Value.int .i64) ++ [.int .i64 a])) (hg : u.grownBy u2 vX.ownBlock) (hgg : vX.ownBlock = some g ∨ g = u.heap.size) :
  dH w0 hb box mb mo (.slice (some ⟨g, 0, none⟩) (nX + 1) cap) (nX + 1) (xs ++ [a]) vY nY ys u2 := ⟨h.a.appX ho hg hgg, h.c.appX ho hg hgg⟩
theorem dH.appY (h : dH w0 hb box mb mo vX nX xs vY nY ys u) {a : Int} {g cap : Nat} (ho : u2.ownsRow w0.heap.size 3 1 (.slice (some ⟨g, 0, none⟩) (nY + 1) cap) (nY + 1) (ys.map (Value.int .i64) ++ [.int .i64 a])) (hg : u.grownBy u2 vY.ownBlock) (hgg : vY.ownBlock = some g ∨ g = u.heap.size) :
  dH w0 hb box mb mo vX nX xs (.slice (some ⟨g, 0, none⟩) (nY + 1) cap) (nY + 1) (ys ++ [a]) u2 := ⟨h.a.appY ho hg hgg, h.c.appY ho hg hgg⟩
theorem aR.newB (h : dH w0 hb box mb mo vX nX xs vY nY ys u) (a : Int) : aR (u.alloc (.cells #[.int .i64 a] 3)) u.heap.size a vX vY := aR.new h.a a
end
theorem sw (q t : Int) (xs ys : List Int) (m : Nat) : ∀ k, k ≤ m → smT q t xs (ys.take m) k = smT q t xs ys k
 | 0, _ => rfl
 | k + 1, h => by
  rw [smT, smT, sw q t xs ys m k (by omega), List.getD_eq_getElem?_getD, List.getElem?_take_of_lt (by omega), ← List.getD_eq_getElem?_getD]
theorem p8 {Q : Int} {kn : Nat} {l : List (Int × Int)} (h : l.all (fq Q kn) = true) {p : Int × Int} (hp : p ∈ l) : iE kn p.1 = true ∧ aQ Q p.2 = true := by
 have h9 := List.all_eq_true.1 h p hp
 simpa [fq] using h9
theorem Eo {Q : Int} {kn : Nat} {l : List (Int × Int)} (h : l.all (fq Q kn) = true) (k : Nat) (hk : k ≤ l.length) (j : Nat) (hj : j < (pts l k).length) : iE kn (bM (pts l k) j).1 = true ∧ aQ Q (bM (pts l k) j).2 = true := by
 refine p8 h (qA k hk _ ?_)
 rw [bM, List.getD_eq_getElem?_getD, List.getElem?_eq_getElem hj]
 exact List.getElem_mem _
theorem xK {Q : Int} {m kn : Nat} {l : List (Int × Int)} (h : l.all (fq Q kn) = false) : jA Q m kn l = 0 ∧ jB Q m kn l = 2 := by
 rw [jA, jB, h]; exact ⟨rfl, rfl⟩
theorem yX {Q : Int} {m kn : Nat} {l : List (Int × Int)} (h : l.all (fq Q kn) = true) (h2 : fI l l.length = false) : jA Q m kn l = 0 ∧ jB Q m kn l = 0 := by
 rw [jA, jB, h, h2]; exact ⟨rfl, rfl⟩
theorem Er {Q : Int} {m kn : Nat} {l : List (Int × Int)} (h : l.all (fq Q kn) = true) (h2 : fI l l.length = true) (h3 : ¬ m < (pts l l.length).length) (h4 : qx Q (m - (pts l l.length).length) = none) : jA Q m kn l = 0 ∧ jB Q m kn l = 9 := by
 rw [jA, jB, if_pos h, if_pos h2, if_neg h3, if_pos h, if_pos h2, if_neg h3, h4]; exact ⟨rfl, rfl⟩
theorem Ep {Q N : Int} {m kn : Nat} {l : List (Int × Int)} (h : l.all (fq Q kn) = true) (h2 : fI l l.length = true) (h3 : ¬ m < (pts l l.length).length) (h4 : qx Q (m - (pts l l.length).length) = some N) : jA Q m kn l = N ∧ jB Q m kn l = 0 := by
 rw [jA, jB, if_pos h, if_pos h2, if_neg h3, if_pos h, if_pos h2, if_neg h3, h4]; exact ⟨rfl, rfl⟩
theorem xL {Q : Int} {m kn : Nat} {l : List (Int × Int)} (h : l.all (fq Q kn) = true) (h2 : fI l l.length = true) (h3 : m < (pts l l.length).length) (b : Bool) (h4 : kZ Q (pts l l.length) m (pts l l.length).length = b) : jA Q m kn l = (if b = true then 1 else 0) ∧ jB Q m kn l = 0 := by
 rw [jA, jB, if_pos h, if_pos h2, if_pos h3, if_pos h, if_pos h2, if_pos h3, h4]; exact ⟨rfl, rfl⟩
end Go.Proofs.YticegghameafgaaGreatDoor